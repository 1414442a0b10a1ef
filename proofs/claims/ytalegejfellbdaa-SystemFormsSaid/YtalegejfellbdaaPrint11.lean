/- Written by a program of this session out of the translation, with contracts given by hand beside. -/
import Derived.Test.YtalegejfellbdaaPrint0
import Derived.Test.YtalegejfellbdaaPrint5
import Derived.Test.YtalegejfellbdaaPrint6
import Derived.Test.YtalegejfellbdaaPrint8
import Derived.Test.YtalegejfellbdaaPrint9
import Derived.Test.YtalegejfellbdaaPrint10
namespace Go.Proofs.Ytalegejfellbdaa.Print
open Go.RowKit Go.Proofs.YtalegejfellbdaaW.PrintWords Go.Proofs.YtalegejfellbdaaW.PrintLast Go.Proofs.YtalegejfellbdaaW.PrintMore
attribute [local go_sem] max2_int min2_int max_two min_two max_three min_three max_four min_four   -- for this text's walks alone
set_option linter.unusedVariables false
set_option linter.unusedSimpArgs false

/-! ### system_Signs: function 11 -/
def system_Signs.j0 : Nat → Int → Bool → ByteArray → ByteArray → Int → List ByteArray → List Int → ByteArray → ByteArray → ByteArray → ByteArray → Bool → List (S41) → Int → ByteArray → ByteArray → ByteArray → Int → Option (ByteArray × Bool)
  | 0, _, _, _, _, _, _, _, _, _, _, _, _, _, _, _, _, _, _ => none
  | k + 1, x1, x19, x143000, x143001, x143002, x143003, x143004, x143005, x143006, x143007, x143008, x143009, x143010, x143011, x143012, x143013, x143014, x143015 => if x19 = true then (some ((⟨#[]⟩ : ByteArray), false)) else (if x143001.toList = ([99, 121, 99, 108, 105, 99] : List UInt8) then (if (x143003.length : Int) = 0 then (none) else (if 0 ≤ (Int.tmod (wrap64 ((Int.tmod (wrap64 (x1 - 1)) (x143003.length : Int)) + (x143003.length : Int))) (x143003.length : Int)) then (if (Int.tmod (wrap64 ((Int.tmod (wrap64 (x1 - 1)) (x143003.length : Int)) + (x143003.length : Int))) (x143003.length : Int)) < (x143003.length : Int) then (some (rdOf ByteArray.empty x143003 (Int.tmod (wrap64 ((Int.tmod (wrap64 (x1 - 1)) (x143003.length : Int)) + (x143003.length : Int))) (x143003.length : Int)), true)) else (none)) else (none))) else (if x143001.toList = ([102, 105, 120, 101, 100] : List UInt8) then (if x1 ≥ x143002 then (if (IntKind.u64.wrap ((IntKind.u64.wrap (x1)) - (IntKind.u64.wrap (x143002)))) < (IntKind.u64.wrap ((x143003.length : Int))) then (if 0 ≤ (IntKind.u64.wrap ((IntKind.u64.wrap (x1)) - (IntKind.u64.wrap (x143002)))) then (if (IntKind.u64.wrap ((IntKind.u64.wrap (x1)) - (IntKind.u64.wrap (x143002)))) < (x143003.length : Int) then (some (rdOf ByteArray.empty x143003 (IntKind.u64.wrap ((IntKind.u64.wrap (x1)) - (IntKind.u64.wrap (x143002)))), true)) else (none)) else (none)) else (some ((⟨#[]⟩ : ByteArray), false))) else (some ((⟨#[]⟩ : ByteArray), false))) else (if x143001.toList = ([115, 121, 109, 98, 111, 108, 105, 99] : List UInt8) then (if (x143003.length : Int) = 0 then (none) else (if x1 ≥ 1 then (if (wrap64 (Int.tdiv (wrap64 ((wrap64 (x1 + (x143003.length : Int))) - 1)) (x143003.length : Int))) ≤ 60 then (if 0 ≤ (Int.tmod (wrap64 (x1 - 1)) (x143003.length : Int)) then (if (Int.tmod (wrap64 (x1 - 1)) (x143003.length : Int)) < (x143003.length : Int) then ((strings_Repeat.f (rdOf ByteArray.empty x143003 (Int.tmod (wrap64 (x1 - 1)) (x143003.length : Int))) (wrap64 (Int.tdiv (wrap64 ((wrap64 (x1 + (x143003.length : Int))) - 1)) (x143003.length : Int)))).bind fun t147 => (some (t147, true))) else (none)) else (none)) else (some ((⟨#[]⟩ : ByteArray), false))) else (some ((⟨#[]⟩ : ByteArray), false)))) else (if x143001.toList = ([97, 108, 112, 104, 97, 98, 101, 116, 105, 99] : List UInt8) then (if x1 ≥ 1 then ((system_positional.f k x1 (x143003.length : Int) false).bind fun t148 => ((system_chosen.f x143000 x143001 x143002 x143003 x143004 x143005 x143006 x143007 x143008 x143009 x143010 x143011 x143012 x143013 x143014 x143015 t148).bind fun bt151 => (some (bt151.1, bt151.2)))) else (some ((⟨#[]⟩ : ByteArray), false))) else (if x143001.toList = ([110, 117, 109, 101, 114, 105, 99] : List UInt8) then (if x1 ≥ 0 then ((system_positional.f k x1 (x143003.length : Int) true).bind fun t153 => ((system_chosen.f x143000 x143001 x143002 x143003 x143004 x143005 x143006 x143007 x143008 x143009 x143010 x143011 x143012 x143013 x143014 x143015 t153).bind fun bt156 => (some (bt156.1, bt156.2)))) else (some ((⟨#[]⟩ : ByteArray), false))) else (if x143001.toList = ([97, 100, 100, 105, 116, 105, 118, 101] : List UInt8) then (if x1 ≥ 0 then ((system_additive.f k x143000 x143001 x143002 x143003 x143004 x143005 x143006 x143007 x143008 x143009 x143010 x143011 x143012 x143013 x143014 x143015 x1).bind fun bt158 => (some (bt158.1, bt158.2))) else (some ((⟨#[]⟩ : ByteArray), false))) else (some ((⟨#[]⟩ : ByteArray), false))))))))
def system_Signs.f (k : Nat) (a0_0 : ByteArray) (a0_1 : ByteArray) (a0_2 : Int) (l0_3 : List ByteArray) (l0_4 : List Int) (a0_5 : ByteArray) (a0_6 : ByteArray) (a0_7 : ByteArray) (a0_8 : ByteArray) (a0_9 : Bool) (l0_10 : List (S41)) (a0_11 : Int) (a0_12 : ByteArray) (a0_13 : ByteArray) (a0_14 : ByteArray) (a0_15 : Int) (a1 : Int) : Option (ByteArray × Bool) := (system_May.f k a0_0 a0_1 a0_2 l0_3 l0_4 a0_5 a0_6 a0_7 a0_8 a0_9 l0_10 a0_11 a0_12 a0_13 a0_14 a0_15).bind fun t143 => (if t143 = true then (if a1 < (-2147483648) then (system_Signs.j0 k a1 true a0_0 a0_1 a0_2 l0_3 l0_4 a0_5 a0_6 a0_7 a0_8 a0_9 l0_10 a0_11 a0_12 a0_13 a0_14 a0_15) else (system_Signs.j0 k a1 (decide (a1 > 2147483648)) a0_0 a0_1 a0_2 l0_3 l0_4 a0_5 a0_6 a0_7 a0_8 a0_9 l0_10 a0_11 a0_12 a0_13 a0_14 a0_15)) else (system_Signs.j0 k a1 true a0_0 a0_1 a0_2 l0_3 l0_4 a0_5 a0_6 a0_7 a0_8 a0_9 l0_10 a0_11 a0_12 a0_13 a0_14 a0_15))
theorem system_Signs.mono_l : ∀ k, (∀ y0 y1 y2 y3 y4 y5 y6 y7 y8 y9 y10 y11 y12 y13 y14 y15 y16 y17, LeO (system_Signs.j0 k y0 y1 y2 y3 y4 y5 y6 y7 y8 y9 y10 y11 y12 y13 y14 y15 y16 y17) (system_Signs.j0 (k + 1) y0 y1 y2 y3 y4 y5 y6 y7 y8 y9 y10 y11 y12 y13 y14 y15 y16 y17))
  | 0 => fun _ _ _ _ _ _ _ _ _ _ _ _ _ _ _ _ _ _ r h => by simp [system_Signs.j0] at h
  | k + 1 => by
    have ih0 := system_Signs.mono_l k
    · intro y0 y1 y2 y3 y4 y5 y6 y7 y8 y9 y10 y11 y12 y13 y14 y15 y16 y17
      unfold system_Signs.j0
      repeat' first
      | (with_reducible exact ih0 _ _ _ _ _ _ _ _ _ _ _ _ _ _ _ _ _ _)
      | (with_reducible exact system_May.mono _ _ _ _ _ _ _ _ _ _ _ _ _ _ _ _ _)
      | (with_reducible exact system_additive.mono _ _ _ _ _ _ _ _ _ _ _ _ _ _ _ _ _ _)
      | (with_reducible exact system_positional.mono _ _ _ _)
      | (with_reducible exact LeO.refl _)
      | (with_reducible exact LeO.none _)
      | (with_reducible refine LeO.ite ?_ ?_)
      | (with_reducible refine LeO.bind ?_ (fun _ => ?_))
      | exact ih0 _ _ _ _ _ _ _ _ _ _ _ _ _ _ _ _ _ _
      | exact system_May.mono _ _ _ _ _ _ _ _ _ _ _ _ _ _ _ _ _
      | exact system_additive.mono _ _ _ _ _ _ _ _ _ _ _ _ _ _ _ _ _ _
      | exact system_positional.mono _ _ _ _
      | exact LeO.none _
      | refine LeO.ite ?_ ?_
      | refine LeO.bind ?_ (fun _ => ?_)
theorem system_Signs.mono : ∀ a0 a1 a2 a3 a4 a5 a6 a7 a8 a9 a10 a11 a12 a13 a14 a15 a16 k, LeO (system_Signs.f k a0 a1 a2 a3 a4 a5 a6 a7 a8 a9 a10 a11 a12 a13 a14 a15 a16) (system_Signs.f (k + 1) a0 a1 a2 a3 a4 a5 a6 a7 a8 a9 a10 a11 a12 a13 a14 a15 a16) := by
  intro a0 a1 a2 a3 a4 a5 a6 a7 a8 a9 a10 a11 a12 a13 a14 a15 a16 k
  have ih0 := system_Signs.mono_l k
  unfold system_Signs.f
  repeat' first
      | (with_reducible exact ih0 _ _ _ _ _ _ _ _ _ _ _ _ _ _ _ _ _ _)
      | (with_reducible exact system_May.mono _ _ _ _ _ _ _ _ _ _ _ _ _ _ _ _ _)
      | (with_reducible exact system_additive.mono _ _ _ _ _ _ _ _ _ _ _ _ _ _ _ _ _ _)
      | (with_reducible exact system_positional.mono _ _ _ _)
      | (with_reducible exact LeO.refl _)
      | (with_reducible exact LeO.none _)
      | (with_reducible refine LeO.ite ?_ ?_)
      | (with_reducible refine LeO.bind ?_ (fun _ => ?_))
      | exact ih0 _ _ _ _ _ _ _ _ _ _ _ _ _ _ _ _ _ _
      | exact system_May.mono _ _ _ _ _ _ _ _ _ _ _ _ _ _ _ _ _
      | exact system_additive.mono _ _ _ _ _ _ _ _ _ _ _ _ _ _ _ _ _ _
      | exact system_positional.mono _ _ _ _
      | exact LeO.none _
      | refine LeO.ite ?_ ?_
      | refine LeO.bind ?_ (fun _ => ?_)
def system_Signs.T6 : Bool × List (List Nat × List Nat) := (true, [([], []), ([0], [0]), ([], []), ([2], [2]), ([], []), ([3, 4], [3, 4]), ([], []), ([5, 6], [5, 6]), ([], []), ([7, 8], [7, 8]), ([1, 9], [1, 9]), ([10], [10]), ([11, 0, 1, 2, 3, 4, 5, 6, 7, 8, 9, 10, 11], [11]), ([12, 0, 1, 2, 3, 4, 5, 6, 7, 8, 9, 10, 11, 12], [])])
def system_Signs.B6 : List Nat := [0, 1, 0, 4, 0, 28, 0, 124, 0, 508, 1023, 2047, 4095, 8191]
theorem system_Signs.tab6 : rtab .any (opsOf Try.f11 6) = system_Signs.T6 := by kernel_rfl
theorem system_Signs.bits6 : waitsOk system_Signs.T6.2 system_Signs.B6 = true := by kernel_rfl
def system_Signs.T14 : Bool × List (List Nat × List Nat) := (true, [([], []), ([0], [0]), ([], []), ([2], [2]), ([], []), ([3, 4], [3, 4]), ([1, 5], [1, 5]), ([6], [6]), ([], []), ([7, 8], [7, 8]), ([9, 9, 0, 1, 2, 3, 4, 5, 6, 7, 8, 9], [9]), ([10, 0, 1, 2, 3, 4, 5, 6, 7, 8, 9, 10], [])])
def system_Signs.B14 : List Nat := [0, 1, 0, 4, 0, 28, 63, 127, 0, 511, 1023, 2047]
theorem system_Signs.tab14 : rtab .any (opsOf Try.f11 14) = system_Signs.T14 := by kernel_rfl
theorem system_Signs.bits14 : waitsOk system_Signs.T14.2 system_Signs.B14 = true := by kernel_rfl
def system_Signs.T17 : Bool × List (List Nat × List Nat) := (true, [([], []), ([], []), ([], []), ([1, 2], [1, 2]), ([0, 3, 3], [0, 3]), ([4], [4]), ([4], [4]), ([5, 4, 0, 1, 2, 3, 4, 5, 6], [5]), ([6, 7, 0, 1, 2, 3, 4, 5, 6, 7], [6])])
def system_Signs.B17 : List Nat := [0, 0, 0, 6, 15, 31, 31, 127, 255]
theorem system_Signs.tab17 : rtab .any (opsOf Try.f11 17) = system_Signs.T17 := by kernel_rfl
theorem system_Signs.bits17 : waitsOk system_Signs.T17.2 system_Signs.B17 = true := by kernel_rfl
def system_Signs.T20 : Bool × List (List Nat × List Nat) := (true, [([], []), ([], []), ([], []), ([1, 2], [1, 2]), ([0, 3, 3], [0, 3]), ([4], [4]), ([4], [4]), ([5, 4, 0, 1, 2, 3, 4, 5, 6], [5]), ([6, 7, 0, 1, 2, 3, 4, 5, 6, 7], [6])])
def system_Signs.B20 : List Nat := [0, 0, 0, 6, 15, 31, 31, 127, 255]
theorem system_Signs.tab20 : rtab .any (opsOf Try.f11 20) = system_Signs.T20 := by kernel_rfl
theorem system_Signs.bits20 : waitsOk system_Signs.T20.2 system_Signs.B20 = true := by kernel_rfl
set_option maxHeartbeats 8000000 in
set_option maxRecDepth 100000 in
theorem system_Signs.calls (k : Nat) (a0_0 : ByteArray) (a0_1 : ByteArray) (a0_2 : Int) (A0_3 : Option Addr) (c0_3 : Nat) (l0_3 : List ByteArray) (A0_4 : Option Addr) (c0_4 : Nat) (l0_4 : List Int) (a0_5 : ByteArray) (a0_6 : ByteArray) (a0_7 : ByteArray) (a0_8 : ByteArray) (a0_9 : Bool) (A0_10 : Option Addr) (c0_10 : Nat) (l0_10 : List (S41)) (a0_11 : Int) (a0_12 : ByteArray) (a0_13 : ByteArray) (a0_14 : ByteArray) (a0_15 : Int) (a1 : Int) (r1 : ByteArray) (r2 : Bool) (w : World) (hr0_3 : Kd.C Kd.string w A0_3 l0_3.length l0_3) (hc0_3 : l0_3.length ≤ c0_3) (hr0_4 : Kd.C (Kd.int .i64) w A0_4 l0_4.length l0_4) (hc0_4 : l0_4.length ≤ c0_4) (hr0_10 : Kd.C k41 w A0_10 l0_10.length l0_10) (hc0_10 : l0_10.length ≤ c0_10) (h : system_Signs.f k a0_0 a0_1 a0_2 l0_3 l0_4 a0_5 a0_6 a0_7 a0_8 a0_9 l0_10 a0_11 a0_12 a0_13 a0_14 a0_15 a1 = some (r1, r2)) :
    Calls Try.prog 11 #[.agg #[.string a0_0, .string a0_1, .int .i64 a0_2, .slice A0_3 l0_3.length c0_3, .slice A0_4 l0_4.length c0_4, .string a0_5, .string a0_6, .string a0_7, .string a0_8, .bool a0_9, .slice A0_10 l0_10.length c0_10, .int .i64 a0_11, .string a0_12, .string a0_13, .string a0_14, .int .i64 a0_15], .int .i64 a1] w fun e w' => e = .returned (.tuple #[.string r1, .bool r2]) ∧ Below w.heap.size w w' := by
  have hu27 := Try.underlying27
  have HR0_3 := Aside0.mk hr0_3
  have HC0_3 := Aside0.mk hc0_3
  clear hr0_3 hc0_3
  have HR0_4 := Aside0.mk hr0_4
  have HC0_4 := Aside0.mk hc0_4
  clear hr0_4 hc0_4
  have HR0_10 := Aside0.mk hr0_10
  have HC0_10 := Aside0.mk hc0_10
  clear hr0_10 hc0_10
  have HB := Aside0.mk (Below.refl w.heap.size w)
  have H : ((system_May.f k a0_0 a0_1 a0_2 l0_3 l0_4 a0_5 a0_6 a0_7 a0_8 a0_9 l0_10 a0_11 a0_12 a0_13 a0_14 a0_15).bind fun t143 => (if t143 = true then (if a1 < (-2147483648) then (system_Signs.j0 k a1 true a0_0 a0_1 a0_2 l0_3 l0_4 a0_5 a0_6 a0_7 a0_8 a0_9 l0_10 a0_11 a0_12 a0_13 a0_14 a0_15) else (system_Signs.j0 k a1 (decide (a1 > 2147483648)) a0_0 a0_1 a0_2 l0_3 l0_4 a0_5 a0_6 a0_7 a0_8 a0_9 l0_10 a0_11 a0_12 a0_13 a0_14 a0_15)) else (system_Signs.j0 k a1 true a0_0 a0_1 a0_2 l0_3 l0_4 a0_5 a0_6 a0_7 a0_8 a0_9 l0_10 a0_11 a0_12 a0_13 a0_14 a0_15))) = some (r1, r2) := h
  clear h
  have HC3 := Aside0.mk H
  clear H
  go_enter Try.func11, Try.ntmps11
  go_upto_region 1 with (first | ((with_reducible refine gate_dst (N := 2) rfl ?_); refine box_event ?hg (N := 2) ?hd (cs := #[.string a0_0, .string a0_1, .int .i64 a0_2, .slice A0_3 l0_3.length c0_3, .slice A0_4 l0_4.length c0_4, .string a0_5, .string a0_6, .string a0_7, .string a0_8, .bool a0_9, .slice A0_10 l0_10.length c0_10, .int .i64 a0_11, .string a0_12, .string a0_13, .string a0_14, .int .i64 a0_15]) (t := 27) ?hr ?_; (case hd => rfl); (case hg => rfl); (case hr => first | (go_simp; done) | (go_simp; rfl)); intro gb142 hg w4 hbox hb; have n0_ := Aside0.mk (below_step (by repeat (first | (with_reducible first | exact HB.out | apply below_alloc | apply pw_below_drewN | apply below_drew1) | exact HB.out)) hb); have n1_ := Aside0.mk (hbox); have n2_ := Aside0.mk ((by rw [hg]; exact (below_size (by repeat (first | (with_reducible first | exact HB.out | apply below_alloc | apply pw_below_drewN | apply below_drew1) | exact HB.out))) : w.heap.size ≤ gb142)); have n3_ := Aside0.mk ((by rw [hg]; exact (below_size (by repeat (first | (with_reducible first | exact HB.out | apply below_alloc | apply pw_below_drewN | apply below_drew1) | exact HB.out))) : w.heap.size ≤ gb142)); clear HB; have HB := n0_; have BK142 := n1_; have GW142 := n2_; have GE142 := n3_; clear n0_ n1_ n2_ n3_; clear hb hbox hg))
  (try simp only [Act.put, List.setIfInBounds_toArray, List.set_cons_zero, List.set_cons_succ])
  go_cut [19] (fun v19 wc => ∃ (kq : Nat) (x19_2 : Bool), v19 = .bool x19_2 ∧ Aside0 (system_Signs.j0 kq a1 x19_2 a0_0 a0_1 a0_2 l0_3 l0_4 a0_5 a0_6 a0_7 a0_8 a0_9 l0_10 a0_11 a0_12 a0_13 a0_14 a0_15 = some (r1, r2)) ∧ Aside0 (kq ≤ k) ∧ Aside0 (wc.heap[gb142]? = some (.cells #[.string a0_0, .string a0_1, .int .i64 a0_2, (.slice A0_3 l0_3.length c0_3), (.slice A0_4 l0_4.length c0_4), .string a0_5, .string a0_6, .string a0_7, .string a0_8, .bool a0_9, (.slice A0_10 l0_10.length c0_10), .int .i64 a0_11, .string a0_12, .string a0_13, .string a0_14, .int .i64 a0_15] 27 (0, 0))) ∧ Aside0 (Below w.heap.size w wc))
  case first =>
    have H := HC3.out
    clear HC3
    replace H := Option.bind_eq_some_iff.mp H
    obtain ⟨t143, A50, H⟩ := H
    replace H : (if t143 = true then (if a1 < (-2147483648) then (system_Signs.j0 k a1 true a0_0 a0_1 a0_2 l0_3 l0_4 a0_5 a0_6 a0_7 a0_8 a0_9 l0_10 a0_11 a0_12 a0_13 a0_14 a0_15) else (system_Signs.j0 k a1 (decide (a1 > 2147483648)) a0_0 a0_1 a0_2 l0_3 l0_4 a0_5 a0_6 a0_7 a0_8 a0_9 l0_10 a0_11 a0_12 a0_13 a0_14 a0_15)) else (system_Signs.j0 k a1 true a0_0 a0_1 a0_2 l0_3 l0_4 a0_5 a0_6 a0_7 a0_8 a0_9 l0_10 a0_11 a0_12 a0_13 a0_14 a0_15)) = some (r1, r2) := H
    have A5 := Aside0.mk A50
    clear A50
    by_cases c6 : t143 = true
    · subst c6
      have H1 : (if a1 < (-2147483648) then (system_Signs.j0 k a1 true a0_0 a0_1 a0_2 l0_3 l0_4 a0_5 a0_6 a0_7 a0_8 a0_9 l0_10 a0_11 a0_12 a0_13 a0_14 a0_15) else (system_Signs.j0 k a1 (decide (a1 > 2147483648)) a0_0 a0_1 a0_2 l0_3 l0_4 a0_5 a0_6 a0_7 a0_8 a0_9 l0_10 a0_11 a0_12 a0_13 a0_14 a0_15)) = some (r1, r2) := by rw [if_pos rfl] at H; exact H
      clear H
      have H := H1
      clear H1
      by_cases c7 : a1 < (-2147483648)
      · as_aux_lemma =>
        rw [if_pos c7] at H
        have c7b0 : decide (a1 < (-2147483648)) = true := decide_eq_true c7
        clear c7
        (first | rw [c7b0] | (simp only [i64_w, i32_w]; rw [c7b0]) | skip)
        have H' := Aside0.mk H
        clear H
        have hcz8_0 : w4.cell? ⟨gb142, 0, none⟩ = some (.string a0_0) := (blk_cell BK142.out 0).trans rfl
        have hcz8_1 : w4.cell? ⟨gb142, 1, none⟩ = some (.string a0_1) := (blk_cell BK142.out 1).trans rfl
        have hcz8_2 : w4.cell? ⟨gb142, 2, none⟩ = some (.int .i64 a0_2) := (blk_cell BK142.out 2).trans rfl
        have hcz8_3 : w4.cell? ⟨gb142, 3, none⟩ = some (.slice A0_3 l0_3.length c0_3) := (blk_cell BK142.out 3).trans rfl
        have hcz8_4 : w4.cell? ⟨gb142, 4, none⟩ = some (.slice A0_4 l0_4.length c0_4) := (blk_cell BK142.out 4).trans rfl
        have hcz8_5 : w4.cell? ⟨gb142, 5, none⟩ = some (.string a0_5) := (blk_cell BK142.out 5).trans rfl
        have hcz8_6 : w4.cell? ⟨gb142, 6, none⟩ = some (.string a0_6) := (blk_cell BK142.out 6).trans rfl
        have hcz8_7 : w4.cell? ⟨gb142, 7, none⟩ = some (.string a0_7) := (blk_cell BK142.out 7).trans rfl
        have hcz8_8 : w4.cell? ⟨gb142, 8, none⟩ = some (.string a0_8) := (blk_cell BK142.out 8).trans rfl
        have hcz8_9 : w4.cell? ⟨gb142, 9, none⟩ = some (.bool a0_9) := (blk_cell BK142.out 9).trans rfl
        have hcz8_10 : w4.cell? ⟨gb142, 10, none⟩ = some (.slice A0_10 l0_10.length c0_10) := (blk_cell BK142.out 10).trans rfl
        have hcz8_11 : w4.cell? ⟨gb142, 11, none⟩ = some (.int .i64 a0_11) := (blk_cell BK142.out 11).trans rfl
        have hcz8_12 : w4.cell? ⟨gb142, 12, none⟩ = some (.string a0_12) := (blk_cell BK142.out 12).trans rfl
        have hcz8_13 : w4.cell? ⟨gb142, 13, none⟩ = some (.string a0_13) := (blk_cell BK142.out 13).trans rfl
        have hcz8_14 : w4.cell? ⟨gb142, 14, none⟩ = some (.string a0_14) := (blk_cell BK142.out 14).trans rfl
        have hcz8_15 : w4.cell? ⟨gb142, 15, none⟩ = some (.int .i64 a0_15) := (blk_cell BK142.out 15).trans rfl
        have hfz8_0 := blk_frozen BK142.out 0
        have hfz8_1 := blk_frozen BK142.out 1
        have hfz8_2 := blk_frozen BK142.out 2
        have hfz8_3 := blk_frozen BK142.out 3
        have hfz8_4 := blk_frozen BK142.out 4
        have hfz8_5 := blk_frozen BK142.out 5
        have hfz8_6 := blk_frozen BK142.out 6
        have hfz8_7 := blk_frozen BK142.out 7
        have hfz8_8 := blk_frozen BK142.out 8
        have hfz8_9 := blk_frozen BK142.out 9
        have hfz8_10 := blk_frozen BK142.out 10
        have hfz8_11 := blk_frozen BK142.out 11
        have hfz8_12 := blk_frozen BK142.out 12
        have hfz8_13 := blk_frozen BK142.out 13
        have hfz8_14 := blk_frozen BK142.out 14
        have hfz8_15 := blk_frozen BK142.out 15
        go_wp2_with (first | ((with_reducible refine gate_callee (f := 12) rfl ?_); refine goesL_ (some 10) rfl rfl Try.func12 (by kernel_rfl) rfl #[.agg #[.string a0_0, .string a0_1, .int .i64 a0_2, .slice A0_3 l0_3.length c0_3, .slice A0_4 l0_4.length c0_4, .string a0_5, .string a0_6, .string a0_7, .string a0_8, .bool a0_9, .slice A0_10 l0_10.length c0_10, .int .i64 a0_11, .string a0_12, .string a0_13, .string a0_14, .int .i64 a0_15]] rfl (by (try simp only [List.map_toArray, List.map_cons, List.map_nil]); first | done | rfl | (simp only [List.length_drop, List.length_take]; rfl)) ?_; (with_reducible refine (system_May.calls k a0_0 a0_1 a0_2 _ _ l0_3 _ _ l0_4 a0_5 a0_6 a0_7 a0_8 a0_9 _ _ l0_10 a0_11 a0_12 a0_13 a0_14 a0_15 true _ ?side1 ?side2 ?side3 ?side4 ?side5 ?side6 A5.out).mono ?_); (case side1 => repeat (first | exact (Kd.C_below HR0_3.out HB.out) | (with_reducible refine Kd.C_alloc ?_ _) | (with_reducible refine Kd.C_drewN ?_ _) | (with_reducible refine Kd.C_drew ?_))); (case side2 => exact HC0_3.out); (case side3 => repeat (first | exact (Kd.C_below HR0_4.out HB.out) | (with_reducible refine Kd.C_alloc ?_ _) | (with_reducible refine Kd.C_drewN ?_ _) | (with_reducible refine Kd.C_drew ?_))); (case side4 => exact HC0_4.out); (case side5 => repeat (first | exact (Kd.C_below HR0_10.out HB.out) | (with_reducible refine Kd.C_alloc ?_ _) | (with_reducible refine Kd.C_drewN ?_ _) | (with_reducible refine Kd.C_drew ?_))); (case side6 => exact HC0_10.out); rintro e w9 ⟨rfl, hb⟩; refine ⟨_, rfl, ?_⟩; have n0_ := Aside0.mk (blk_below (g := gb142) (o := .cells #[.string a0_0, .string a0_1, .int .i64 a0_2, .slice A0_3 l0_3.length c0_3, .slice A0_4 l0_4.length c0_4, .string a0_5, .string a0_6, .string a0_7, .string a0_8, .bool a0_9, .slice A0_10 l0_10.length c0_10, .int .i64 a0_11, .string a0_12, .string a0_13, .string a0_14, .int .i64 a0_15] 27 (0, 0)) (by (with_reducible repeat (first | refine blk_drewN ?_ _ | refine blk_drew ?_ | refine blk_alloc ?_ _)); exact BK142.out) hb); have n1_ := Aside0.mk (below_step (by repeat (first | (with_reducible first | exact HB.out | apply below_alloc | apply pw_below_drewN | apply below_drew1 | refine below_set ?_ GE142.out) | exact HB.out)) hb); clear BK142; clear HB; have BK142 := n0_; have HB := n1_; clear n0_ n1_; (try clear hb); (try clear hb2); (try clear hk); (try clear hi)))
        go_meet
        case rel => exact ⟨_, (true), (by first | rfl | (simp; done) | (simp [*]; done)), H', ⟨by first | omega | exact Nat.le_refl _⟩, ⟨by (with_reducible repeat (first | refine blk_drewN ?_ _ | refine blk_drew ?_ | refine blk_alloc ?_ _)); exact BK142.out⟩, ⟨by repeat (first | (with_reducible first | exact HB.out | apply below_alloc | apply pw_below_drewN | apply below_drew1 | refine below_set ?_ GE142.out) | exact HB.out)⟩⟩
      · as_aux_lemma =>
        rw [if_neg c7] at H
        have c7b0 : decide (a1 < (-2147483648)) = false := decide_eq_false c7
        clear c7
        (first | rw [c7b0] | (simp only [i64_w, i32_w]; rw [c7b0]) | skip)
        have H' := Aside0.mk H
        clear H
        have hcz10_0 : w4.cell? ⟨gb142, 0, none⟩ = some (.string a0_0) := (blk_cell BK142.out 0).trans rfl
        have hcz10_1 : w4.cell? ⟨gb142, 1, none⟩ = some (.string a0_1) := (blk_cell BK142.out 1).trans rfl
        have hcz10_2 : w4.cell? ⟨gb142, 2, none⟩ = some (.int .i64 a0_2) := (blk_cell BK142.out 2).trans rfl
        have hcz10_3 : w4.cell? ⟨gb142, 3, none⟩ = some (.slice A0_3 l0_3.length c0_3) := (blk_cell BK142.out 3).trans rfl
        have hcz10_4 : w4.cell? ⟨gb142, 4, none⟩ = some (.slice A0_4 l0_4.length c0_4) := (blk_cell BK142.out 4).trans rfl
        have hcz10_5 : w4.cell? ⟨gb142, 5, none⟩ = some (.string a0_5) := (blk_cell BK142.out 5).trans rfl
        have hcz10_6 : w4.cell? ⟨gb142, 6, none⟩ = some (.string a0_6) := (blk_cell BK142.out 6).trans rfl
        have hcz10_7 : w4.cell? ⟨gb142, 7, none⟩ = some (.string a0_7) := (blk_cell BK142.out 7).trans rfl
        have hcz10_8 : w4.cell? ⟨gb142, 8, none⟩ = some (.string a0_8) := (blk_cell BK142.out 8).trans rfl
        have hcz10_9 : w4.cell? ⟨gb142, 9, none⟩ = some (.bool a0_9) := (blk_cell BK142.out 9).trans rfl
        have hcz10_10 : w4.cell? ⟨gb142, 10, none⟩ = some (.slice A0_10 l0_10.length c0_10) := (blk_cell BK142.out 10).trans rfl
        have hcz10_11 : w4.cell? ⟨gb142, 11, none⟩ = some (.int .i64 a0_11) := (blk_cell BK142.out 11).trans rfl
        have hcz10_12 : w4.cell? ⟨gb142, 12, none⟩ = some (.string a0_12) := (blk_cell BK142.out 12).trans rfl
        have hcz10_13 : w4.cell? ⟨gb142, 13, none⟩ = some (.string a0_13) := (blk_cell BK142.out 13).trans rfl
        have hcz10_14 : w4.cell? ⟨gb142, 14, none⟩ = some (.string a0_14) := (blk_cell BK142.out 14).trans rfl
        have hcz10_15 : w4.cell? ⟨gb142, 15, none⟩ = some (.int .i64 a0_15) := (blk_cell BK142.out 15).trans rfl
        have hfz10_0 := blk_frozen BK142.out 0
        have hfz10_1 := blk_frozen BK142.out 1
        have hfz10_2 := blk_frozen BK142.out 2
        have hfz10_3 := blk_frozen BK142.out 3
        have hfz10_4 := blk_frozen BK142.out 4
        have hfz10_5 := blk_frozen BK142.out 5
        have hfz10_6 := blk_frozen BK142.out 6
        have hfz10_7 := blk_frozen BK142.out 7
        have hfz10_8 := blk_frozen BK142.out 8
        have hfz10_9 := blk_frozen BK142.out 9
        have hfz10_10 := blk_frozen BK142.out 10
        have hfz10_11 := blk_frozen BK142.out 11
        have hfz10_12 := blk_frozen BK142.out 12
        have hfz10_13 := blk_frozen BK142.out 13
        have hfz10_14 := blk_frozen BK142.out 14
        have hfz10_15 := blk_frozen BK142.out 15
        go_wp2_with (first | ((with_reducible refine gate_callee (f := 12) rfl ?_); refine goesL_ (some 10) rfl rfl Try.func12 (by kernel_rfl) rfl #[.agg #[.string a0_0, .string a0_1, .int .i64 a0_2, .slice A0_3 l0_3.length c0_3, .slice A0_4 l0_4.length c0_4, .string a0_5, .string a0_6, .string a0_7, .string a0_8, .bool a0_9, .slice A0_10 l0_10.length c0_10, .int .i64 a0_11, .string a0_12, .string a0_13, .string a0_14, .int .i64 a0_15]] rfl (by (try simp only [List.map_toArray, List.map_cons, List.map_nil]); first | done | rfl | (simp only [List.length_drop, List.length_take]; rfl)) ?_; (with_reducible refine (system_May.calls k a0_0 a0_1 a0_2 _ _ l0_3 _ _ l0_4 a0_5 a0_6 a0_7 a0_8 a0_9 _ _ l0_10 a0_11 a0_12 a0_13 a0_14 a0_15 true _ ?side1 ?side2 ?side3 ?side4 ?side5 ?side6 A5.out).mono ?_); (case side1 => repeat (first | exact (Kd.C_below HR0_3.out HB.out) | (with_reducible refine Kd.C_alloc ?_ _) | (with_reducible refine Kd.C_drewN ?_ _) | (with_reducible refine Kd.C_drew ?_))); (case side2 => exact HC0_3.out); (case side3 => repeat (first | exact (Kd.C_below HR0_4.out HB.out) | (with_reducible refine Kd.C_alloc ?_ _) | (with_reducible refine Kd.C_drewN ?_ _) | (with_reducible refine Kd.C_drew ?_))); (case side4 => exact HC0_4.out); (case side5 => repeat (first | exact (Kd.C_below HR0_10.out HB.out) | (with_reducible refine Kd.C_alloc ?_ _) | (with_reducible refine Kd.C_drewN ?_ _) | (with_reducible refine Kd.C_drew ?_))); (case side6 => exact HC0_10.out); rintro e w11 ⟨rfl, hb⟩; refine ⟨_, rfl, ?_⟩; have n0_ := Aside0.mk (blk_below (g := gb142) (o := .cells #[.string a0_0, .string a0_1, .int .i64 a0_2, .slice A0_3 l0_3.length c0_3, .slice A0_4 l0_4.length c0_4, .string a0_5, .string a0_6, .string a0_7, .string a0_8, .bool a0_9, .slice A0_10 l0_10.length c0_10, .int .i64 a0_11, .string a0_12, .string a0_13, .string a0_14, .int .i64 a0_15] 27 (0, 0)) (by (with_reducible repeat (first | refine blk_drewN ?_ _ | refine blk_drew ?_ | refine blk_alloc ?_ _)); exact BK142.out) hb); have n1_ := Aside0.mk (below_step (by repeat (first | (with_reducible first | exact HB.out | apply below_alloc | apply pw_below_drewN | apply below_drew1 | refine below_set ?_ GE142.out) | exact HB.out)) hb); clear BK142; clear HB; have BK142 := n0_; have HB := n1_; clear n0_ n1_; (try clear hb); (try clear hb2); (try clear hk); (try clear hi)))
        go_meet
        case rel => exact ⟨_, (decide (a1 > 2147483648)), (by first | rfl | (simp; done) | (simp [*]; done)), H', ⟨by first | omega | exact Nat.le_refl _⟩, ⟨by (with_reducible repeat (first | refine blk_drewN ?_ _ | refine blk_drew ?_ | refine blk_alloc ?_ _)); exact BK142.out⟩, ⟨by repeat (first | (with_reducible first | exact HB.out | apply below_alloc | apply pw_below_drewN | apply below_drew1 | refine below_set ?_ GE142.out) | exact HB.out)⟩⟩
    · replace c6 := Bool.eq_false_iff.mpr c6
      subst c6
      have H1 : (system_Signs.j0 k a1 true a0_0 a0_1 a0_2 l0_3 l0_4 a0_5 a0_6 a0_7 a0_8 a0_9 l0_10 a0_11 a0_12 a0_13 a0_14 a0_15) = some (r1, r2) := by rw [if_neg (show ¬ (false = true) by decide)] at H; exact H
      clear H
      have H := H1
      clear H1
      have H' := Aside0.mk H
      clear H
      have hcz12_0 : w4.cell? ⟨gb142, 0, none⟩ = some (.string a0_0) := (blk_cell BK142.out 0).trans rfl
      have hcz12_1 : w4.cell? ⟨gb142, 1, none⟩ = some (.string a0_1) := (blk_cell BK142.out 1).trans rfl
      have hcz12_2 : w4.cell? ⟨gb142, 2, none⟩ = some (.int .i64 a0_2) := (blk_cell BK142.out 2).trans rfl
      have hcz12_3 : w4.cell? ⟨gb142, 3, none⟩ = some (.slice A0_3 l0_3.length c0_3) := (blk_cell BK142.out 3).trans rfl
      have hcz12_4 : w4.cell? ⟨gb142, 4, none⟩ = some (.slice A0_4 l0_4.length c0_4) := (blk_cell BK142.out 4).trans rfl
      have hcz12_5 : w4.cell? ⟨gb142, 5, none⟩ = some (.string a0_5) := (blk_cell BK142.out 5).trans rfl
      have hcz12_6 : w4.cell? ⟨gb142, 6, none⟩ = some (.string a0_6) := (blk_cell BK142.out 6).trans rfl
      have hcz12_7 : w4.cell? ⟨gb142, 7, none⟩ = some (.string a0_7) := (blk_cell BK142.out 7).trans rfl
      have hcz12_8 : w4.cell? ⟨gb142, 8, none⟩ = some (.string a0_8) := (blk_cell BK142.out 8).trans rfl
      have hcz12_9 : w4.cell? ⟨gb142, 9, none⟩ = some (.bool a0_9) := (blk_cell BK142.out 9).trans rfl
      have hcz12_10 : w4.cell? ⟨gb142, 10, none⟩ = some (.slice A0_10 l0_10.length c0_10) := (blk_cell BK142.out 10).trans rfl
      have hcz12_11 : w4.cell? ⟨gb142, 11, none⟩ = some (.int .i64 a0_11) := (blk_cell BK142.out 11).trans rfl
      have hcz12_12 : w4.cell? ⟨gb142, 12, none⟩ = some (.string a0_12) := (blk_cell BK142.out 12).trans rfl
      have hcz12_13 : w4.cell? ⟨gb142, 13, none⟩ = some (.string a0_13) := (blk_cell BK142.out 13).trans rfl
      have hcz12_14 : w4.cell? ⟨gb142, 14, none⟩ = some (.string a0_14) := (blk_cell BK142.out 14).trans rfl
      have hcz12_15 : w4.cell? ⟨gb142, 15, none⟩ = some (.int .i64 a0_15) := (blk_cell BK142.out 15).trans rfl
      have hfz12_0 := blk_frozen BK142.out 0
      have hfz12_1 := blk_frozen BK142.out 1
      have hfz12_2 := blk_frozen BK142.out 2
      have hfz12_3 := blk_frozen BK142.out 3
      have hfz12_4 := blk_frozen BK142.out 4
      have hfz12_5 := blk_frozen BK142.out 5
      have hfz12_6 := blk_frozen BK142.out 6
      have hfz12_7 := blk_frozen BK142.out 7
      have hfz12_8 := blk_frozen BK142.out 8
      have hfz12_9 := blk_frozen BK142.out 9
      have hfz12_10 := blk_frozen BK142.out 10
      have hfz12_11 := blk_frozen BK142.out 11
      have hfz12_12 := blk_frozen BK142.out 12
      have hfz12_13 := blk_frozen BK142.out 13
      have hfz12_14 := blk_frozen BK142.out 14
      have hfz12_15 := blk_frozen BK142.out 15
      go_wp2_with (first | ((with_reducible refine gate_callee (f := 12) rfl ?_); refine goesL_ (some 10) rfl rfl Try.func12 (by kernel_rfl) rfl #[.agg #[.string a0_0, .string a0_1, .int .i64 a0_2, .slice A0_3 l0_3.length c0_3, .slice A0_4 l0_4.length c0_4, .string a0_5, .string a0_6, .string a0_7, .string a0_8, .bool a0_9, .slice A0_10 l0_10.length c0_10, .int .i64 a0_11, .string a0_12, .string a0_13, .string a0_14, .int .i64 a0_15]] rfl (by (try simp only [List.map_toArray, List.map_cons, List.map_nil]); first | done | rfl | (simp only [List.length_drop, List.length_take]; rfl)) ?_; (with_reducible refine (system_May.calls k a0_0 a0_1 a0_2 _ _ l0_3 _ _ l0_4 a0_5 a0_6 a0_7 a0_8 a0_9 _ _ l0_10 a0_11 a0_12 a0_13 a0_14 a0_15 false _ ?side1 ?side2 ?side3 ?side4 ?side5 ?side6 A5.out).mono ?_); (case side1 => repeat (first | exact (Kd.C_below HR0_3.out HB.out) | (with_reducible refine Kd.C_alloc ?_ _) | (with_reducible refine Kd.C_drewN ?_ _) | (with_reducible refine Kd.C_drew ?_))); (case side2 => exact HC0_3.out); (case side3 => repeat (first | exact (Kd.C_below HR0_4.out HB.out) | (with_reducible refine Kd.C_alloc ?_ _) | (with_reducible refine Kd.C_drewN ?_ _) | (with_reducible refine Kd.C_drew ?_))); (case side4 => exact HC0_4.out); (case side5 => repeat (first | exact (Kd.C_below HR0_10.out HB.out) | (with_reducible refine Kd.C_alloc ?_ _) | (with_reducible refine Kd.C_drewN ?_ _) | (with_reducible refine Kd.C_drew ?_))); (case side6 => exact HC0_10.out); rintro e w13 ⟨rfl, hb⟩; refine ⟨_, rfl, ?_⟩; have n0_ := Aside0.mk (blk_below (g := gb142) (o := .cells #[.string a0_0, .string a0_1, .int .i64 a0_2, .slice A0_3 l0_3.length c0_3, .slice A0_4 l0_4.length c0_4, .string a0_5, .string a0_6, .string a0_7, .string a0_8, .bool a0_9, .slice A0_10 l0_10.length c0_10, .int .i64 a0_11, .string a0_12, .string a0_13, .string a0_14, .int .i64 a0_15] 27 (0, 0)) (by (with_reducible repeat (first | refine blk_drewN ?_ _ | refine blk_drew ?_ | refine blk_alloc ?_ _)); exact BK142.out) hb); have n1_ := Aside0.mk (below_step (by repeat (first | (with_reducible first | exact HB.out | apply below_alloc | apply pw_below_drewN | apply below_drew1 | refine below_set ?_ GE142.out) | exact HB.out)) hb); clear BK142; clear HB; have BK142 := n0_; have HB := n1_; clear n0_ n1_; (try clear hb); (try clear hb2); (try clear hk); (try clear hi)))
      go_meet
      case rel => exact ⟨_, (true), (by first | rfl | (simp; done) | (simp [*]; done)), H', ⟨by first | omega | exact Nat.le_refl _⟩, ⟨by (with_reducible repeat (first | refine blk_drewN ?_ _ | refine blk_drew ?_ | refine blk_alloc ?_ _)); exact BK142.out⟩, ⟨by repeat (first | (with_reducible first | exact HB.out | apply below_alloc | apply pw_below_drewN | apply below_drew1 | refine below_set ?_ GE142.out) | exact HB.out)⟩⟩
  case rest =>
    clear HC3
    try clear c1
    try clear p2
    try clear c6
    try clear c7
    try clear c7b0
    try clear c11
    try clear c12
    try clear hcz10_0
    try clear hcz10_1
    try clear hcz10_10
    try clear hcz10_11
    try clear hcz10_12
    try clear hcz10_13
    try clear hcz10_14
    try clear hcz10_15
    try clear hcz10_2
    try clear hcz10_3
    try clear hcz10_4
    try clear hcz10_5
    try clear hcz10_6
    try clear hcz10_7
    try clear hcz10_8
    try clear hcz10_9
    try clear hcz12_0
    try clear hcz12_1
    try clear hcz12_10
    try clear hcz12_11
    try clear hcz12_12
    try clear hcz12_13
    try clear hcz12_14
    try clear hcz12_15
    try clear hcz12_2
    try clear hcz12_3
    try clear hcz12_4
    try clear hcz12_5
    try clear hcz12_6
    try clear hcz12_7
    try clear hcz12_8
    try clear hcz12_9
    try clear hcz8_0
    try clear hcz8_1
    try clear hcz8_10
    try clear hcz8_11
    try clear hcz8_12
    try clear hcz8_13
    try clear hcz8_14
    try clear hcz8_15
    try clear hcz8_2
    try clear hcz8_3
    try clear hcz8_4
    try clear hcz8_5
    try clear hcz8_6
    try clear hcz8_7
    try clear hcz8_8
    try clear hcz8_9
    try clear hfz10_0
    try clear hfz10_1
    try clear hfz10_10
    try clear hfz10_11
    try clear hfz10_12
    try clear hfz10_13
    try clear hfz10_14
    try clear hfz10_15
    try clear hfz10_2
    try clear hfz10_3
    try clear hfz10_4
    try clear hfz10_5
    try clear hfz10_6
    try clear hfz10_7
    try clear hfz10_8
    try clear hfz10_9
    try clear hfz12_0
    try clear hfz12_1
    try clear hfz12_10
    try clear hfz12_11
    try clear hfz12_12
    try clear hfz12_13
    try clear hfz12_14
    try clear hfz12_15
    try clear hfz12_2
    try clear hfz12_3
    try clear hfz12_4
    try clear hfz12_5
    try clear hfz12_6
    try clear hfz12_7
    try clear hfz12_8
    try clear hfz12_9
    try clear hfz8_0
    try clear hfz8_1
    try clear hfz8_10
    try clear hfz8_11
    try clear hfz8_12
    try clear hfz8_13
    try clear hfz8_14
    try clear hfz8_15
    try clear hfz8_2
    try clear hfz8_3
    try clear hfz8_4
    try clear hfz8_5
    try clear hfz8_6
    try clear hfz8_7
    try clear hfz8_8
    try clear hfz8_9
    obtain ⟨kq, x19_2, rfl, HA, HJ2, BK142, HB⟩ := hcut
    cases kq with
    | zero => exact absurd HA.out (by simp [system_Signs.j0])
    | succ kj2 =>
      have H := HA.out
      clear HA
      simp only [system_Signs.j0] at H
      by_cases c14 : x19_2 = true
      · subst c14
        have H1 : (some ((⟨#[]⟩ : ByteArray), false)) = some (r1, r2) := by rw [if_pos rfl] at H; exact H
        clear H
        have H := H1
        clear H1
        simp only [Option.some.injEq, Prod.mk.injEq] at H
        obtain ⟨rfl, rfl⟩ := H
        go_wp2
        go_ret2
        exact ⟨by first | rfl | (simp [errW_none, errW_some] <;> rfl) | (simp [*, errW_none, errW_some] <;> rfl), by repeat (first | (with_reducible first | exact HB.out | apply below_alloc | apply pw_below_drewN | apply below_drew1 | refine below_set ?_ GE142.out) | exact HB.out)⟩
      · replace c14 := Bool.eq_false_iff.mpr c14
        subst c14
        have H1 : (if a0_1.toList = ([99, 121, 99, 108, 105, 99] : List UInt8) then (if (l0_3.length : Int) = 0 then (none) else (if 0 ≤ (Int.tmod (wrap64 ((Int.tmod (wrap64 (a1 - 1)) (l0_3.length : Int)) + (l0_3.length : Int))) (l0_3.length : Int)) then (if (Int.tmod (wrap64 ((Int.tmod (wrap64 (a1 - 1)) (l0_3.length : Int)) + (l0_3.length : Int))) (l0_3.length : Int)) < (l0_3.length : Int) then (some (rdOf ByteArray.empty l0_3 (Int.tmod (wrap64 ((Int.tmod (wrap64 (a1 - 1)) (l0_3.length : Int)) + (l0_3.length : Int))) (l0_3.length : Int)), true)) else (none)) else (none))) else (if a0_1.toList = ([102, 105, 120, 101, 100] : List UInt8) then (if a1 ≥ a0_2 then (if (IntKind.u64.wrap ((IntKind.u64.wrap (a1)) - (IntKind.u64.wrap (a0_2)))) < (IntKind.u64.wrap ((l0_3.length : Int))) then (if 0 ≤ (IntKind.u64.wrap ((IntKind.u64.wrap (a1)) - (IntKind.u64.wrap (a0_2)))) then (if (IntKind.u64.wrap ((IntKind.u64.wrap (a1)) - (IntKind.u64.wrap (a0_2)))) < (l0_3.length : Int) then (some (rdOf ByteArray.empty l0_3 (IntKind.u64.wrap ((IntKind.u64.wrap (a1)) - (IntKind.u64.wrap (a0_2)))), true)) else (none)) else (none)) else (some ((⟨#[]⟩ : ByteArray), false))) else (some ((⟨#[]⟩ : ByteArray), false))) else (if a0_1.toList = ([115, 121, 109, 98, 111, 108, 105, 99] : List UInt8) then (if (l0_3.length : Int) = 0 then (none) else (if a1 ≥ 1 then (if (wrap64 (Int.tdiv (wrap64 ((wrap64 (a1 + (l0_3.length : Int))) - 1)) (l0_3.length : Int))) ≤ 60 then (if 0 ≤ (Int.tmod (wrap64 (a1 - 1)) (l0_3.length : Int)) then (if (Int.tmod (wrap64 (a1 - 1)) (l0_3.length : Int)) < (l0_3.length : Int) then ((strings_Repeat.f (rdOf ByteArray.empty l0_3 (Int.tmod (wrap64 (a1 - 1)) (l0_3.length : Int))) (wrap64 (Int.tdiv (wrap64 ((wrap64 (a1 + (l0_3.length : Int))) - 1)) (l0_3.length : Int)))).bind fun t147 => (some (t147, true))) else (none)) else (none)) else (some ((⟨#[]⟩ : ByteArray), false))) else (some ((⟨#[]⟩ : ByteArray), false)))) else (if a0_1.toList = ([97, 108, 112, 104, 97, 98, 101, 116, 105, 99] : List UInt8) then (if a1 ≥ 1 then ((system_positional.f kj2 a1 (l0_3.length : Int) false).bind fun t148 => ((system_chosen.f a0_0 a0_1 a0_2 l0_3 l0_4 a0_5 a0_6 a0_7 a0_8 a0_9 l0_10 a0_11 a0_12 a0_13 a0_14 a0_15 t148).bind fun bt151 => (some (bt151.1, bt151.2)))) else (some ((⟨#[]⟩ : ByteArray), false))) else (if a0_1.toList = ([110, 117, 109, 101, 114, 105, 99] : List UInt8) then (if a1 ≥ 0 then ((system_positional.f kj2 a1 (l0_3.length : Int) true).bind fun t153 => ((system_chosen.f a0_0 a0_1 a0_2 l0_3 l0_4 a0_5 a0_6 a0_7 a0_8 a0_9 l0_10 a0_11 a0_12 a0_13 a0_14 a0_15 t153).bind fun bt156 => (some (bt156.1, bt156.2)))) else (some ((⟨#[]⟩ : ByteArray), false))) else (if a0_1.toList = ([97, 100, 100, 105, 116, 105, 118, 101] : List UInt8) then (if a1 ≥ 0 then ((system_additive.f kj2 a0_0 a0_1 a0_2 l0_3 l0_4 a0_5 a0_6 a0_7 a0_8 a0_9 l0_10 a0_11 a0_12 a0_13 a0_14 a0_15 a1).bind fun bt158 => (some (bt158.1, bt158.2))) else (some ((⟨#[]⟩ : ByteArray), false))) else (some ((⟨#[]⟩ : ByteArray), false)))))))) = some (r1, r2) := by rw [if_neg (show ¬ (false = true) by decide)] at H; exact H
        clear H
        have H := H1
        clear H1
        by_cases c15 : a0_1.toList = ([99, 121, 99, 108, 105, 99] : List UInt8)
        · as_aux_lemma =>
          rw [if_pos c15] at H
          have c15b0 : (a0_1.toList == ([99, 121, 99, 108, 105, 99] : List UInt8)) = true := beq_iff_eq.mpr c15
          have c15b1 : (a0_1.toList != ([99, 121, 99, 108, 105, 99] : List UInt8)) = false := bne_eq_false_iff_eq.mpr c15
          clear c15
          by_cases c16 : (l0_3.length : Int) = 0
          · as_aux_lemma =>
            rw [if_pos c16] at H
            exact absurd H (by simp)
          · as_aux_lemma =>
            rw [if_neg c16] at H
            have c16b0 : ((l0_3.length : Int) == 0) = false := beq_eq_false_iff_ne.mpr c16
            have c16b1 : ((l0_3.length : Int) != 0) = true := bne_iff_ne.mpr c16
            have c16b2 : ¬ (l0_3 = []) := fun h_ => c16 (by rw [h_]; rfl)
            obtain ⟨ji17, hji17⟩ : ∃ j_ : Int, (Int.tmod (wrap64 ((Int.tmod (wrap64 (a1 - 1)) (l0_3.length : Int)) + (l0_3.length : Int))) (l0_3.length : Int)) = j_ := ⟨_, rfl⟩
            replace H : (if 0 ≤ (ji17) then (if (ji17) < (l0_3.length : Int) then (some (rdOf ByteArray.empty l0_3 (ji17), true)) else (none)) else (none)) = some (r1, r2) := by first | (rw [hji17] at H; exact H) | (simp only [hji17] at H ⊢; exact H)
            by_cases c18 : 0 ≤ (ji17)
            · as_aux_lemma =>
              rw [if_pos c18] at H
              have c18b0 : decide (0 ≤ (ji17)) = true := decide_eq_true c18
              clear c18
              by_cases c19 : (ji17) < (l0_3.length : Int)
              · as_aux_lemma =>
                rw [if_pos c19] at H
                have c19b0 : decide ((ji17) < (l0_3.length : Int)) = true := decide_eq_true c19
                clear c19
                simp only [Option.some.injEq, Prod.mk.injEq] at H
                obtain ⟨rfl, rfl⟩ := H
                have hcz20_0 : wc.cell? ⟨gb142, 0, none⟩ = some (.string a0_0) := (blk_cell BK142.out 0).trans rfl
                have hcz20_1 : wc.cell? ⟨gb142, 1, none⟩ = some (.string a0_1) := (blk_cell BK142.out 1).trans rfl
                have hcz20_2 : wc.cell? ⟨gb142, 2, none⟩ = some (.int .i64 a0_2) := (blk_cell BK142.out 2).trans rfl
                have hcz20_3 : wc.cell? ⟨gb142, 3, none⟩ = some (.slice A0_3 l0_3.length c0_3) := (blk_cell BK142.out 3).trans rfl
                have hcz20_4 : wc.cell? ⟨gb142, 4, none⟩ = some (.slice A0_4 l0_4.length c0_4) := (blk_cell BK142.out 4).trans rfl
                have hcz20_5 : wc.cell? ⟨gb142, 5, none⟩ = some (.string a0_5) := (blk_cell BK142.out 5).trans rfl
                have hcz20_6 : wc.cell? ⟨gb142, 6, none⟩ = some (.string a0_6) := (blk_cell BK142.out 6).trans rfl
                have hcz20_7 : wc.cell? ⟨gb142, 7, none⟩ = some (.string a0_7) := (blk_cell BK142.out 7).trans rfl
                have hcz20_8 : wc.cell? ⟨gb142, 8, none⟩ = some (.string a0_8) := (blk_cell BK142.out 8).trans rfl
                have hcz20_9 : wc.cell? ⟨gb142, 9, none⟩ = some (.bool a0_9) := (blk_cell BK142.out 9).trans rfl
                have hcz20_10 : wc.cell? ⟨gb142, 10, none⟩ = some (.slice A0_10 l0_10.length c0_10) := (blk_cell BK142.out 10).trans rfl
                have hcz20_11 : wc.cell? ⟨gb142, 11, none⟩ = some (.int .i64 a0_11) := (blk_cell BK142.out 11).trans rfl
                have hcz20_12 : wc.cell? ⟨gb142, 12, none⟩ = some (.string a0_12) := (blk_cell BK142.out 12).trans rfl
                have hcz20_13 : wc.cell? ⟨gb142, 13, none⟩ = some (.string a0_13) := (blk_cell BK142.out 13).trans rfl
                have hcz20_14 : wc.cell? ⟨gb142, 14, none⟩ = some (.string a0_14) := (blk_cell BK142.out 14).trans rfl
                have hcz20_15 : wc.cell? ⟨gb142, 15, none⟩ = some (.int .i64 a0_15) := (blk_cell BK142.out 15).trans rfl
                have hfz20_0 := blk_frozen BK142.out 0
                have hfz20_1 := blk_frozen BK142.out 1
                have hfz20_2 := blk_frozen BK142.out 2
                have hfz20_3 := blk_frozen BK142.out 3
                have hfz20_4 := blk_frozen BK142.out 4
                have hfz20_5 := blk_frozen BK142.out 5
                have hfz20_6 := blk_frozen BK142.out 6
                have hfz20_7 := blk_frozen BK142.out 7
                have hfz20_8 := blk_frozen BK142.out 8
                have hfz20_9 := blk_frozen BK142.out 9
                have hfz20_10 := blk_frozen BK142.out 10
                have hfz20_11 := blk_frozen BK142.out 11
                have hfz20_12 := blk_frozen BK142.out 12
                have hfz20_13 := blk_frozen BK142.out 13
                have hfz20_14 := blk_frozen BK142.out 14
                have hfz20_15 := blk_frozen BK142.out 15
                try go_wp2
                have n0_ := Aside0.mk (blk_drew BK142.out)
                have n1_ := Aside0.mk (below_drew1 HB.out)
                clear BK142
                clear HB
                have BK142 := n0_
                have HB := n1_
                clear n0_ n1_
                have p144 : 0 ≤ ((ji17) : Int) := of_decide_eq_true (by first | (with_reducible assumption) | assumption)
                have q144 : (ji17) < (l0_3.length : Int) := of_decide_eq_true (by first | (with_reducible assumption) | assumption)
                obtain ⟨ad144, e144, hx144_0⟩ := Kd.at_string HR0_3.out (ji17) p144 q144
                have hw144_0 := hx144_0
                cases e144
                replace hx144_0 := (HB.out.cell (World.block_lt_of_cell? w _ hx144_0)).trans hx144_0
                replace p144 := eq_true p144
                replace q144 := eq_true q144
                refine start_ (n := 14) (S := fun w' => w'.cell? ⟨gb142, 0, none⟩ = some (.string a0_0) ∧ w'.cell? ⟨gb142, 1, none⟩ = some (.string a0_1) ∧ w'.cell? ⟨gb142, 2, none⟩ = some (.int .i64 a0_2) ∧ w'.cell? ⟨gb142, 3, none⟩ = some (.slice (some ad144) l0_3.length c0_3) ∧ w'.cell? ⟨gb142, 4, none⟩ = some (.slice A0_4 l0_4.length c0_4) ∧ w'.cell? ⟨gb142, 5, none⟩ = some (.string a0_5) ∧ w'.cell? ⟨gb142, 6, none⟩ = some (.string a0_6) ∧ w'.cell? ⟨gb142, 7, none⟩ = some (.string a0_7) ∧ w'.cell? ⟨gb142, 8, none⟩ = some (.string a0_8) ∧ w'.cell? ⟨gb142, 9, none⟩ = some (.bool a0_9) ∧ w'.cell? ⟨gb142, 10, none⟩ = some (.slice A0_10 l0_10.length c0_10) ∧ w'.cell? ⟨gb142, 11, none⟩ = some (.int .i64 a0_11) ∧ w'.cell? ⟨gb142, 12, none⟩ = some (.string a0_12) ∧ w'.cell? ⟨gb142, 13, none⟩ = some (.string a0_13) ∧ w'.cell? ⟨gb142, 14, none⟩ = some (.string a0_14) ∧ w'.cell? ⟨gb142, 15, none⟩ = some (.int .i64 a0_15) ∧ w'.cell? (ad144.add ((ji17)).toNat) = some (.string (rdOf ByteArray.empty l0_3 (ji17)))) (ds := []) #[false, false, false, false, false, false, false, false, false, false, false, false, false, false] (by kernel_rfl) rfl rfl ⟨(blk_cell BK142.out 0).trans rfl, (blk_cell BK142.out 1).trans rfl, (blk_cell BK142.out 2).trans rfl, (blk_cell BK142.out 3).trans rfl, (blk_cell BK142.out 4).trans rfl, (blk_cell BK142.out 5).trans rfl, (blk_cell BK142.out 6).trans rfl, (blk_cell BK142.out 7).trans rfl, (blk_cell BK142.out 8).trans rfl, (blk_cell BK142.out 9).trans rfl, (blk_cell BK142.out 10).trans rfl, (blk_cell BK142.out 11).trans rfl, (blk_cell BK142.out 12).trans rfl, (blk_cell BK142.out 13).trans rfl, (blk_cell BK142.out 14).trans rfl, (blk_cell BK142.out 15).trans rfl, ((HB.out.cell (World.block_lt_of_cell? w _ hw144_0)).trans hw144_0)⟩ (fun hHeld => ?_); refine with_tabW system_Signs.tab6 system_Signs.bits6 (fun HT_ HW_ => ?_)
                generalize wc.drew = w21 at BK142 HB hx144_0 hHeld ⊢
                refine pure_ (i := 0) (N := some 27) (v := ?_) (a' := ?_) #[true, false, false, false, false, false, false, false, false, false, false, false, false, false] rfl rfl (any_of HT_.out (by kernel_rfl)) (fun _ _ _ h => h) (Or.inl ⟨by rfl, ?_⟩) ?_ ?_
                rotate_left
                · intro w'
                  go_simp
                  with_reducible rfl
                rotate_left
                · simp only [Act.put, List.setIfInBounds_toArray, List.set_cons_zero, List.set_cons_succ, i64_w, i32_w]
                  rfl
                refine pure_ (i := 2) (N := some 29) (v := ?_) (a' := ?_) #[true, false, true, false, false, false, false, false, false, false, false, false, false, false] rfl rfl (any_of HT_.out (by kernel_rfl)) (fun _ _ _ h => h) (Or.inl ⟨by rfl, ?_⟩) ?_ ?_
                rotate_left
                · intro w'
                  go_simp
                  with_reducible rfl
                rotate_left
                · simp only [Act.put, List.setIfInBounds_toArray, List.set_cons_zero, List.set_cons_succ, i64_w, i32_w]
                  rfl
                refine pure_ (i := 3) (N := some 30) (v := ?_) (a' := ?_) #[true, false, true, true, false, false, false, false, false, false, false, false, false, false] rfl rfl (any_of HT_.out (by kernel_rfl)) (fun _ _ _ h => h) (Or.inl ⟨by rfl, ?_⟩) ?_ ?_
                rotate_left
                · intro w'
                  go_simp
                  with_reducible rfl
                rotate_left
                · simp only [Act.put, List.setIfInBounds_toArray, List.set_cons_zero, List.set_cons_succ, i64_w, i32_w]
                  rfl
                refine pure_ (i := 4) (N := some 31) (v := ?_) (a' := ?_) #[true, false, true, true, true, false, false, false, false, false, false, false, false, false] rfl rfl (any_of HT_.out (by kernel_rfl)) (fun _ _ _ h => h) (Or.inl ⟨by rfl, ?_⟩) ?_ ?_
                rotate_left
                · intro w'
                  go_simp
                  with_reducible rfl
                rotate_left
                · simp only [Act.put, List.setIfInBounds_toArray, List.set_cons_zero, List.set_cons_succ, i64_w, i32_w]
                  rfl
                refine pure_ (i := 5) (N := some 32) (v := ?_) (a' := ?_) #[true, false, true, true, true, true, false, false, false, false, false, false, false, false] rfl rfl (any_of HT_.out (by kernel_rfl)) (fun _ _ _ h => h) (Or.inl ⟨by rfl, ?_⟩) ?_ ?_
                rotate_left
                · intro w'
                  go_simp
                  with_reducible rfl
                rotate_left
                · simp only [Act.put, List.setIfInBounds_toArray, List.set_cons_zero, List.set_cons_succ, i64_w, i32_w]
                  rfl
                refine pure_ (i := 6) (N := some 33) (v := ?_) (a' := ?_) #[true, false, true, true, true, true, true, false, false, false, false, false, false, false] rfl rfl (any_of HT_.out (by kernel_rfl)) (fun _ _ _ h => h) (Or.inl ⟨by rfl, ?_⟩) ?_ ?_
                rotate_left
                · intro w'
                  go_simp
                  with_reducible rfl
                rotate_left
                · simp only [Act.put, List.setIfInBounds_toArray, List.set_cons_zero, List.set_cons_succ, i64_w, i32_w]
                  rfl
                refine pure_ (i := 7) (N := some 34) (v := ?_) (a' := ?_) #[true, false, true, true, true, true, true, true, false, false, false, false, false, false] rfl rfl (any_of HT_.out (by kernel_rfl)) (fun _ _ _ h => h) (Or.inl ⟨by rfl, ?_⟩) ?_ ?_
                rotate_left
                · intro w'
                  go_simp
                  with_reducible rfl
                rotate_left
                · simp only [Act.put, List.setIfInBounds_toArray, List.set_cons_zero, List.set_cons_succ, i64_w, i32_w]
                  rfl
                refine pure_ (i := 8) (N := some 35) (v := ?_) (a' := ?_) #[true, false, true, true, true, true, true, true, true, false, false, false, false, false] rfl rfl (any_of HT_.out (by kernel_rfl)) (fun _ _ _ h => h) (Or.inl ⟨by rfl, ?_⟩) ?_ ?_
                rotate_left
                · intro w'
                  go_simp
                  with_reducible rfl
                rotate_left
                · simp only [Act.put, List.setIfInBounds_toArray, List.set_cons_zero, List.set_cons_succ, i64_w, i32_w]
                  rfl
                refine pure_ (i := 9) (N := some 36) (v := ?_) (a' := ?_) #[true, false, true, true, true, true, true, true, true, true, false, false, false, false] rfl rfl (any_of HT_.out (by kernel_rfl)) (fun _ _ _ h => h) (Or.inl ⟨by rfl, ?_⟩) ?_ ?_
                rotate_left
                · intro w'
                  go_simp
                  with_reducible rfl
                rotate_left
                · simp only [Act.put, List.setIfInBounds_toArray, List.set_cons_zero, List.set_cons_succ, i64_w, i32_w]
                  rfl
                refine take_ (i := 1) (N := some 28) (v := ?_) (a' := ?_) #[true, true, true, true, true, true, true, true, true, true, false, false, false, false] rfl rfl (take_ofW HT_.out HW_.out (by kernel_rfl)) (fun _ _ _ h => h) (Or.inl ⟨by rfl, ?_⟩) hHeld ?_ ?_
                rotate_left
                · rintro w' ⟨s0, s1, s2, s3, s4, s5, s6, s7, s8, s9, s10, s11, s12, s13, s14, s15, s16⟩
                  go_simp
                  with_reducible rfl
                rotate_left
                · simp only [Act.put, List.setIfInBounds_toArray, List.set_cons_zero, List.set_cons_succ, i64_w, i32_w]
                  rfl
                refine pure_ (i := 10) (N := some 37) (v := ?_) (a' := ?_) #[true, true, true, true, true, true, true, true, true, true, true, false, false, false] rfl rfl (any_of HT_.out (by kernel_rfl)) (fun _ _ _ h => h) (Or.inl ⟨by rfl, ?_⟩) ?_ ?_
                rotate_left
                · intro w'
                  go_simp
                  with_reducible rfl
                rotate_left
                · simp only [Act.put, List.setIfInBounds_toArray, List.set_cons_zero, List.set_cons_succ, i64_w, i32_w]
                  rfl
                refine take_ (i := 11) (N := some 38) (v := ?_) (a' := ?_) #[true, true, true, true, true, true, true, true, true, true, true, true, false, false] rfl rfl (take_ofW HT_.out HW_.out (by kernel_rfl)) (fun _ _ _ h => h) (Or.inl ⟨by rfl, ?_⟩) hHeld ?_ ?_
                rotate_left
                · rintro w' ⟨s0, s1, s2, s3, s4, s5, s6, s7, s8, s9, s10, s11, s12, s13, s14, s15, s16⟩
                  go_simp
                  with_reducible rfl
                rotate_left
                · simp only [Act.put, List.setIfInBounds_toArray, List.set_cons_zero, List.set_cons_succ, i64_w, i32_w]
                  rfl
                refine pure_ (i := 12) (N := some 4) (v := ?_) (a' := ?_) #[true, true, true, true, true, true, true, true, true, true, true, true, true, false] rfl rfl (any_of HT_.out (by kernel_rfl)) (fun _ _ _ h => h) (Or.inl ⟨by rfl, ?_⟩) ?_ ?_
                rotate_left
                · intro w'
                  go_simp
                  with_reducible rfl
                rotate_left
                · simp only [Act.put, List.setIfInBounds_toArray, List.set_cons_zero, List.set_cons_succ, i64_w, i32_w]
                  rfl
                refine pure_ (i := 13) (N := some 5) (v := ?_) (a' := ?_) #[true, true, true, true, true, true, true, true, true, true, true, true, true, true] rfl rfl (any_of HT_.out (by kernel_rfl)) (fun _ _ _ h => h) (Or.inl ⟨by rfl, ?_⟩) ?_ ?_
                rotate_left
                · intro w'
                  go_simp
                  with_reducible rfl
                rotate_left
                · simp only [Act.put, List.setIfInBounds_toArray, List.set_cons_zero, List.set_cons_succ, i64_w, i32_w]
                  rfl
                refine done_ (done_of HT_.out (by kernel_rfl)) ?_
                try go_wp2
                go_ret2
                exact ⟨by first | rfl | (simp [errW_none, errW_some] <;> rfl) | (simp only [← hji17]; first | rfl | (simp [errW_none, errW_some] <;> rfl)) | (simp [*, errW_none, errW_some] <;> rfl), by repeat (first | (with_reducible first | exact HB.out | apply below_alloc | apply pw_below_drewN | apply below_drew1 | refine below_set ?_ GE142.out) | exact HB.out)⟩
              · as_aux_lemma =>
                rw [if_neg c19] at H
                exact absurd H (by simp)
            · as_aux_lemma =>
              rw [if_neg c18] at H
              exact absurd H (by simp)
        · as_aux_lemma =>
          rw [if_neg c15] at H
          have c15b0 : (a0_1.toList == ([99, 121, 99, 108, 105, 99] : List UInt8)) = false := beq_eq_false_iff_ne.mpr c15
          have c15b1 : (a0_1.toList != ([99, 121, 99, 108, 105, 99] : List UInt8)) = true := bne_iff_ne.mpr c15
          by_cases c22 : a0_1.toList = ([102, 105, 120, 101, 100] : List UInt8)
          · as_aux_lemma =>
            rw [if_pos c22] at H
            have c22b0 : (a0_1.toList == ([102, 105, 120, 101, 100] : List UInt8)) = true := beq_iff_eq.mpr c22
            have c22b1 : (a0_1.toList != ([102, 105, 120, 101, 100] : List UInt8)) = false := bne_eq_false_iff_eq.mpr c22
            clear c22
            by_cases c23 : a1 ≥ a0_2
            · as_aux_lemma =>
              rw [if_pos c23] at H
              have c23b0 : decide (a0_2 ≤ a1) = true := decide_eq_true c23
              clear c23
              by_cases c24 : (IntKind.u64.wrap ((IntKind.u64.wrap (a1)) - (IntKind.u64.wrap (a0_2)))) < (IntKind.u64.wrap ((l0_3.length : Int)))
              · as_aux_lemma =>
                rw [if_pos c24] at H
                have c24b0 : decide ((IntKind.u64.wrap ((IntKind.u64.wrap (a1)) - (IntKind.u64.wrap (a0_2)))) < (IntKind.u64.wrap ((l0_3.length : Int)))) = true := decide_eq_true c24
                clear c24
                obtain ⟨ji25, hji25⟩ : ∃ j_ : Int, (IntKind.u64.wrap ((IntKind.u64.wrap (a1)) - (IntKind.u64.wrap (a0_2)))) = j_ := ⟨_, rfl⟩
                replace H : (if 0 ≤ (ji25) then (if (ji25) < (l0_3.length : Int) then (some (rdOf ByteArray.empty l0_3 (ji25), true)) else (none)) else (none)) = some (r1, r2) := by first | (rw [hji25] at H; exact H) | (simp only [hji25] at H ⊢; exact H)
                (try rw [hji25] at c24b0)
                by_cases c26 : 0 ≤ (ji25)
                · as_aux_lemma =>
                  rw [if_pos c26] at H
                  have c26b0 : decide (0 ≤ (ji25)) = true := decide_eq_true c26
                  clear c26
                  by_cases c27 : (ji25) < (l0_3.length : Int)
                  · as_aux_lemma =>
                    rw [if_pos c27] at H
                    have c27b0 : decide ((ji25) < (l0_3.length : Int)) = true := decide_eq_true c27
                    clear c27
                    simp only [Option.some.injEq, Prod.mk.injEq] at H
                    obtain ⟨rfl, rfl⟩ := H
                    have hcz28_0 : wc.cell? ⟨gb142, 0, none⟩ = some (.string a0_0) := (blk_cell BK142.out 0).trans rfl
                    have hcz28_1 : wc.cell? ⟨gb142, 1, none⟩ = some (.string a0_1) := (blk_cell BK142.out 1).trans rfl
                    have hcz28_2 : wc.cell? ⟨gb142, 2, none⟩ = some (.int .i64 a0_2) := (blk_cell BK142.out 2).trans rfl
                    have hcz28_3 : wc.cell? ⟨gb142, 3, none⟩ = some (.slice A0_3 l0_3.length c0_3) := (blk_cell BK142.out 3).trans rfl
                    have hcz28_4 : wc.cell? ⟨gb142, 4, none⟩ = some (.slice A0_4 l0_4.length c0_4) := (blk_cell BK142.out 4).trans rfl
                    have hcz28_5 : wc.cell? ⟨gb142, 5, none⟩ = some (.string a0_5) := (blk_cell BK142.out 5).trans rfl
                    have hcz28_6 : wc.cell? ⟨gb142, 6, none⟩ = some (.string a0_6) := (blk_cell BK142.out 6).trans rfl
                    have hcz28_7 : wc.cell? ⟨gb142, 7, none⟩ = some (.string a0_7) := (blk_cell BK142.out 7).trans rfl
                    have hcz28_8 : wc.cell? ⟨gb142, 8, none⟩ = some (.string a0_8) := (blk_cell BK142.out 8).trans rfl
                    have hcz28_9 : wc.cell? ⟨gb142, 9, none⟩ = some (.bool a0_9) := (blk_cell BK142.out 9).trans rfl
                    have hcz28_10 : wc.cell? ⟨gb142, 10, none⟩ = some (.slice A0_10 l0_10.length c0_10) := (blk_cell BK142.out 10).trans rfl
                    have hcz28_11 : wc.cell? ⟨gb142, 11, none⟩ = some (.int .i64 a0_11) := (blk_cell BK142.out 11).trans rfl
                    have hcz28_12 : wc.cell? ⟨gb142, 12, none⟩ = some (.string a0_12) := (blk_cell BK142.out 12).trans rfl
                    have hcz28_13 : wc.cell? ⟨gb142, 13, none⟩ = some (.string a0_13) := (blk_cell BK142.out 13).trans rfl
                    have hcz28_14 : wc.cell? ⟨gb142, 14, none⟩ = some (.string a0_14) := (blk_cell BK142.out 14).trans rfl
                    have hcz28_15 : wc.cell? ⟨gb142, 15, none⟩ = some (.int .i64 a0_15) := (blk_cell BK142.out 15).trans rfl
                    have hfz28_0 := blk_frozen BK142.out 0
                    have hfz28_1 := blk_frozen BK142.out 1
                    have hfz28_2 := blk_frozen BK142.out 2
                    have hfz28_3 := blk_frozen BK142.out 3
                    have hfz28_4 := blk_frozen BK142.out 4
                    have hfz28_5 := blk_frozen BK142.out 5
                    have hfz28_6 := blk_frozen BK142.out 6
                    have hfz28_7 := blk_frozen BK142.out 7
                    have hfz28_8 := blk_frozen BK142.out 8
                    have hfz28_9 := blk_frozen BK142.out 9
                    have hfz28_10 := blk_frozen BK142.out 10
                    have hfz28_11 := blk_frozen BK142.out 11
                    have hfz28_12 := blk_frozen BK142.out 12
                    have hfz28_13 := blk_frozen BK142.out 13
                    have hfz28_14 := blk_frozen BK142.out 14
                    have hfz28_15 := blk_frozen BK142.out 15
                    have p145 : 0 ≤ ((ji25) : Int) := of_decide_eq_true (by first | (with_reducible assumption) | assumption)
                    have q145 : (ji25) < (l0_3.length : Int) := of_decide_eq_true (by first | (with_reducible assumption) | assumption)
                    obtain ⟨ad145, e145, hx145_0⟩ := Kd.at_string HR0_3.out (ji25) p145 q145
                    cases e145
                    replace hx145_0 := (HB.out.cell (World.block_lt_of_cell? w _ hx145_0)).trans hx145_0
                    replace p145 := eq_true p145
                    replace q145 := eq_true q145
                    go_wp2
                    go_ret2
                    exact ⟨by first | rfl | (simp [errW_none, errW_some] <;> rfl) | (simp only [← hji25]; first | rfl | (simp [errW_none, errW_some] <;> rfl)) | (simp [*, errW_none, errW_some] <;> rfl), by repeat (first | (with_reducible first | exact HB.out | apply below_alloc | apply pw_below_drewN | apply below_drew1 | refine below_set ?_ GE142.out) | exact HB.out)⟩
                  · as_aux_lemma =>
                    rw [if_neg c27] at H
                    exact absurd H (by simp)
                · as_aux_lemma =>
                  rw [if_neg c26] at H
                  exact absurd H (by simp)
              · as_aux_lemma =>
                rw [if_neg c24] at H
                have c24b0 : decide ((IntKind.u64.wrap ((IntKind.u64.wrap (a1)) - (IntKind.u64.wrap (a0_2)))) < (IntKind.u64.wrap ((l0_3.length : Int)))) = false := decide_eq_false c24
                clear c24
                simp only [Option.some.injEq, Prod.mk.injEq] at H
                obtain ⟨rfl, rfl⟩ := H
                have hcz29_0 : wc.cell? ⟨gb142, 0, none⟩ = some (.string a0_0) := (blk_cell BK142.out 0).trans rfl
                have hcz29_1 : wc.cell? ⟨gb142, 1, none⟩ = some (.string a0_1) := (blk_cell BK142.out 1).trans rfl
                have hcz29_2 : wc.cell? ⟨gb142, 2, none⟩ = some (.int .i64 a0_2) := (blk_cell BK142.out 2).trans rfl
                have hcz29_3 : wc.cell? ⟨gb142, 3, none⟩ = some (.slice A0_3 l0_3.length c0_3) := (blk_cell BK142.out 3).trans rfl
                have hcz29_4 : wc.cell? ⟨gb142, 4, none⟩ = some (.slice A0_4 l0_4.length c0_4) := (blk_cell BK142.out 4).trans rfl
                have hcz29_5 : wc.cell? ⟨gb142, 5, none⟩ = some (.string a0_5) := (blk_cell BK142.out 5).trans rfl
                have hcz29_6 : wc.cell? ⟨gb142, 6, none⟩ = some (.string a0_6) := (blk_cell BK142.out 6).trans rfl
                have hcz29_7 : wc.cell? ⟨gb142, 7, none⟩ = some (.string a0_7) := (blk_cell BK142.out 7).trans rfl
                have hcz29_8 : wc.cell? ⟨gb142, 8, none⟩ = some (.string a0_8) := (blk_cell BK142.out 8).trans rfl
                have hcz29_9 : wc.cell? ⟨gb142, 9, none⟩ = some (.bool a0_9) := (blk_cell BK142.out 9).trans rfl
                have hcz29_10 : wc.cell? ⟨gb142, 10, none⟩ = some (.slice A0_10 l0_10.length c0_10) := (blk_cell BK142.out 10).trans rfl
                have hcz29_11 : wc.cell? ⟨gb142, 11, none⟩ = some (.int .i64 a0_11) := (blk_cell BK142.out 11).trans rfl
                have hcz29_12 : wc.cell? ⟨gb142, 12, none⟩ = some (.string a0_12) := (blk_cell BK142.out 12).trans rfl
                have hcz29_13 : wc.cell? ⟨gb142, 13, none⟩ = some (.string a0_13) := (blk_cell BK142.out 13).trans rfl
                have hcz29_14 : wc.cell? ⟨gb142, 14, none⟩ = some (.string a0_14) := (blk_cell BK142.out 14).trans rfl
                have hcz29_15 : wc.cell? ⟨gb142, 15, none⟩ = some (.int .i64 a0_15) := (blk_cell BK142.out 15).trans rfl
                have hfz29_0 := blk_frozen BK142.out 0
                have hfz29_1 := blk_frozen BK142.out 1
                have hfz29_2 := blk_frozen BK142.out 2
                have hfz29_3 := blk_frozen BK142.out 3
                have hfz29_4 := blk_frozen BK142.out 4
                have hfz29_5 := blk_frozen BK142.out 5
                have hfz29_6 := blk_frozen BK142.out 6
                have hfz29_7 := blk_frozen BK142.out 7
                have hfz29_8 := blk_frozen BK142.out 8
                have hfz29_9 := blk_frozen BK142.out 9
                have hfz29_10 := blk_frozen BK142.out 10
                have hfz29_11 := blk_frozen BK142.out 11
                have hfz29_12 := blk_frozen BK142.out 12
                have hfz29_13 := blk_frozen BK142.out 13
                have hfz29_14 := blk_frozen BK142.out 14
                have hfz29_15 := blk_frozen BK142.out 15
                go_wp2
                go_ret2
                exact ⟨by first | rfl | (simp [errW_none, errW_some] <;> rfl) | (simp [*, errW_none, errW_some] <;> rfl), by repeat (first | (with_reducible first | exact HB.out | apply below_alloc | apply pw_below_drewN | apply below_drew1 | refine below_set ?_ GE142.out) | exact HB.out)⟩
            · as_aux_lemma =>
              rw [if_neg c23] at H
              have c23b0 : decide (a0_2 ≤ a1) = false := decide_eq_false c23
              clear c23
              simp only [Option.some.injEq, Prod.mk.injEq] at H
              obtain ⟨rfl, rfl⟩ := H
              have hcz30_0 : wc.cell? ⟨gb142, 0, none⟩ = some (.string a0_0) := (blk_cell BK142.out 0).trans rfl
              have hcz30_1 : wc.cell? ⟨gb142, 1, none⟩ = some (.string a0_1) := (blk_cell BK142.out 1).trans rfl
              have hcz30_2 : wc.cell? ⟨gb142, 2, none⟩ = some (.int .i64 a0_2) := (blk_cell BK142.out 2).trans rfl
              have hcz30_3 : wc.cell? ⟨gb142, 3, none⟩ = some (.slice A0_3 l0_3.length c0_3) := (blk_cell BK142.out 3).trans rfl
              have hcz30_4 : wc.cell? ⟨gb142, 4, none⟩ = some (.slice A0_4 l0_4.length c0_4) := (blk_cell BK142.out 4).trans rfl
              have hcz30_5 : wc.cell? ⟨gb142, 5, none⟩ = some (.string a0_5) := (blk_cell BK142.out 5).trans rfl
              have hcz30_6 : wc.cell? ⟨gb142, 6, none⟩ = some (.string a0_6) := (blk_cell BK142.out 6).trans rfl
              have hcz30_7 : wc.cell? ⟨gb142, 7, none⟩ = some (.string a0_7) := (blk_cell BK142.out 7).trans rfl
              have hcz30_8 : wc.cell? ⟨gb142, 8, none⟩ = some (.string a0_8) := (blk_cell BK142.out 8).trans rfl
              have hcz30_9 : wc.cell? ⟨gb142, 9, none⟩ = some (.bool a0_9) := (blk_cell BK142.out 9).trans rfl
              have hcz30_10 : wc.cell? ⟨gb142, 10, none⟩ = some (.slice A0_10 l0_10.length c0_10) := (blk_cell BK142.out 10).trans rfl
              have hcz30_11 : wc.cell? ⟨gb142, 11, none⟩ = some (.int .i64 a0_11) := (blk_cell BK142.out 11).trans rfl
              have hcz30_12 : wc.cell? ⟨gb142, 12, none⟩ = some (.string a0_12) := (blk_cell BK142.out 12).trans rfl
              have hcz30_13 : wc.cell? ⟨gb142, 13, none⟩ = some (.string a0_13) := (blk_cell BK142.out 13).trans rfl
              have hcz30_14 : wc.cell? ⟨gb142, 14, none⟩ = some (.string a0_14) := (blk_cell BK142.out 14).trans rfl
              have hcz30_15 : wc.cell? ⟨gb142, 15, none⟩ = some (.int .i64 a0_15) := (blk_cell BK142.out 15).trans rfl
              have hfz30_0 := blk_frozen BK142.out 0
              have hfz30_1 := blk_frozen BK142.out 1
              have hfz30_2 := blk_frozen BK142.out 2
              have hfz30_3 := blk_frozen BK142.out 3
              have hfz30_4 := blk_frozen BK142.out 4
              have hfz30_5 := blk_frozen BK142.out 5
              have hfz30_6 := blk_frozen BK142.out 6
              have hfz30_7 := blk_frozen BK142.out 7
              have hfz30_8 := blk_frozen BK142.out 8
              have hfz30_9 := blk_frozen BK142.out 9
              have hfz30_10 := blk_frozen BK142.out 10
              have hfz30_11 := blk_frozen BK142.out 11
              have hfz30_12 := blk_frozen BK142.out 12
              have hfz30_13 := blk_frozen BK142.out 13
              have hfz30_14 := blk_frozen BK142.out 14
              have hfz30_15 := blk_frozen BK142.out 15
              go_wp2
              go_ret2
              exact ⟨by first | rfl | (simp [errW_none, errW_some] <;> rfl) | (simp [*, errW_none, errW_some] <;> rfl), by repeat (first | (with_reducible first | exact HB.out | apply below_alloc | apply pw_below_drewN | apply below_drew1 | refine below_set ?_ GE142.out) | exact HB.out)⟩
          · as_aux_lemma =>
            rw [if_neg c22] at H
            have c22b0 : (a0_1.toList == ([102, 105, 120, 101, 100] : List UInt8)) = false := beq_eq_false_iff_ne.mpr c22
            have c22b1 : (a0_1.toList != ([102, 105, 120, 101, 100] : List UInt8)) = true := bne_iff_ne.mpr c22
            by_cases c31 : a0_1.toList = ([115, 121, 109, 98, 111, 108, 105, 99] : List UInt8)
            · as_aux_lemma =>
              rw [if_pos c31] at H
              have c31b0 : (a0_1.toList == ([115, 121, 109, 98, 111, 108, 105, 99] : List UInt8)) = true := beq_iff_eq.mpr c31
              have c31b1 : (a0_1.toList != ([115, 121, 109, 98, 111, 108, 105, 99] : List UInt8)) = false := bne_eq_false_iff_eq.mpr c31
              clear c31
              by_cases c32 : (l0_3.length : Int) = 0
              · as_aux_lemma =>
                rw [if_pos c32] at H
                exact absurd H (by simp)
              · as_aux_lemma =>
                rw [if_neg c32] at H
                have c32b0 : ((l0_3.length : Int) == 0) = false := beq_eq_false_iff_ne.mpr c32
                have c32b1 : ((l0_3.length : Int) != 0) = true := bne_iff_ne.mpr c32
                have c32b2 : ¬ (l0_3 = []) := fun h_ => c32 (by rw [h_]; rfl)
                by_cases c33 : a1 ≥ 1
                · as_aux_lemma =>
                  rw [if_pos c33] at H
                  have c33b0 : decide (1 ≤ a1) = true := decide_eq_true c33
                  clear c33
                  by_cases c34 : (wrap64 (Int.tdiv (wrap64 ((wrap64 (a1 + (l0_3.length : Int))) - 1)) (l0_3.length : Int))) ≤ 60
                  · as_aux_lemma =>
                    rw [if_pos c34] at H
                    have c34b0 : decide ((wrap64 (Int.tdiv (wrap64 ((wrap64 (a1 + (l0_3.length : Int))) - 1)) (l0_3.length : Int))) ≤ 60) = true := decide_eq_true c34
                    clear c34
                    obtain ⟨ji35, hji35⟩ : ∃ j_ : Int, (Int.tmod (wrap64 (a1 - 1)) (l0_3.length : Int)) = j_ := ⟨_, rfl⟩
                    replace H : (if 0 ≤ (ji35) then (if (ji35) < (l0_3.length : Int) then ((strings_Repeat.f (rdOf ByteArray.empty l0_3 (ji35)) (wrap64 (Int.tdiv (wrap64 ((wrap64 (a1 + (l0_3.length : Int))) - 1)) (l0_3.length : Int)))).bind fun t147 => (some (t147, true))) else (none)) else (none)) = some (r1, r2) := by first | (rw [hji35] at H; exact H) | (simp only [hji35] at H ⊢; exact H)
                    by_cases c36 : 0 ≤ (ji35)
                    · as_aux_lemma =>
                      rw [if_pos c36] at H
                      have c36b0 : decide (0 ≤ (ji35)) = true := decide_eq_true c36
                      clear c36
                      by_cases c37 : (ji35) < (l0_3.length : Int)
                      · as_aux_lemma =>
                        rw [if_pos c37] at H
                        have c37b0 : decide ((ji35) < (l0_3.length : Int)) = true := decide_eq_true c37
                        clear c37
                        replace H := Option.bind_eq_some_iff.mp H
                        obtain ⟨t147, A380, H⟩ := H
                        replace H : (some (t147, true)) = some (r1, r2) := H
                        have A38 := Aside0.mk A380
                        clear A380
                        simp only [Option.some.injEq, Prod.mk.injEq] at H
                        obtain ⟨rfl, rfl⟩ := H
                        have hcz39_0 : wc.cell? ⟨gb142, 0, none⟩ = some (.string a0_0) := (blk_cell BK142.out 0).trans rfl
                        have hcz39_1 : wc.cell? ⟨gb142, 1, none⟩ = some (.string a0_1) := (blk_cell BK142.out 1).trans rfl
                        have hcz39_2 : wc.cell? ⟨gb142, 2, none⟩ = some (.int .i64 a0_2) := (blk_cell BK142.out 2).trans rfl
                        have hcz39_3 : wc.cell? ⟨gb142, 3, none⟩ = some (.slice A0_3 l0_3.length c0_3) := (blk_cell BK142.out 3).trans rfl
                        have hcz39_4 : wc.cell? ⟨gb142, 4, none⟩ = some (.slice A0_4 l0_4.length c0_4) := (blk_cell BK142.out 4).trans rfl
                        have hcz39_5 : wc.cell? ⟨gb142, 5, none⟩ = some (.string a0_5) := (blk_cell BK142.out 5).trans rfl
                        have hcz39_6 : wc.cell? ⟨gb142, 6, none⟩ = some (.string a0_6) := (blk_cell BK142.out 6).trans rfl
                        have hcz39_7 : wc.cell? ⟨gb142, 7, none⟩ = some (.string a0_7) := (blk_cell BK142.out 7).trans rfl
                        have hcz39_8 : wc.cell? ⟨gb142, 8, none⟩ = some (.string a0_8) := (blk_cell BK142.out 8).trans rfl
                        have hcz39_9 : wc.cell? ⟨gb142, 9, none⟩ = some (.bool a0_9) := (blk_cell BK142.out 9).trans rfl
                        have hcz39_10 : wc.cell? ⟨gb142, 10, none⟩ = some (.slice A0_10 l0_10.length c0_10) := (blk_cell BK142.out 10).trans rfl
                        have hcz39_11 : wc.cell? ⟨gb142, 11, none⟩ = some (.int .i64 a0_11) := (blk_cell BK142.out 11).trans rfl
                        have hcz39_12 : wc.cell? ⟨gb142, 12, none⟩ = some (.string a0_12) := (blk_cell BK142.out 12).trans rfl
                        have hcz39_13 : wc.cell? ⟨gb142, 13, none⟩ = some (.string a0_13) := (blk_cell BK142.out 13).trans rfl
                        have hcz39_14 : wc.cell? ⟨gb142, 14, none⟩ = some (.string a0_14) := (blk_cell BK142.out 14).trans rfl
                        have hcz39_15 : wc.cell? ⟨gb142, 15, none⟩ = some (.int .i64 a0_15) := (blk_cell BK142.out 15).trans rfl
                        have hfz39_0 := blk_frozen BK142.out 0
                        have hfz39_1 := blk_frozen BK142.out 1
                        have hfz39_2 := blk_frozen BK142.out 2
                        have hfz39_3 := blk_frozen BK142.out 3
                        have hfz39_4 := blk_frozen BK142.out 4
                        have hfz39_5 := blk_frozen BK142.out 5
                        have hfz39_6 := blk_frozen BK142.out 6
                        have hfz39_7 := blk_frozen BK142.out 7
                        have hfz39_8 := blk_frozen BK142.out 8
                        have hfz39_9 := blk_frozen BK142.out 9
                        have hfz39_10 := blk_frozen BK142.out 10
                        have hfz39_11 := blk_frozen BK142.out 11
                        have hfz39_12 := blk_frozen BK142.out 12
                        have hfz39_13 := blk_frozen BK142.out 13
                        have hfz39_14 := blk_frozen BK142.out 14
                        have hfz39_15 := blk_frozen BK142.out 15
                        try go_wp2
                        have n0_ := Aside0.mk (blk_drew BK142.out)
                        have n1_ := Aside0.mk (below_drew1 HB.out)
                        clear BK142
                        clear HB
                        have BK142 := n0_
                        have HB := n1_
                        clear n0_ n1_
                        have p146 : 0 ≤ ((ji35) : Int) := of_decide_eq_true (by first | (with_reducible assumption) | assumption)
                        have q146 : (ji35) < (l0_3.length : Int) := of_decide_eq_true (by first | (with_reducible assumption) | assumption)
                        obtain ⟨ad146, e146, hx146_0⟩ := Kd.at_string HR0_3.out (ji35) p146 q146
                        have hw146_0 := hx146_0
                        cases e146
                        replace hx146_0 := (HB.out.cell (World.block_lt_of_cell? w _ hx146_0)).trans hx146_0
                        replace p146 := eq_true p146
                        replace q146 := eq_true q146
                        refine start_ (n := 12) (S := fun w' => w'.cell? ⟨gb142, 0, none⟩ = some (.string a0_0) ∧ w'.cell? ⟨gb142, 1, none⟩ = some (.string a0_1) ∧ w'.cell? ⟨gb142, 2, none⟩ = some (.int .i64 a0_2) ∧ w'.cell? ⟨gb142, 3, none⟩ = some (.slice (some ad146) l0_3.length c0_3) ∧ w'.cell? ⟨gb142, 4, none⟩ = some (.slice A0_4 l0_4.length c0_4) ∧ w'.cell? ⟨gb142, 5, none⟩ = some (.string a0_5) ∧ w'.cell? ⟨gb142, 6, none⟩ = some (.string a0_6) ∧ w'.cell? ⟨gb142, 7, none⟩ = some (.string a0_7) ∧ w'.cell? ⟨gb142, 8, none⟩ = some (.string a0_8) ∧ w'.cell? ⟨gb142, 9, none⟩ = some (.bool a0_9) ∧ w'.cell? ⟨gb142, 10, none⟩ = some (.slice A0_10 l0_10.length c0_10) ∧ w'.cell? ⟨gb142, 11, none⟩ = some (.int .i64 a0_11) ∧ w'.cell? ⟨gb142, 12, none⟩ = some (.string a0_12) ∧ w'.cell? ⟨gb142, 13, none⟩ = some (.string a0_13) ∧ w'.cell? ⟨gb142, 14, none⟩ = some (.string a0_14) ∧ w'.cell? ⟨gb142, 15, none⟩ = some (.int .i64 a0_15) ∧ w'.cell? (ad146.add ((ji35)).toNat) = some (.string (rdOf ByteArray.empty l0_3 (ji35)))) (ds := []) #[false, false, false, false, false, false, false, false, false, false, false, false] (by kernel_rfl) rfl rfl ⟨(blk_cell BK142.out 0).trans rfl, (blk_cell BK142.out 1).trans rfl, (blk_cell BK142.out 2).trans rfl, (blk_cell BK142.out 3).trans rfl, (blk_cell BK142.out 4).trans rfl, (blk_cell BK142.out 5).trans rfl, (blk_cell BK142.out 6).trans rfl, (blk_cell BK142.out 7).trans rfl, (blk_cell BK142.out 8).trans rfl, (blk_cell BK142.out 9).trans rfl, (blk_cell BK142.out 10).trans rfl, (blk_cell BK142.out 11).trans rfl, (blk_cell BK142.out 12).trans rfl, (blk_cell BK142.out 13).trans rfl, (blk_cell BK142.out 14).trans rfl, (blk_cell BK142.out 15).trans rfl, ((HB.out.cell (World.block_lt_of_cell? w _ hw146_0)).trans hw146_0)⟩ (fun hHeld => ?_); refine with_tabW system_Signs.tab14 system_Signs.bits14 (fun HT_ HW_ => ?_)
                        generalize wc.drew = w40 at BK142 HB hx146_0 hHeld ⊢
                        refine pure_ (i := 0) (N := some 76) (v := ?_) (a' := ?_) #[true, false, false, false, false, false, false, false, false, false, false, false] rfl rfl (any_of HT_.out (by kernel_rfl)) (fun _ _ _ h => h) (Or.inl ⟨by rfl, ?_⟩) ?_ ?_
                        rotate_left
                        · intro w'
                          go_simp
                          with_reducible rfl
                        rotate_left
                        · simp only [Act.put, List.setIfInBounds_toArray, List.set_cons_zero, List.set_cons_succ, i64_w, i32_w]
                          rfl
                        refine pure_ (i := 2) (N := some 78) (v := ?_) (a' := ?_) #[true, false, true, false, false, false, false, false, false, false, false, false] rfl rfl (any_of HT_.out (by kernel_rfl)) (fun _ _ _ h => h) (Or.inl ⟨by rfl, ?_⟩) ?_ ?_
                        rotate_left
                        · intro w'
                          go_simp
                          with_reducible rfl
                        rotate_left
                        · simp only [Act.put, List.setIfInBounds_toArray, List.set_cons_zero, List.set_cons_succ, i64_w, i32_w]
                          rfl
                        refine pure_ (i := 3) (N := some 79) (v := ?_) (a' := ?_) #[true, false, true, true, false, false, false, false, false, false, false, false] rfl rfl (any_of HT_.out (by kernel_rfl)) (fun _ _ _ h => h) (Or.inl ⟨by rfl, ?_⟩) ?_ ?_
                        rotate_left
                        · intro w'
                          go_simp
                          with_reducible rfl
                        rotate_left
                        · simp only [Act.put, List.setIfInBounds_toArray, List.set_cons_zero, List.set_cons_succ, i64_w, i32_w]
                          rfl
                        refine pure_ (i := 4) (N := some 80) (v := ?_) (a' := ?_) #[true, false, true, true, true, false, false, false, false, false, false, false] rfl rfl (any_of HT_.out (by kernel_rfl)) (fun _ _ _ h => h) (Or.inl ⟨by rfl, ?_⟩) ?_ ?_
                        rotate_left
                        · intro w'
                          go_simp
                          with_reducible rfl
                        rotate_left
                        · simp only [Act.put, List.setIfInBounds_toArray, List.set_cons_zero, List.set_cons_succ, i64_w, i32_w]
                          rfl
                        refine pure_ (i := 5) (N := some 81) (v := ?_) (a' := ?_) #[true, false, true, true, true, true, false, false, false, false, false, false] rfl rfl (any_of HT_.out (by kernel_rfl)) (fun _ _ _ h => h) (Or.inl ⟨by rfl, ?_⟩) ?_ ?_
                        rotate_left
                        · intro w'
                          go_simp
                          with_reducible rfl
                        rotate_left
                        · simp only [Act.put, List.setIfInBounds_toArray, List.set_cons_zero, List.set_cons_succ, i64_w, i32_w]
                          rfl
                        refine pure_ (i := 8) (N := some 84) (v := ?_) (a' := ?_) #[true, false, true, true, true, true, false, false, true, false, false, false] rfl rfl (any_of HT_.out (by kernel_rfl)) (fun _ _ _ h => h) (Or.inl ⟨by rfl, ?_⟩) ?_ ?_
                        rotate_left
                        · intro w'
                          go_simp
                          with_reducible rfl
                        rotate_left
                        · simp only [Act.put, List.setIfInBounds_toArray, List.set_cons_zero, List.set_cons_succ, i64_w, i32_w]
                          rfl
                        refine take_ (i := 1) (N := some 77) (v := ?_) (a' := ?_) #[true, true, true, true, true, true, false, false, true, false, false, false] rfl rfl (take_ofW HT_.out HW_.out (by kernel_rfl)) (fun _ _ _ h => h) (Or.inl ⟨by rfl, ?_⟩) hHeld ?_ ?_
                        rotate_left
                        · rintro w' ⟨s0, s1, s2, s3, s4, s5, s6, s7, s8, s9, s10, s11, s12, s13, s14, s15, s16⟩
                          go_simp
                          with_reducible rfl
                        rotate_left
                        · simp only [Act.put, List.setIfInBounds_toArray, List.set_cons_zero, List.set_cons_succ, i64_w, i32_w]
                          rfl
                        refine pure_ (i := 6) (N := some 82) (v := ?_) (a' := ?_) #[true, true, true, true, true, true, true, false, true, false, false, false] rfl rfl (any_of HT_.out (by kernel_rfl)) (fun _ _ _ h => h) (Or.inl ⟨by rfl, ?_⟩) ?_ ?_
                        rotate_left
                        · intro w'
                          go_simp
                          with_reducible rfl
                        rotate_left
                        · simp only [Act.put, List.setIfInBounds_toArray, List.set_cons_zero, List.set_cons_succ, i64_w, i32_w]
                          rfl
                        refine take_ (i := 7) (N := some 83) (v := ?_) (a' := ?_) #[true, true, true, true, true, true, true, true, true, false, false, false] rfl rfl (take_ofW HT_.out HW_.out (by kernel_rfl)) (fun _ _ _ h => h) (Or.inl ⟨by rfl, ?_⟩) hHeld ?_ ?_
                        rotate_left
                        · rintro w' ⟨s0, s1, s2, s3, s4, s5, s6, s7, s8, s9, s10, s11, s12, s13, s14, s15, s16⟩
                          go_simp
                          with_reducible rfl
                        rotate_left
                        · simp only [Act.put, List.setIfInBounds_toArray, List.set_cons_zero, List.set_cons_succ, i64_w, i32_w]
                          rfl
                        refine one_ (i := 9) (N := some 85) #[true, true, true, true, true, true, true, true, true, true, false, false] rfl rfl (one_of HT_.out (by kernel_rfl)) (by decide) (fun K hK => ?_)
                        refine goes_ Try.func18 (by kernel_rfl) rfl #[.string (rdOf ByteArray.empty l0_3 (ji35)), .int .i64 (wrap64 (Int.tdiv (wrap64 ((wrap64 (a1 + (l0_3.length : Int))) - 1)) (l0_3.length : Int)))] (by rfl) rfl rfl (by (try simp only [List.map_toArray, List.map_cons, List.map_nil]); first | done | (simp only [hji35]; rfl) | rfl | (simp only [List.length_drop, List.length_take]; rfl)) ?_
                        with_reducible refine (strings_Repeat.calls (rdOf ByteArray.empty l0_3 (ji35)) (wrap64 (Int.tdiv (wrap64 ((wrap64 (a1 + (l0_3.length : Int))) - 1)) (l0_3.length : Int))) t147 _ A38.out).mono ?_
                        rintro e w41 ⟨rfl, hb⟩
                        refine ⟨_, rfl, ?_⟩
                        have n0_ := Aside0.mk (blk_below (g := gb142) (o := .cells #[.string a0_0, .string a0_1, .int .i64 a0_2, .slice (some ad146) l0_3.length c0_3, .slice A0_4 l0_4.length c0_4, .string a0_5, .string a0_6, .string a0_7, .string a0_8, .bool a0_9, .slice A0_10 l0_10.length c0_10, .int .i64 a0_11, .string a0_12, .string a0_13, .string a0_14, .int .i64 a0_15] 27 (0, 0)) (by (with_reducible repeat (first | refine blk_drewN ?_ _ | refine blk_drew ?_ | refine blk_alloc ?_ _)); exact BK142.out) hb)
                        have n1_ := Aside0.mk (below_step (by repeat (first | (with_reducible first | exact HB.out | apply below_alloc | apply pw_below_drewN | apply below_drew1 | refine below_set ?_ GE142.out) | exact HB.out)) hb)
                        clear BK142
                        clear HB
                        have BK142 := n0_
                        have HB := n1_
                        clear n0_ n1_
                        (try clear hb)
                        (try clear hb2)
                        (try clear hk)
                        (try clear hi)
                        refine hK.out _ _ ⟨(blk_cell BK142.out 0).trans rfl, (blk_cell BK142.out 1).trans rfl, (blk_cell BK142.out 2).trans rfl, (blk_cell BK142.out 3).trans rfl, (blk_cell BK142.out 4).trans rfl, (blk_cell BK142.out 5).trans rfl, (blk_cell BK142.out 6).trans rfl, (blk_cell BK142.out 7).trans rfl, (blk_cell BK142.out 8).trans rfl, (blk_cell BK142.out 9).trans rfl, (blk_cell BK142.out 10).trans rfl, (blk_cell BK142.out 11).trans rfl, (blk_cell BK142.out 12).trans rfl, (blk_cell BK142.out 13).trans rfl, (blk_cell BK142.out 14).trans rfl, (blk_cell BK142.out 15).trans rfl, ((HB.out.cell (World.block_lt_of_cell? w _ hw146_0)).trans hw146_0)⟩ (fun hHeld => ?_)
                        clear hK K
                        refine norm_ (a' := ?_) ?_ ?_
                        rotate_left
                        · show Act.put _ (some 85) _ = _
                          simp only [Act.put, List.setIfInBounds_toArray, List.set_cons_zero, List.set_cons_succ, i64_w, i32_w]
                          rfl
                        refine pure_ (i := 10) (N := some 4) (v := ?_) (a' := ?_) #[true, true, true, true, true, true, true, true, true, true, true, false] rfl rfl (any_of HT_.out (by kernel_rfl)) (fun _ _ _ h => h) (Or.inl ⟨by rfl, ?_⟩) ?_ ?_
                        rotate_left
                        · intro w'
                          go_simp
                          with_reducible rfl
                        rotate_left
                        · simp only [Act.put, List.setIfInBounds_toArray, List.set_cons_zero, List.set_cons_succ, i64_w, i32_w]
                          rfl
                        refine pure_ (i := 11) (N := some 5) (v := ?_) (a' := ?_) #[true, true, true, true, true, true, true, true, true, true, true, true] rfl rfl (any_of HT_.out (by kernel_rfl)) (fun _ _ _ h => h) (Or.inl ⟨by rfl, ?_⟩) ?_ ?_
                        rotate_left
                        · intro w'
                          go_simp
                          with_reducible rfl
                        rotate_left
                        · simp only [Act.put, List.setIfInBounds_toArray, List.set_cons_zero, List.set_cons_succ, i64_w, i32_w]
                          rfl
                        refine done_ (done_of HT_.out (by kernel_rfl)) ?_
                        try go_wp2
                        go_ret2
                        exact ⟨by first | rfl | (simp [errW_none, errW_some] <;> rfl) | (simp only [← hji35]; first | rfl | (simp [errW_none, errW_some] <;> rfl)) | (simp [*, errW_none, errW_some] <;> rfl), by repeat (first | (with_reducible first | exact HB.out | apply below_alloc | apply pw_below_drewN | apply below_drew1 | refine below_set ?_ GE142.out) | exact HB.out)⟩
                      · as_aux_lemma =>
                        rw [if_neg c37] at H
                        exact absurd H (by simp)
                    · as_aux_lemma =>
                      rw [if_neg c36] at H
                      exact absurd H (by simp)
                  · as_aux_lemma =>
                    rw [if_neg c34] at H
                    have c34b0 : decide ((wrap64 (Int.tdiv (wrap64 ((wrap64 (a1 + (l0_3.length : Int))) - 1)) (l0_3.length : Int))) ≤ 60) = false := decide_eq_false c34
                    clear c34
                    simp only [Option.some.injEq, Prod.mk.injEq] at H
                    obtain ⟨rfl, rfl⟩ := H
                    have hcz42_0 : wc.cell? ⟨gb142, 0, none⟩ = some (.string a0_0) := (blk_cell BK142.out 0).trans rfl
                    have hcz42_1 : wc.cell? ⟨gb142, 1, none⟩ = some (.string a0_1) := (blk_cell BK142.out 1).trans rfl
                    have hcz42_2 : wc.cell? ⟨gb142, 2, none⟩ = some (.int .i64 a0_2) := (blk_cell BK142.out 2).trans rfl
                    have hcz42_3 : wc.cell? ⟨gb142, 3, none⟩ = some (.slice A0_3 l0_3.length c0_3) := (blk_cell BK142.out 3).trans rfl
                    have hcz42_4 : wc.cell? ⟨gb142, 4, none⟩ = some (.slice A0_4 l0_4.length c0_4) := (blk_cell BK142.out 4).trans rfl
                    have hcz42_5 : wc.cell? ⟨gb142, 5, none⟩ = some (.string a0_5) := (blk_cell BK142.out 5).trans rfl
                    have hcz42_6 : wc.cell? ⟨gb142, 6, none⟩ = some (.string a0_6) := (blk_cell BK142.out 6).trans rfl
                    have hcz42_7 : wc.cell? ⟨gb142, 7, none⟩ = some (.string a0_7) := (blk_cell BK142.out 7).trans rfl
                    have hcz42_8 : wc.cell? ⟨gb142, 8, none⟩ = some (.string a0_8) := (blk_cell BK142.out 8).trans rfl
                    have hcz42_9 : wc.cell? ⟨gb142, 9, none⟩ = some (.bool a0_9) := (blk_cell BK142.out 9).trans rfl
                    have hcz42_10 : wc.cell? ⟨gb142, 10, none⟩ = some (.slice A0_10 l0_10.length c0_10) := (blk_cell BK142.out 10).trans rfl
                    have hcz42_11 : wc.cell? ⟨gb142, 11, none⟩ = some (.int .i64 a0_11) := (blk_cell BK142.out 11).trans rfl
                    have hcz42_12 : wc.cell? ⟨gb142, 12, none⟩ = some (.string a0_12) := (blk_cell BK142.out 12).trans rfl
                    have hcz42_13 : wc.cell? ⟨gb142, 13, none⟩ = some (.string a0_13) := (blk_cell BK142.out 13).trans rfl
                    have hcz42_14 : wc.cell? ⟨gb142, 14, none⟩ = some (.string a0_14) := (blk_cell BK142.out 14).trans rfl
                    have hcz42_15 : wc.cell? ⟨gb142, 15, none⟩ = some (.int .i64 a0_15) := (blk_cell BK142.out 15).trans rfl
                    have hfz42_0 := blk_frozen BK142.out 0
                    have hfz42_1 := blk_frozen BK142.out 1
                    have hfz42_2 := blk_frozen BK142.out 2
                    have hfz42_3 := blk_frozen BK142.out 3
                    have hfz42_4 := blk_frozen BK142.out 4
                    have hfz42_5 := blk_frozen BK142.out 5
                    have hfz42_6 := blk_frozen BK142.out 6
                    have hfz42_7 := blk_frozen BK142.out 7
                    have hfz42_8 := blk_frozen BK142.out 8
                    have hfz42_9 := blk_frozen BK142.out 9
                    have hfz42_10 := blk_frozen BK142.out 10
                    have hfz42_11 := blk_frozen BK142.out 11
                    have hfz42_12 := blk_frozen BK142.out 12
                    have hfz42_13 := blk_frozen BK142.out 13
                    have hfz42_14 := blk_frozen BK142.out 14
                    have hfz42_15 := blk_frozen BK142.out 15
                    go_wp2
                    go_ret2
                    exact ⟨by first | rfl | (simp [errW_none, errW_some] <;> rfl) | (simp [*, errW_none, errW_some] <;> rfl), by repeat (first | (with_reducible first | exact HB.out | apply below_alloc | apply pw_below_drewN | apply below_drew1 | refine below_set ?_ GE142.out) | exact HB.out)⟩
                · as_aux_lemma =>
                  rw [if_neg c33] at H
                  have c33b0 : decide (1 ≤ a1) = false := decide_eq_false c33
                  clear c33
                  simp only [Option.some.injEq, Prod.mk.injEq] at H
                  obtain ⟨rfl, rfl⟩ := H
                  have hcz43_0 : wc.cell? ⟨gb142, 0, none⟩ = some (.string a0_0) := (blk_cell BK142.out 0).trans rfl
                  have hcz43_1 : wc.cell? ⟨gb142, 1, none⟩ = some (.string a0_1) := (blk_cell BK142.out 1).trans rfl
                  have hcz43_2 : wc.cell? ⟨gb142, 2, none⟩ = some (.int .i64 a0_2) := (blk_cell BK142.out 2).trans rfl
                  have hcz43_3 : wc.cell? ⟨gb142, 3, none⟩ = some (.slice A0_3 l0_3.length c0_3) := (blk_cell BK142.out 3).trans rfl
                  have hcz43_4 : wc.cell? ⟨gb142, 4, none⟩ = some (.slice A0_4 l0_4.length c0_4) := (blk_cell BK142.out 4).trans rfl
                  have hcz43_5 : wc.cell? ⟨gb142, 5, none⟩ = some (.string a0_5) := (blk_cell BK142.out 5).trans rfl
                  have hcz43_6 : wc.cell? ⟨gb142, 6, none⟩ = some (.string a0_6) := (blk_cell BK142.out 6).trans rfl
                  have hcz43_7 : wc.cell? ⟨gb142, 7, none⟩ = some (.string a0_7) := (blk_cell BK142.out 7).trans rfl
                  have hcz43_8 : wc.cell? ⟨gb142, 8, none⟩ = some (.string a0_8) := (blk_cell BK142.out 8).trans rfl
                  have hcz43_9 : wc.cell? ⟨gb142, 9, none⟩ = some (.bool a0_9) := (blk_cell BK142.out 9).trans rfl
                  have hcz43_10 : wc.cell? ⟨gb142, 10, none⟩ = some (.slice A0_10 l0_10.length c0_10) := (blk_cell BK142.out 10).trans rfl
                  have hcz43_11 : wc.cell? ⟨gb142, 11, none⟩ = some (.int .i64 a0_11) := (blk_cell BK142.out 11).trans rfl
                  have hcz43_12 : wc.cell? ⟨gb142, 12, none⟩ = some (.string a0_12) := (blk_cell BK142.out 12).trans rfl
                  have hcz43_13 : wc.cell? ⟨gb142, 13, none⟩ = some (.string a0_13) := (blk_cell BK142.out 13).trans rfl
                  have hcz43_14 : wc.cell? ⟨gb142, 14, none⟩ = some (.string a0_14) := (blk_cell BK142.out 14).trans rfl
                  have hcz43_15 : wc.cell? ⟨gb142, 15, none⟩ = some (.int .i64 a0_15) := (blk_cell BK142.out 15).trans rfl
                  have hfz43_0 := blk_frozen BK142.out 0
                  have hfz43_1 := blk_frozen BK142.out 1
                  have hfz43_2 := blk_frozen BK142.out 2
                  have hfz43_3 := blk_frozen BK142.out 3
                  have hfz43_4 := blk_frozen BK142.out 4
                  have hfz43_5 := blk_frozen BK142.out 5
                  have hfz43_6 := blk_frozen BK142.out 6
                  have hfz43_7 := blk_frozen BK142.out 7
                  have hfz43_8 := blk_frozen BK142.out 8
                  have hfz43_9 := blk_frozen BK142.out 9
                  have hfz43_10 := blk_frozen BK142.out 10
                  have hfz43_11 := blk_frozen BK142.out 11
                  have hfz43_12 := blk_frozen BK142.out 12
                  have hfz43_13 := blk_frozen BK142.out 13
                  have hfz43_14 := blk_frozen BK142.out 14
                  have hfz43_15 := blk_frozen BK142.out 15
                  go_wp2
                  go_ret2
                  exact ⟨by first | rfl | (simp [errW_none, errW_some] <;> rfl) | (simp [*, errW_none, errW_some] <;> rfl), by repeat (first | (with_reducible first | exact HB.out | apply below_alloc | apply pw_below_drewN | apply below_drew1 | refine below_set ?_ GE142.out) | exact HB.out)⟩
            · as_aux_lemma =>
              rw [if_neg c31] at H
              have c31b0 : (a0_1.toList == ([115, 121, 109, 98, 111, 108, 105, 99] : List UInt8)) = false := beq_eq_false_iff_ne.mpr c31
              have c31b1 : (a0_1.toList != ([115, 121, 109, 98, 111, 108, 105, 99] : List UInt8)) = true := bne_iff_ne.mpr c31
              by_cases c44 : a0_1.toList = ([97, 108, 112, 104, 97, 98, 101, 116, 105, 99] : List UInt8)
              · as_aux_lemma =>
                rw [if_pos c44] at H
                have c44b0 : (a0_1.toList == ([97, 108, 112, 104, 97, 98, 101, 116, 105, 99] : List UInt8)) = true := beq_iff_eq.mpr c44
                have c44b1 : (a0_1.toList != ([97, 108, 112, 104, 97, 98, 101, 116, 105, 99] : List UInt8)) = false := bne_eq_false_iff_eq.mpr c44
                clear c44
                by_cases c45 : a1 ≥ 1
                · as_aux_lemma =>
                  rw [if_pos c45] at H
                  have c45b0 : decide (1 ≤ a1) = true := decide_eq_true c45
                  clear c45
                  replace H := Option.bind_eq_some_iff.mp H
                  obtain ⟨t148, A460, H⟩ := H
                  replace H : ((system_chosen.f a0_0 a0_1 a0_2 l0_3 l0_4 a0_5 a0_6 a0_7 a0_8 a0_9 l0_10 a0_11 a0_12 a0_13 a0_14 a0_15 t148).bind fun bt151 => (some (bt151.1, bt151.2))) = some (r1, r2) := H
                  have A46 := Aside0.mk A460
                  clear A460
                  replace H := Option.bind_eq_some_iff.mp H
                  obtain ⟨⟨t151, t152⟩, A470, H⟩ := H
                  replace H : (some (t151, t152)) = some (r1, r2) := H
                  have A47 := Aside0.mk A470
                  clear A470
                  simp only [Option.some.injEq, Prod.mk.injEq] at H
                  obtain ⟨rfl, rfl⟩ := H
                  have hcz48_0 : wc.cell? ⟨gb142, 0, none⟩ = some (.string a0_0) := (blk_cell BK142.out 0).trans rfl
                  have hcz48_1 : wc.cell? ⟨gb142, 1, none⟩ = some (.string a0_1) := (blk_cell BK142.out 1).trans rfl
                  have hcz48_2 : wc.cell? ⟨gb142, 2, none⟩ = some (.int .i64 a0_2) := (blk_cell BK142.out 2).trans rfl
                  have hcz48_3 : wc.cell? ⟨gb142, 3, none⟩ = some (.slice A0_3 l0_3.length c0_3) := (blk_cell BK142.out 3).trans rfl
                  have hcz48_4 : wc.cell? ⟨gb142, 4, none⟩ = some (.slice A0_4 l0_4.length c0_4) := (blk_cell BK142.out 4).trans rfl
                  have hcz48_5 : wc.cell? ⟨gb142, 5, none⟩ = some (.string a0_5) := (blk_cell BK142.out 5).trans rfl
                  have hcz48_6 : wc.cell? ⟨gb142, 6, none⟩ = some (.string a0_6) := (blk_cell BK142.out 6).trans rfl
                  have hcz48_7 : wc.cell? ⟨gb142, 7, none⟩ = some (.string a0_7) := (blk_cell BK142.out 7).trans rfl
                  have hcz48_8 : wc.cell? ⟨gb142, 8, none⟩ = some (.string a0_8) := (blk_cell BK142.out 8).trans rfl
                  have hcz48_9 : wc.cell? ⟨gb142, 9, none⟩ = some (.bool a0_9) := (blk_cell BK142.out 9).trans rfl
                  have hcz48_10 : wc.cell? ⟨gb142, 10, none⟩ = some (.slice A0_10 l0_10.length c0_10) := (blk_cell BK142.out 10).trans rfl
                  have hcz48_11 : wc.cell? ⟨gb142, 11, none⟩ = some (.int .i64 a0_11) := (blk_cell BK142.out 11).trans rfl
                  have hcz48_12 : wc.cell? ⟨gb142, 12, none⟩ = some (.string a0_12) := (blk_cell BK142.out 12).trans rfl
                  have hcz48_13 : wc.cell? ⟨gb142, 13, none⟩ = some (.string a0_13) := (blk_cell BK142.out 13).trans rfl
                  have hcz48_14 : wc.cell? ⟨gb142, 14, none⟩ = some (.string a0_14) := (blk_cell BK142.out 14).trans rfl
                  have hcz48_15 : wc.cell? ⟨gb142, 15, none⟩ = some (.int .i64 a0_15) := (blk_cell BK142.out 15).trans rfl
                  have hfz48_0 := blk_frozen BK142.out 0
                  have hfz48_1 := blk_frozen BK142.out 1
                  have hfz48_2 := blk_frozen BK142.out 2
                  have hfz48_3 := blk_frozen BK142.out 3
                  have hfz48_4 := blk_frozen BK142.out 4
                  have hfz48_5 := blk_frozen BK142.out 5
                  have hfz48_6 := blk_frozen BK142.out 6
                  have hfz48_7 := blk_frozen BK142.out 7
                  have hfz48_8 := blk_frozen BK142.out 8
                  have hfz48_9 := blk_frozen BK142.out 9
                  have hfz48_10 := blk_frozen BK142.out 10
                  have hfz48_11 := blk_frozen BK142.out 11
                  have hfz48_12 := blk_frozen BK142.out 12
                  have hfz48_13 := blk_frozen BK142.out 13
                  have hfz48_14 := blk_frozen BK142.out 14
                  have hfz48_15 := blk_frozen BK142.out 15
                  try go_wp2
                  have n0_ := Aside0.mk (blk_drew BK142.out)
                  have n1_ := Aside0.mk (below_drew1 HB.out)
                  clear BK142
                  clear HB
                  have BK142 := n0_
                  have HB := n1_
                  clear n0_ n1_
                  refine start_ (n := 9) (S := fun w' => w'.cell? ⟨gb142, 0, none⟩ = some (.string a0_0) ∧ w'.cell? ⟨gb142, 1, none⟩ = some (.string a0_1) ∧ w'.cell? ⟨gb142, 2, none⟩ = some (.int .i64 a0_2) ∧ w'.cell? ⟨gb142, 3, none⟩ = some (.slice A0_3 l0_3.length c0_3) ∧ w'.cell? ⟨gb142, 4, none⟩ = some (.slice A0_4 l0_4.length c0_4) ∧ w'.cell? ⟨gb142, 5, none⟩ = some (.string a0_5) ∧ w'.cell? ⟨gb142, 6, none⟩ = some (.string a0_6) ∧ w'.cell? ⟨gb142, 7, none⟩ = some (.string a0_7) ∧ w'.cell? ⟨gb142, 8, none⟩ = some (.string a0_8) ∧ w'.cell? ⟨gb142, 9, none⟩ = some (.bool a0_9) ∧ w'.cell? ⟨gb142, 10, none⟩ = some (.slice A0_10 l0_10.length c0_10) ∧ w'.cell? ⟨gb142, 11, none⟩ = some (.int .i64 a0_11) ∧ w'.cell? ⟨gb142, 12, none⟩ = some (.string a0_12) ∧ w'.cell? ⟨gb142, 13, none⟩ = some (.string a0_13) ∧ w'.cell? ⟨gb142, 14, none⟩ = some (.string a0_14) ∧ w'.cell? ⟨gb142, 15, none⟩ = some (.int .i64 a0_15)) (ds := []) #[false, false, false, false, false, false, false, false, false] (by kernel_rfl) rfl rfl ⟨(blk_cell BK142.out 0).trans rfl, (blk_cell BK142.out 1).trans rfl, (blk_cell BK142.out 2).trans rfl, (blk_cell BK142.out 3).trans rfl, (blk_cell BK142.out 4).trans rfl, (blk_cell BK142.out 5).trans rfl, (blk_cell BK142.out 6).trans rfl, (blk_cell BK142.out 7).trans rfl, (blk_cell BK142.out 8).trans rfl, (blk_cell BK142.out 9).trans rfl, (blk_cell BK142.out 10).trans rfl, (blk_cell BK142.out 11).trans rfl, (blk_cell BK142.out 12).trans rfl, (blk_cell BK142.out 13).trans rfl, (blk_cell BK142.out 14).trans rfl, (blk_cell BK142.out 15).trans rfl⟩ (fun hHeld => ?_); refine with_tabW system_Signs.tab17 system_Signs.bits17 (fun HT_ HW_ => ?_)
                  generalize wc.drew = w49 at BK142 HB hHeld ⊢
                  refine pure_ (i := 1) (N := some 91) (v := ?_) (a' := ?_) #[false, true, false, false, false, false, false, false, false] rfl rfl (any_of HT_.out (by kernel_rfl)) (fun _ _ _ h => h) (Or.inl ⟨by rfl, ?_⟩) ?_ ?_
                  rotate_left
                  · intro w'
                    go_simp
                    with_reducible rfl
                  rotate_left
                  · simp only [Act.put, List.setIfInBounds_toArray, List.set_cons_zero, List.set_cons_succ, i64_w, i32_w]
                    rfl
                  refine pure_ (i := 2) (N := some 92) (v := ?_) (a' := ?_) #[false, true, true, false, false, false, false, false, false] rfl rfl (any_of HT_.out (by kernel_rfl)) (fun _ _ _ h => h) (Or.inl ⟨by rfl, ?_⟩) ?_ ?_
                  rotate_left
                  · intro w'
                    go_simp
                    with_reducible rfl
                  rotate_left
                  · simp only [Act.put, List.setIfInBounds_toArray, List.set_cons_zero, List.set_cons_succ, i64_w, i32_w]
                    rfl
                  refine take_ (i := 0) (N := some 90) (v := ?_) (a' := ?_) #[true, true, true, false, false, false, false, false, false] rfl rfl (take_ofW HT_.out HW_.out (by kernel_rfl)) (fun _ _ _ h => h) (Or.inl ⟨by rfl, ?_⟩) hHeld ?_ ?_
                  rotate_left
                  · rintro w' ⟨s0, s1, s2, s3, s4, s5, s6, s7, s8, s9, s10, s11, s12, s13, s14, s15⟩
                    go_simp
                    with_reducible rfl
                  rotate_left
                  · simp only [Act.put, List.setIfInBounds_toArray, List.set_cons_zero, List.set_cons_succ, i64_w, i32_w]
                    rfl
                  refine one_ (i := 3) (N := some 93) #[true, true, true, true, false, false, false, false, false] rfl rfl (one_of HT_.out (by kernel_rfl)) (by decide) (fun K hK => ?_)
                  refine goes_ Try.func20 (by kernel_rfl) rfl #[.int .i64 a1, .int .i64 (l0_3.length : Int), .bool false] (by rfl) rfl rfl (by (try simp only [List.map_toArray, List.map_cons, List.map_nil]); first | done | rfl | (simp only [List.length_drop, List.length_take]; rfl)) ?_
                  with_reducible refine (system_positional.calls kj2 a1 (l0_3.length : Int) false t148 _ A46.out).mono ?_
                  rintro e w50 ⟨v149, rfl, ho0, hb⟩
                  refine ⟨_, rfl, ?_⟩
                  have n0_ := Aside0.mk (Kd.R_lower ho0 (below_size (by repeat (first | (with_reducible first | exact HB.out | apply below_alloc | apply pw_below_drewN | apply below_drew1 | refine below_set ?_ GE142.out) | exact HB.out))))
                  have n1_ := Aside0.mk (blk_below (g := gb142) (o := .cells #[.string a0_0, .string a0_1, .int .i64 a0_2, .slice A0_3 l0_3.length c0_3, .slice A0_4 l0_4.length c0_4, .string a0_5, .string a0_6, .string a0_7, .string a0_8, .bool a0_9, .slice A0_10 l0_10.length c0_10, .int .i64 a0_11, .string a0_12, .string a0_13, .string a0_14, .int .i64 a0_15] 27 (0, 0)) (by (with_reducible repeat (first | refine blk_drewN ?_ _ | refine blk_drew ?_ | refine blk_alloc ?_ _)); exact BK142.out) hb)
                  have n2_ := Aside0.mk (below_step (by repeat (first | (with_reducible first | exact HB.out | apply below_alloc | apply pw_below_drewN | apply below_drew1 | refine below_set ?_ GE142.out) | exact HB.out)) hb)
                  clear BK142
                  clear HB
                  have HO150 := n0_
                  have BK142 := n1_
                  have HB := n2_
                  clear n0_ n1_ n2_
                  (try clear hb)
                  (try clear hb2)
                  (try clear hk)
                  (try clear hi)
                  (try clear ho0)
                  obtain ⟨Ao51, co51, eo51⟩ := Kd.R_slice HO150.out
                  (first | subst eo51 | (injection eo51 with f1_ f2_ f3_; have f4_ := f1_.symm; have f5_ := f3_.symm; clear f1_ f2_ f3_; subst f4_; subst f5_))
                  refine hK.out _ _ ⟨(blk_cell BK142.out 0).trans rfl, (blk_cell BK142.out 1).trans rfl, (blk_cell BK142.out 2).trans rfl, (blk_cell BK142.out 3).trans rfl, (blk_cell BK142.out 4).trans rfl, (blk_cell BK142.out 5).trans rfl, (blk_cell BK142.out 6).trans rfl, (blk_cell BK142.out 7).trans rfl, (blk_cell BK142.out 8).trans rfl, (blk_cell BK142.out 9).trans rfl, (blk_cell BK142.out 10).trans rfl, (blk_cell BK142.out 11).trans rfl, (blk_cell BK142.out 12).trans rfl, (blk_cell BK142.out 13).trans rfl, (blk_cell BK142.out 14).trans rfl, (blk_cell BK142.out 15).trans rfl⟩ (fun hHeld => ?_)
                  clear hK K
                  refine norm_ (a' := ?_) ?_ ?_
                  rotate_left
                  · show Act.put _ (some 93) _ = _
                    simp only [Act.put, List.setIfInBounds_toArray, List.set_cons_zero, List.set_cons_succ, i64_w, i32_w]
                    rfl
                  refine one_ (i := 4) (N := some 94) #[true, true, true, true, true, false, false, false, false] rfl rfl (one_of HT_.out (by kernel_rfl)) (by decide) (fun K hK => ?_)
                  refine goes_ Try.func19 (by kernel_rfl) rfl #[.agg #[.string a0_0, .string a0_1, .int .i64 a0_2, .slice A0_3 l0_3.length c0_3, .slice A0_4 l0_4.length c0_4, .string a0_5, .string a0_6, .string a0_7, .string a0_8, .bool a0_9, .slice A0_10 l0_10.length c0_10, .int .i64 a0_11, .string a0_12, .string a0_13, .string a0_14, .int .i64 a0_15], .slice Ao51 t148.length co51] (by rfl) rfl rfl (by (try simp only [List.map_toArray, List.map_cons, List.map_nil]); first | done | rfl | (simp only [List.length_drop, List.length_take]; rfl)) ?_
                  with_reducible refine (system_chosen.calls a0_0 a0_1 a0_2 _ _ l0_3 _ _ l0_4 a0_5 a0_6 a0_7 a0_8 a0_9 _ _ l0_10 a0_11 a0_12 a0_13 a0_14 a0_15 _ _ t148 t151 t152 _ ?side1 ?side2 ?side3 ?side4 ?side5 ?side6 ?side7 ?side8 A47.out).mono ?_
                  (case side1 => repeat (first | exact (Kd.C_below HR0_3.out HB.out) | (with_reducible refine Kd.C_alloc ?_ _) | (with_reducible refine Kd.C_drewN ?_ _) | (with_reducible refine Kd.C_drew ?_)))
                  (case side2 => exact HC0_3.out)
                  (case side3 => repeat (first | exact (Kd.C_below HR0_4.out HB.out) | (with_reducible refine Kd.C_alloc ?_ _) | (with_reducible refine Kd.C_drewN ?_ _) | (with_reducible refine Kd.C_drew ?_)))
                  (case side4 => exact HC0_4.out)
                  (case side5 => repeat (first | exact (Kd.C_below HR0_10.out HB.out) | (with_reducible refine Kd.C_alloc ?_ _) | (with_reducible refine Kd.C_drewN ?_ _) | (with_reducible refine Kd.C_drew ?_)))
                  (case side6 => exact HC0_10.out)
                  (case side7 => repeat (first | exact (Kd.R_reads' HO150.out).2.2 | (with_reducible refine Kd.C_alloc ?_ _) | (with_reducible refine Kd.C_drewN ?_ _) | (with_reducible refine Kd.C_drew ?_)))
                  (case side8 => exact (Kd.R_reads' HO150.out).2.1)
                  rintro e w52 ⟨rfl, hb⟩
                  refine ⟨_, rfl, ?_⟩
                  have n0_ := Aside0.mk (Kd.R_below (by (with_reducible repeat (first | apply Kd.R_alloc | apply Kd.R_drewN | apply Kd.R_drew)); exact HO150.out) hb)
                  have n1_ := Aside0.mk (blk_below (g := gb142) (o := .cells #[.string a0_0, .string a0_1, .int .i64 a0_2, .slice A0_3 l0_3.length c0_3, .slice A0_4 l0_4.length c0_4, .string a0_5, .string a0_6, .string a0_7, .string a0_8, .bool a0_9, .slice A0_10 l0_10.length c0_10, .int .i64 a0_11, .string a0_12, .string a0_13, .string a0_14, .int .i64 a0_15] 27 (0, 0)) (by (with_reducible repeat (first | refine blk_drewN ?_ _ | refine blk_drew ?_ | refine blk_alloc ?_ _)); exact BK142.out) hb)
                  have n2_ := Aside0.mk (below_step (by repeat (first | (with_reducible first | exact HB.out | apply below_alloc | apply pw_below_drewN | apply below_drew1 | refine below_set ?_ GE142.out) | exact HB.out)) hb)
                  clear HO150
                  clear BK142
                  clear HB
                  have HO150 := n0_
                  have BK142 := n1_
                  have HB := n2_
                  clear n0_ n1_ n2_
                  (try clear hb)
                  (try clear hb2)
                  (try clear hk)
                  (try clear hi)
                  refine hK.out _ _ ⟨(blk_cell BK142.out 0).trans rfl, (blk_cell BK142.out 1).trans rfl, (blk_cell BK142.out 2).trans rfl, (blk_cell BK142.out 3).trans rfl, (blk_cell BK142.out 4).trans rfl, (blk_cell BK142.out 5).trans rfl, (blk_cell BK142.out 6).trans rfl, (blk_cell BK142.out 7).trans rfl, (blk_cell BK142.out 8).trans rfl, (blk_cell BK142.out 9).trans rfl, (blk_cell BK142.out 10).trans rfl, (blk_cell BK142.out 11).trans rfl, (blk_cell BK142.out 12).trans rfl, (blk_cell BK142.out 13).trans rfl, (blk_cell BK142.out 14).trans rfl, (blk_cell BK142.out 15).trans rfl⟩ (fun hHeld => ?_)
                  clear hK K
                  refine norm_ (a' := ?_) ?_ ?_
                  rotate_left
                  · show Act.put _ (some 94) _ = _
                    simp only [Act.put, List.setIfInBounds_toArray, List.set_cons_zero, List.set_cons_succ, i64_w, i32_w]
                    rfl
                  refine pure_ (i := 5) (N := some 95) (v := ?_) (a' := ?_) #[true, true, true, true, true, true, false, false, false] rfl rfl (any_of HT_.out (by kernel_rfl)) (fun _ _ _ h => h) (Or.inl ⟨by rfl, ?_⟩) ?_ ?_
                  rotate_left
                  · intro w'
                    go_simp
                    with_reducible rfl
                  rotate_left
                  · simp only [Act.put, List.setIfInBounds_toArray, List.set_cons_zero, List.set_cons_succ, i64_w, i32_w]
                    rfl
                  refine pure_ (i := 6) (N := some 96) (v := ?_) (a' := ?_) #[true, true, true, true, true, true, true, false, false] rfl rfl (any_of HT_.out (by kernel_rfl)) (fun _ _ _ h => h) (Or.inl ⟨by rfl, ?_⟩) ?_ ?_
                  rotate_left
                  · intro w'
                    go_simp
                    with_reducible rfl
                  rotate_left
                  · simp only [Act.put, List.setIfInBounds_toArray, List.set_cons_zero, List.set_cons_succ, i64_w, i32_w]
                    rfl
                  refine pure_ (i := 7) (N := some 4) (v := ?_) (a' := ?_) #[true, true, true, true, true, true, true, true, false] rfl rfl (any_of HT_.out (by kernel_rfl)) (fun _ _ _ h => h) (Or.inl ⟨by rfl, ?_⟩) ?_ ?_
                  rotate_left
                  · intro w'
                    go_simp
                    with_reducible rfl
                  rotate_left
                  · simp only [Act.put, List.setIfInBounds_toArray, List.set_cons_zero, List.set_cons_succ, i64_w, i32_w]
                    rfl
                  refine pure_ (i := 8) (N := some 5) (v := ?_) (a' := ?_) #[true, true, true, true, true, true, true, true, true] rfl rfl (any_of HT_.out (by kernel_rfl)) (fun _ _ _ h => h) (Or.inl ⟨by rfl, ?_⟩) ?_ ?_
                  rotate_left
                  · intro w'
                    go_simp
                    with_reducible rfl
                  rotate_left
                  · simp only [Act.put, List.setIfInBounds_toArray, List.set_cons_zero, List.set_cons_succ, i64_w, i32_w]
                    rfl
                  refine done_ (done_of HT_.out (by kernel_rfl)) ?_
                  try go_wp2
                  go_ret2
                  exact ⟨by first | rfl | (simp [errW_none, errW_some] <;> rfl) | (simp [*, errW_none, errW_some] <;> rfl), by repeat (first | (with_reducible first | exact HB.out | apply below_alloc | apply pw_below_drewN | apply below_drew1 | refine below_set ?_ GE142.out) | exact HB.out)⟩
                · as_aux_lemma =>
                  rw [if_neg c45] at H
                  have c45b0 : decide (1 ≤ a1) = false := decide_eq_false c45
                  clear c45
                  simp only [Option.some.injEq, Prod.mk.injEq] at H
                  obtain ⟨rfl, rfl⟩ := H
                  have hcz53_0 : wc.cell? ⟨gb142, 0, none⟩ = some (.string a0_0) := (blk_cell BK142.out 0).trans rfl
                  have hcz53_1 : wc.cell? ⟨gb142, 1, none⟩ = some (.string a0_1) := (blk_cell BK142.out 1).trans rfl
                  have hcz53_2 : wc.cell? ⟨gb142, 2, none⟩ = some (.int .i64 a0_2) := (blk_cell BK142.out 2).trans rfl
                  have hcz53_3 : wc.cell? ⟨gb142, 3, none⟩ = some (.slice A0_3 l0_3.length c0_3) := (blk_cell BK142.out 3).trans rfl
                  have hcz53_4 : wc.cell? ⟨gb142, 4, none⟩ = some (.slice A0_4 l0_4.length c0_4) := (blk_cell BK142.out 4).trans rfl
                  have hcz53_5 : wc.cell? ⟨gb142, 5, none⟩ = some (.string a0_5) := (blk_cell BK142.out 5).trans rfl
                  have hcz53_6 : wc.cell? ⟨gb142, 6, none⟩ = some (.string a0_6) := (blk_cell BK142.out 6).trans rfl
                  have hcz53_7 : wc.cell? ⟨gb142, 7, none⟩ = some (.string a0_7) := (blk_cell BK142.out 7).trans rfl
                  have hcz53_8 : wc.cell? ⟨gb142, 8, none⟩ = some (.string a0_8) := (blk_cell BK142.out 8).trans rfl
                  have hcz53_9 : wc.cell? ⟨gb142, 9, none⟩ = some (.bool a0_9) := (blk_cell BK142.out 9).trans rfl
                  have hcz53_10 : wc.cell? ⟨gb142, 10, none⟩ = some (.slice A0_10 l0_10.length c0_10) := (blk_cell BK142.out 10).trans rfl
                  have hcz53_11 : wc.cell? ⟨gb142, 11, none⟩ = some (.int .i64 a0_11) := (blk_cell BK142.out 11).trans rfl
                  have hcz53_12 : wc.cell? ⟨gb142, 12, none⟩ = some (.string a0_12) := (blk_cell BK142.out 12).trans rfl
                  have hcz53_13 : wc.cell? ⟨gb142, 13, none⟩ = some (.string a0_13) := (blk_cell BK142.out 13).trans rfl
                  have hcz53_14 : wc.cell? ⟨gb142, 14, none⟩ = some (.string a0_14) := (blk_cell BK142.out 14).trans rfl
                  have hcz53_15 : wc.cell? ⟨gb142, 15, none⟩ = some (.int .i64 a0_15) := (blk_cell BK142.out 15).trans rfl
                  have hfz53_0 := blk_frozen BK142.out 0
                  have hfz53_1 := blk_frozen BK142.out 1
                  have hfz53_2 := blk_frozen BK142.out 2
                  have hfz53_3 := blk_frozen BK142.out 3
                  have hfz53_4 := blk_frozen BK142.out 4
                  have hfz53_5 := blk_frozen BK142.out 5
                  have hfz53_6 := blk_frozen BK142.out 6
                  have hfz53_7 := blk_frozen BK142.out 7
                  have hfz53_8 := blk_frozen BK142.out 8
                  have hfz53_9 := blk_frozen BK142.out 9
                  have hfz53_10 := blk_frozen BK142.out 10
                  have hfz53_11 := blk_frozen BK142.out 11
                  have hfz53_12 := blk_frozen BK142.out 12
                  have hfz53_13 := blk_frozen BK142.out 13
                  have hfz53_14 := blk_frozen BK142.out 14
                  have hfz53_15 := blk_frozen BK142.out 15
                  go_wp2
                  go_ret2
                  exact ⟨by first | rfl | (simp [errW_none, errW_some] <;> rfl) | (simp [*, errW_none, errW_some] <;> rfl), by repeat (first | (with_reducible first | exact HB.out | apply below_alloc | apply pw_below_drewN | apply below_drew1 | refine below_set ?_ GE142.out) | exact HB.out)⟩
              · as_aux_lemma =>
                rw [if_neg c44] at H
                have c44b0 : (a0_1.toList == ([97, 108, 112, 104, 97, 98, 101, 116, 105, 99] : List UInt8)) = false := beq_eq_false_iff_ne.mpr c44
                have c44b1 : (a0_1.toList != ([97, 108, 112, 104, 97, 98, 101, 116, 105, 99] : List UInt8)) = true := bne_iff_ne.mpr c44
                by_cases c54 : a0_1.toList = ([110, 117, 109, 101, 114, 105, 99] : List UInt8)
                · as_aux_lemma =>
                  rw [if_pos c54] at H
                  have c54b0 : (a0_1.toList == ([110, 117, 109, 101, 114, 105, 99] : List UInt8)) = true := beq_iff_eq.mpr c54
                  have c54b1 : (a0_1.toList != ([110, 117, 109, 101, 114, 105, 99] : List UInt8)) = false := bne_eq_false_iff_eq.mpr c54
                  clear c54
                  by_cases c55 : a1 ≥ 0
                  · as_aux_lemma =>
                    rw [if_pos c55] at H
                    have c55b0 : decide (0 ≤ a1) = true := decide_eq_true c55
                    clear c55
                    replace H := Option.bind_eq_some_iff.mp H
                    obtain ⟨t153, A560, H⟩ := H
                    replace H : ((system_chosen.f a0_0 a0_1 a0_2 l0_3 l0_4 a0_5 a0_6 a0_7 a0_8 a0_9 l0_10 a0_11 a0_12 a0_13 a0_14 a0_15 t153).bind fun bt156 => (some (bt156.1, bt156.2))) = some (r1, r2) := H
                    have A56 := Aside0.mk A560
                    clear A560
                    replace H := Option.bind_eq_some_iff.mp H
                    obtain ⟨⟨t156, t157⟩, A570, H⟩ := H
                    replace H : (some (t156, t157)) = some (r1, r2) := H
                    have A57 := Aside0.mk A570
                    clear A570
                    simp only [Option.some.injEq, Prod.mk.injEq] at H
                    obtain ⟨rfl, rfl⟩ := H
                    have hcz58_0 : wc.cell? ⟨gb142, 0, none⟩ = some (.string a0_0) := (blk_cell BK142.out 0).trans rfl
                    have hcz58_1 : wc.cell? ⟨gb142, 1, none⟩ = some (.string a0_1) := (blk_cell BK142.out 1).trans rfl
                    have hcz58_2 : wc.cell? ⟨gb142, 2, none⟩ = some (.int .i64 a0_2) := (blk_cell BK142.out 2).trans rfl
                    have hcz58_3 : wc.cell? ⟨gb142, 3, none⟩ = some (.slice A0_3 l0_3.length c0_3) := (blk_cell BK142.out 3).trans rfl
                    have hcz58_4 : wc.cell? ⟨gb142, 4, none⟩ = some (.slice A0_4 l0_4.length c0_4) := (blk_cell BK142.out 4).trans rfl
                    have hcz58_5 : wc.cell? ⟨gb142, 5, none⟩ = some (.string a0_5) := (blk_cell BK142.out 5).trans rfl
                    have hcz58_6 : wc.cell? ⟨gb142, 6, none⟩ = some (.string a0_6) := (blk_cell BK142.out 6).trans rfl
                    have hcz58_7 : wc.cell? ⟨gb142, 7, none⟩ = some (.string a0_7) := (blk_cell BK142.out 7).trans rfl
                    have hcz58_8 : wc.cell? ⟨gb142, 8, none⟩ = some (.string a0_8) := (blk_cell BK142.out 8).trans rfl
                    have hcz58_9 : wc.cell? ⟨gb142, 9, none⟩ = some (.bool a0_9) := (blk_cell BK142.out 9).trans rfl
                    have hcz58_10 : wc.cell? ⟨gb142, 10, none⟩ = some (.slice A0_10 l0_10.length c0_10) := (blk_cell BK142.out 10).trans rfl
                    have hcz58_11 : wc.cell? ⟨gb142, 11, none⟩ = some (.int .i64 a0_11) := (blk_cell BK142.out 11).trans rfl
                    have hcz58_12 : wc.cell? ⟨gb142, 12, none⟩ = some (.string a0_12) := (blk_cell BK142.out 12).trans rfl
                    have hcz58_13 : wc.cell? ⟨gb142, 13, none⟩ = some (.string a0_13) := (blk_cell BK142.out 13).trans rfl
                    have hcz58_14 : wc.cell? ⟨gb142, 14, none⟩ = some (.string a0_14) := (blk_cell BK142.out 14).trans rfl
                    have hcz58_15 : wc.cell? ⟨gb142, 15, none⟩ = some (.int .i64 a0_15) := (blk_cell BK142.out 15).trans rfl
                    have hfz58_0 := blk_frozen BK142.out 0
                    have hfz58_1 := blk_frozen BK142.out 1
                    have hfz58_2 := blk_frozen BK142.out 2
                    have hfz58_3 := blk_frozen BK142.out 3
                    have hfz58_4 := blk_frozen BK142.out 4
                    have hfz58_5 := blk_frozen BK142.out 5
                    have hfz58_6 := blk_frozen BK142.out 6
                    have hfz58_7 := blk_frozen BK142.out 7
                    have hfz58_8 := blk_frozen BK142.out 8
                    have hfz58_9 := blk_frozen BK142.out 9
                    have hfz58_10 := blk_frozen BK142.out 10
                    have hfz58_11 := blk_frozen BK142.out 11
                    have hfz58_12 := blk_frozen BK142.out 12
                    have hfz58_13 := blk_frozen BK142.out 13
                    have hfz58_14 := blk_frozen BK142.out 14
                    have hfz58_15 := blk_frozen BK142.out 15
                    try go_wp2
                    have n0_ := Aside0.mk (blk_drew BK142.out)
                    have n1_ := Aside0.mk (below_drew1 HB.out)
                    clear BK142
                    clear HB
                    have BK142 := n0_
                    have HB := n1_
                    clear n0_ n1_
                    refine start_ (n := 9) (S := fun w' => w'.cell? ⟨gb142, 0, none⟩ = some (.string a0_0) ∧ w'.cell? ⟨gb142, 1, none⟩ = some (.string a0_1) ∧ w'.cell? ⟨gb142, 2, none⟩ = some (.int .i64 a0_2) ∧ w'.cell? ⟨gb142, 3, none⟩ = some (.slice A0_3 l0_3.length c0_3) ∧ w'.cell? ⟨gb142, 4, none⟩ = some (.slice A0_4 l0_4.length c0_4) ∧ w'.cell? ⟨gb142, 5, none⟩ = some (.string a0_5) ∧ w'.cell? ⟨gb142, 6, none⟩ = some (.string a0_6) ∧ w'.cell? ⟨gb142, 7, none⟩ = some (.string a0_7) ∧ w'.cell? ⟨gb142, 8, none⟩ = some (.string a0_8) ∧ w'.cell? ⟨gb142, 9, none⟩ = some (.bool a0_9) ∧ w'.cell? ⟨gb142, 10, none⟩ = some (.slice A0_10 l0_10.length c0_10) ∧ w'.cell? ⟨gb142, 11, none⟩ = some (.int .i64 a0_11) ∧ w'.cell? ⟨gb142, 12, none⟩ = some (.string a0_12) ∧ w'.cell? ⟨gb142, 13, none⟩ = some (.string a0_13) ∧ w'.cell? ⟨gb142, 14, none⟩ = some (.string a0_14) ∧ w'.cell? ⟨gb142, 15, none⟩ = some (.int .i64 a0_15)) (ds := []) #[false, false, false, false, false, false, false, false, false] (by kernel_rfl) rfl rfl ⟨(blk_cell BK142.out 0).trans rfl, (blk_cell BK142.out 1).trans rfl, (blk_cell BK142.out 2).trans rfl, (blk_cell BK142.out 3).trans rfl, (blk_cell BK142.out 4).trans rfl, (blk_cell BK142.out 5).trans rfl, (blk_cell BK142.out 6).trans rfl, (blk_cell BK142.out 7).trans rfl, (blk_cell BK142.out 8).trans rfl, (blk_cell BK142.out 9).trans rfl, (blk_cell BK142.out 10).trans rfl, (blk_cell BK142.out 11).trans rfl, (blk_cell BK142.out 12).trans rfl, (blk_cell BK142.out 13).trans rfl, (blk_cell BK142.out 14).trans rfl, (blk_cell BK142.out 15).trans rfl⟩ (fun hHeld => ?_); refine with_tabW system_Signs.tab20 system_Signs.bits20 (fun HT_ HW_ => ?_)
                    generalize wc.drew = w59 at BK142 HB hHeld ⊢
                    refine pure_ (i := 1) (N := some 102) (v := ?_) (a' := ?_) #[false, true, false, false, false, false, false, false, false] rfl rfl (any_of HT_.out (by kernel_rfl)) (fun _ _ _ h => h) (Or.inl ⟨by rfl, ?_⟩) ?_ ?_
                    rotate_left
                    · intro w'
                      go_simp
                      with_reducible rfl
                    rotate_left
                    · simp only [Act.put, List.setIfInBounds_toArray, List.set_cons_zero, List.set_cons_succ, i64_w, i32_w]
                      rfl
                    refine pure_ (i := 2) (N := some 103) (v := ?_) (a' := ?_) #[false, true, true, false, false, false, false, false, false] rfl rfl (any_of HT_.out (by kernel_rfl)) (fun _ _ _ h => h) (Or.inl ⟨by rfl, ?_⟩) ?_ ?_
                    rotate_left
                    · intro w'
                      go_simp
                      with_reducible rfl
                    rotate_left
                    · simp only [Act.put, List.setIfInBounds_toArray, List.set_cons_zero, List.set_cons_succ, i64_w, i32_w]
                      rfl
                    refine take_ (i := 0) (N := some 101) (v := ?_) (a' := ?_) #[true, true, true, false, false, false, false, false, false] rfl rfl (take_ofW HT_.out HW_.out (by kernel_rfl)) (fun _ _ _ h => h) (Or.inl ⟨by rfl, ?_⟩) hHeld ?_ ?_
                    rotate_left
                    · rintro w' ⟨s0, s1, s2, s3, s4, s5, s6, s7, s8, s9, s10, s11, s12, s13, s14, s15⟩
                      go_simp
                      with_reducible rfl
                    rotate_left
                    · simp only [Act.put, List.setIfInBounds_toArray, List.set_cons_zero, List.set_cons_succ, i64_w, i32_w]
                      rfl
                    refine one_ (i := 3) (N := some 104) #[true, true, true, true, false, false, false, false, false] rfl rfl (one_of HT_.out (by kernel_rfl)) (by decide) (fun K hK => ?_)
                    refine goes_ Try.func20 (by kernel_rfl) rfl #[.int .i64 a1, .int .i64 (l0_3.length : Int), .bool true] (by rfl) rfl rfl (by (try simp only [List.map_toArray, List.map_cons, List.map_nil]); first | done | rfl | (simp only [List.length_drop, List.length_take]; rfl)) ?_
                    with_reducible refine (system_positional.calls kj2 a1 (l0_3.length : Int) true t153 _ A56.out).mono ?_
                    rintro e w60 ⟨v154, rfl, ho0, hb⟩
                    refine ⟨_, rfl, ?_⟩
                    have n0_ := Aside0.mk (Kd.R_lower ho0 (below_size (by repeat (first | (with_reducible first | exact HB.out | apply below_alloc | apply pw_below_drewN | apply below_drew1 | refine below_set ?_ GE142.out) | exact HB.out))))
                    have n1_ := Aside0.mk (blk_below (g := gb142) (o := .cells #[.string a0_0, .string a0_1, .int .i64 a0_2, .slice A0_3 l0_3.length c0_3, .slice A0_4 l0_4.length c0_4, .string a0_5, .string a0_6, .string a0_7, .string a0_8, .bool a0_9, .slice A0_10 l0_10.length c0_10, .int .i64 a0_11, .string a0_12, .string a0_13, .string a0_14, .int .i64 a0_15] 27 (0, 0)) (by (with_reducible repeat (first | refine blk_drewN ?_ _ | refine blk_drew ?_ | refine blk_alloc ?_ _)); exact BK142.out) hb)
                    have n2_ := Aside0.mk (below_step (by repeat (first | (with_reducible first | exact HB.out | apply below_alloc | apply pw_below_drewN | apply below_drew1 | refine below_set ?_ GE142.out) | exact HB.out)) hb)
                    clear BK142
                    clear HB
                    have HO155 := n0_
                    have BK142 := n1_
                    have HB := n2_
                    clear n0_ n1_ n2_
                    (try clear hb)
                    (try clear hb2)
                    (try clear hk)
                    (try clear hi)
                    (try clear ho0)
                    obtain ⟨Ao61, co61, eo61⟩ := Kd.R_slice HO155.out
                    (first | subst eo61 | (injection eo61 with f1_ f2_ f3_; have f4_ := f1_.symm; have f5_ := f3_.symm; clear f1_ f2_ f3_; subst f4_; subst f5_))
                    refine hK.out _ _ ⟨(blk_cell BK142.out 0).trans rfl, (blk_cell BK142.out 1).trans rfl, (blk_cell BK142.out 2).trans rfl, (blk_cell BK142.out 3).trans rfl, (blk_cell BK142.out 4).trans rfl, (blk_cell BK142.out 5).trans rfl, (blk_cell BK142.out 6).trans rfl, (blk_cell BK142.out 7).trans rfl, (blk_cell BK142.out 8).trans rfl, (blk_cell BK142.out 9).trans rfl, (blk_cell BK142.out 10).trans rfl, (blk_cell BK142.out 11).trans rfl, (blk_cell BK142.out 12).trans rfl, (blk_cell BK142.out 13).trans rfl, (blk_cell BK142.out 14).trans rfl, (blk_cell BK142.out 15).trans rfl⟩ (fun hHeld => ?_)
                    clear hK K
                    refine norm_ (a' := ?_) ?_ ?_
                    rotate_left
                    · show Act.put _ (some 104) _ = _
                      simp only [Act.put, List.setIfInBounds_toArray, List.set_cons_zero, List.set_cons_succ, i64_w, i32_w]
                      rfl
                    refine one_ (i := 4) (N := some 105) #[true, true, true, true, true, false, false, false, false] rfl rfl (one_of HT_.out (by kernel_rfl)) (by decide) (fun K hK => ?_)
                    refine goes_ Try.func19 (by kernel_rfl) rfl #[.agg #[.string a0_0, .string a0_1, .int .i64 a0_2, .slice A0_3 l0_3.length c0_3, .slice A0_4 l0_4.length c0_4, .string a0_5, .string a0_6, .string a0_7, .string a0_8, .bool a0_9, .slice A0_10 l0_10.length c0_10, .int .i64 a0_11, .string a0_12, .string a0_13, .string a0_14, .int .i64 a0_15], .slice Ao61 t153.length co61] (by rfl) rfl rfl (by (try simp only [List.map_toArray, List.map_cons, List.map_nil]); first | done | rfl | (simp only [List.length_drop, List.length_take]; rfl)) ?_
                    with_reducible refine (system_chosen.calls a0_0 a0_1 a0_2 _ _ l0_3 _ _ l0_4 a0_5 a0_6 a0_7 a0_8 a0_9 _ _ l0_10 a0_11 a0_12 a0_13 a0_14 a0_15 _ _ t153 t156 t157 _ ?side1 ?side2 ?side3 ?side4 ?side5 ?side6 ?side7 ?side8 A57.out).mono ?_
                    (case side1 => repeat (first | exact (Kd.C_below HR0_3.out HB.out) | (with_reducible refine Kd.C_alloc ?_ _) | (with_reducible refine Kd.C_drewN ?_ _) | (with_reducible refine Kd.C_drew ?_)))
                    (case side2 => exact HC0_3.out)
                    (case side3 => repeat (first | exact (Kd.C_below HR0_4.out HB.out) | (with_reducible refine Kd.C_alloc ?_ _) | (with_reducible refine Kd.C_drewN ?_ _) | (with_reducible refine Kd.C_drew ?_)))
                    (case side4 => exact HC0_4.out)
                    (case side5 => repeat (first | exact (Kd.C_below HR0_10.out HB.out) | (with_reducible refine Kd.C_alloc ?_ _) | (with_reducible refine Kd.C_drewN ?_ _) | (with_reducible refine Kd.C_drew ?_)))
                    (case side6 => exact HC0_10.out)
                    (case side7 => repeat (first | exact (Kd.R_reads' HO155.out).2.2 | (with_reducible refine Kd.C_alloc ?_ _) | (with_reducible refine Kd.C_drewN ?_ _) | (with_reducible refine Kd.C_drew ?_)))
                    (case side8 => exact (Kd.R_reads' HO155.out).2.1)
                    rintro e w62 ⟨rfl, hb⟩
                    refine ⟨_, rfl, ?_⟩
                    have n0_ := Aside0.mk (Kd.R_below (by (with_reducible repeat (first | apply Kd.R_alloc | apply Kd.R_drewN | apply Kd.R_drew)); exact HO155.out) hb)
                    have n1_ := Aside0.mk (blk_below (g := gb142) (o := .cells #[.string a0_0, .string a0_1, .int .i64 a0_2, .slice A0_3 l0_3.length c0_3, .slice A0_4 l0_4.length c0_4, .string a0_5, .string a0_6, .string a0_7, .string a0_8, .bool a0_9, .slice A0_10 l0_10.length c0_10, .int .i64 a0_11, .string a0_12, .string a0_13, .string a0_14, .int .i64 a0_15] 27 (0, 0)) (by (with_reducible repeat (first | refine blk_drewN ?_ _ | refine blk_drew ?_ | refine blk_alloc ?_ _)); exact BK142.out) hb)
                    have n2_ := Aside0.mk (below_step (by repeat (first | (with_reducible first | exact HB.out | apply below_alloc | apply pw_below_drewN | apply below_drew1 | refine below_set ?_ GE142.out) | exact HB.out)) hb)
                    clear HO155
                    clear BK142
                    clear HB
                    have HO155 := n0_
                    have BK142 := n1_
                    have HB := n2_
                    clear n0_ n1_ n2_
                    (try clear hb)
                    (try clear hb2)
                    (try clear hk)
                    (try clear hi)
                    refine hK.out _ _ ⟨(blk_cell BK142.out 0).trans rfl, (blk_cell BK142.out 1).trans rfl, (blk_cell BK142.out 2).trans rfl, (blk_cell BK142.out 3).trans rfl, (blk_cell BK142.out 4).trans rfl, (blk_cell BK142.out 5).trans rfl, (blk_cell BK142.out 6).trans rfl, (blk_cell BK142.out 7).trans rfl, (blk_cell BK142.out 8).trans rfl, (blk_cell BK142.out 9).trans rfl, (blk_cell BK142.out 10).trans rfl, (blk_cell BK142.out 11).trans rfl, (blk_cell BK142.out 12).trans rfl, (blk_cell BK142.out 13).trans rfl, (blk_cell BK142.out 14).trans rfl, (blk_cell BK142.out 15).trans rfl⟩ (fun hHeld => ?_)
                    clear hK K
                    refine norm_ (a' := ?_) ?_ ?_
                    rotate_left
                    · show Act.put _ (some 105) _ = _
                      simp only [Act.put, List.setIfInBounds_toArray, List.set_cons_zero, List.set_cons_succ, i64_w, i32_w]
                      rfl
                    refine pure_ (i := 5) (N := some 106) (v := ?_) (a' := ?_) #[true, true, true, true, true, true, false, false, false] rfl rfl (any_of HT_.out (by kernel_rfl)) (fun _ _ _ h => h) (Or.inl ⟨by rfl, ?_⟩) ?_ ?_
                    rotate_left
                    · intro w'
                      go_simp
                      with_reducible rfl
                    rotate_left
                    · simp only [Act.put, List.setIfInBounds_toArray, List.set_cons_zero, List.set_cons_succ, i64_w, i32_w]
                      rfl
                    refine pure_ (i := 6) (N := some 107) (v := ?_) (a' := ?_) #[true, true, true, true, true, true, true, false, false] rfl rfl (any_of HT_.out (by kernel_rfl)) (fun _ _ _ h => h) (Or.inl ⟨by rfl, ?_⟩) ?_ ?_
                    rotate_left
                    · intro w'
                      go_simp
                      with_reducible rfl
                    rotate_left
                    · simp only [Act.put, List.setIfInBounds_toArray, List.set_cons_zero, List.set_cons_succ, i64_w, i32_w]
                      rfl
                    refine pure_ (i := 7) (N := some 4) (v := ?_) (a' := ?_) #[true, true, true, true, true, true, true, true, false] rfl rfl (any_of HT_.out (by kernel_rfl)) (fun _ _ _ h => h) (Or.inl ⟨by rfl, ?_⟩) ?_ ?_
                    rotate_left
                    · intro w'
                      go_simp
                      with_reducible rfl
                    rotate_left
                    · simp only [Act.put, List.setIfInBounds_toArray, List.set_cons_zero, List.set_cons_succ, i64_w, i32_w]
                      rfl
                    refine pure_ (i := 8) (N := some 5) (v := ?_) (a' := ?_) #[true, true, true, true, true, true, true, true, true] rfl rfl (any_of HT_.out (by kernel_rfl)) (fun _ _ _ h => h) (Or.inl ⟨by rfl, ?_⟩) ?_ ?_
                    rotate_left
                    · intro w'
                      go_simp
                      with_reducible rfl
                    rotate_left
                    · simp only [Act.put, List.setIfInBounds_toArray, List.set_cons_zero, List.set_cons_succ, i64_w, i32_w]
                      rfl
                    refine done_ (done_of HT_.out (by kernel_rfl)) ?_
                    try go_wp2
                    go_ret2
                    exact ⟨by first | rfl | (simp [errW_none, errW_some] <;> rfl) | (simp [*, errW_none, errW_some] <;> rfl), by repeat (first | (with_reducible first | exact HB.out | apply below_alloc | apply pw_below_drewN | apply below_drew1 | refine below_set ?_ GE142.out) | exact HB.out)⟩
                  · as_aux_lemma =>
                    rw [if_neg c55] at H
                    have c55b0 : decide (0 ≤ a1) = false := decide_eq_false c55
                    clear c55
                    simp only [Option.some.injEq, Prod.mk.injEq] at H
                    obtain ⟨rfl, rfl⟩ := H
                    have hcz63_0 : wc.cell? ⟨gb142, 0, none⟩ = some (.string a0_0) := (blk_cell BK142.out 0).trans rfl
                    have hcz63_1 : wc.cell? ⟨gb142, 1, none⟩ = some (.string a0_1) := (blk_cell BK142.out 1).trans rfl
                    have hcz63_2 : wc.cell? ⟨gb142, 2, none⟩ = some (.int .i64 a0_2) := (blk_cell BK142.out 2).trans rfl
                    have hcz63_3 : wc.cell? ⟨gb142, 3, none⟩ = some (.slice A0_3 l0_3.length c0_3) := (blk_cell BK142.out 3).trans rfl
                    have hcz63_4 : wc.cell? ⟨gb142, 4, none⟩ = some (.slice A0_4 l0_4.length c0_4) := (blk_cell BK142.out 4).trans rfl
                    have hcz63_5 : wc.cell? ⟨gb142, 5, none⟩ = some (.string a0_5) := (blk_cell BK142.out 5).trans rfl
                    have hcz63_6 : wc.cell? ⟨gb142, 6, none⟩ = some (.string a0_6) := (blk_cell BK142.out 6).trans rfl
                    have hcz63_7 : wc.cell? ⟨gb142, 7, none⟩ = some (.string a0_7) := (blk_cell BK142.out 7).trans rfl
                    have hcz63_8 : wc.cell? ⟨gb142, 8, none⟩ = some (.string a0_8) := (blk_cell BK142.out 8).trans rfl
                    have hcz63_9 : wc.cell? ⟨gb142, 9, none⟩ = some (.bool a0_9) := (blk_cell BK142.out 9).trans rfl
                    have hcz63_10 : wc.cell? ⟨gb142, 10, none⟩ = some (.slice A0_10 l0_10.length c0_10) := (blk_cell BK142.out 10).trans rfl
                    have hcz63_11 : wc.cell? ⟨gb142, 11, none⟩ = some (.int .i64 a0_11) := (blk_cell BK142.out 11).trans rfl
                    have hcz63_12 : wc.cell? ⟨gb142, 12, none⟩ = some (.string a0_12) := (blk_cell BK142.out 12).trans rfl
                    have hcz63_13 : wc.cell? ⟨gb142, 13, none⟩ = some (.string a0_13) := (blk_cell BK142.out 13).trans rfl
                    have hcz63_14 : wc.cell? ⟨gb142, 14, none⟩ = some (.string a0_14) := (blk_cell BK142.out 14).trans rfl
                    have hcz63_15 : wc.cell? ⟨gb142, 15, none⟩ = some (.int .i64 a0_15) := (blk_cell BK142.out 15).trans rfl
                    have hfz63_0 := blk_frozen BK142.out 0
                    have hfz63_1 := blk_frozen BK142.out 1
                    have hfz63_2 := blk_frozen BK142.out 2
                    have hfz63_3 := blk_frozen BK142.out 3
                    have hfz63_4 := blk_frozen BK142.out 4
                    have hfz63_5 := blk_frozen BK142.out 5
                    have hfz63_6 := blk_frozen BK142.out 6
                    have hfz63_7 := blk_frozen BK142.out 7
                    have hfz63_8 := blk_frozen BK142.out 8
                    have hfz63_9 := blk_frozen BK142.out 9
                    have hfz63_10 := blk_frozen BK142.out 10
                    have hfz63_11 := blk_frozen BK142.out 11
                    have hfz63_12 := blk_frozen BK142.out 12
                    have hfz63_13 := blk_frozen BK142.out 13
                    have hfz63_14 := blk_frozen BK142.out 14
                    have hfz63_15 := blk_frozen BK142.out 15
                    go_wp2
                    go_ret2
                    exact ⟨by first | rfl | (simp [errW_none, errW_some] <;> rfl) | (simp [*, errW_none, errW_some] <;> rfl), by repeat (first | (with_reducible first | exact HB.out | apply below_alloc | apply pw_below_drewN | apply below_drew1 | refine below_set ?_ GE142.out) | exact HB.out)⟩
                · as_aux_lemma =>
                  rw [if_neg c54] at H
                  have c54b0 : (a0_1.toList == ([110, 117, 109, 101, 114, 105, 99] : List UInt8)) = false := beq_eq_false_iff_ne.mpr c54
                  have c54b1 : (a0_1.toList != ([110, 117, 109, 101, 114, 105, 99] : List UInt8)) = true := bne_iff_ne.mpr c54
                  by_cases c64 : a0_1.toList = ([97, 100, 100, 105, 116, 105, 118, 101] : List UInt8)
                  · as_aux_lemma =>
                    rw [if_pos c64] at H
                    have c64b0 : (a0_1.toList == ([97, 100, 100, 105, 116, 105, 118, 101] : List UInt8)) = true := beq_iff_eq.mpr c64
                    have c64b1 : (a0_1.toList != ([97, 100, 100, 105, 116, 105, 118, 101] : List UInt8)) = false := bne_eq_false_iff_eq.mpr c64
                    clear c64
                    by_cases c65 : a1 ≥ 0
                    · as_aux_lemma =>
                      rw [if_pos c65] at H
                      have c65b0 : decide (0 ≤ a1) = true := decide_eq_true c65
                      clear c65
                      replace H := Option.bind_eq_some_iff.mp H
                      obtain ⟨⟨t158, t159⟩, A660, H⟩ := H
                      replace H : (some (t158, t159)) = some (r1, r2) := H
                      have A66 := Aside0.mk A660
                      clear A660
                      simp only [Option.some.injEq, Prod.mk.injEq] at H
                      obtain ⟨rfl, rfl⟩ := H
                      have hcz67_0 : wc.cell? ⟨gb142, 0, none⟩ = some (.string a0_0) := (blk_cell BK142.out 0).trans rfl
                      have hcz67_1 : wc.cell? ⟨gb142, 1, none⟩ = some (.string a0_1) := (blk_cell BK142.out 1).trans rfl
                      have hcz67_2 : wc.cell? ⟨gb142, 2, none⟩ = some (.int .i64 a0_2) := (blk_cell BK142.out 2).trans rfl
                      have hcz67_3 : wc.cell? ⟨gb142, 3, none⟩ = some (.slice A0_3 l0_3.length c0_3) := (blk_cell BK142.out 3).trans rfl
                      have hcz67_4 : wc.cell? ⟨gb142, 4, none⟩ = some (.slice A0_4 l0_4.length c0_4) := (blk_cell BK142.out 4).trans rfl
                      have hcz67_5 : wc.cell? ⟨gb142, 5, none⟩ = some (.string a0_5) := (blk_cell BK142.out 5).trans rfl
                      have hcz67_6 : wc.cell? ⟨gb142, 6, none⟩ = some (.string a0_6) := (blk_cell BK142.out 6).trans rfl
                      have hcz67_7 : wc.cell? ⟨gb142, 7, none⟩ = some (.string a0_7) := (blk_cell BK142.out 7).trans rfl
                      have hcz67_8 : wc.cell? ⟨gb142, 8, none⟩ = some (.string a0_8) := (blk_cell BK142.out 8).trans rfl
                      have hcz67_9 : wc.cell? ⟨gb142, 9, none⟩ = some (.bool a0_9) := (blk_cell BK142.out 9).trans rfl
                      have hcz67_10 : wc.cell? ⟨gb142, 10, none⟩ = some (.slice A0_10 l0_10.length c0_10) := (blk_cell BK142.out 10).trans rfl
                      have hcz67_11 : wc.cell? ⟨gb142, 11, none⟩ = some (.int .i64 a0_11) := (blk_cell BK142.out 11).trans rfl
                      have hcz67_12 : wc.cell? ⟨gb142, 12, none⟩ = some (.string a0_12) := (blk_cell BK142.out 12).trans rfl
                      have hcz67_13 : wc.cell? ⟨gb142, 13, none⟩ = some (.string a0_13) := (blk_cell BK142.out 13).trans rfl
                      have hcz67_14 : wc.cell? ⟨gb142, 14, none⟩ = some (.string a0_14) := (blk_cell BK142.out 14).trans rfl
                      have hcz67_15 : wc.cell? ⟨gb142, 15, none⟩ = some (.int .i64 a0_15) := (blk_cell BK142.out 15).trans rfl
                      have hfz67_0 := blk_frozen BK142.out 0
                      have hfz67_1 := blk_frozen BK142.out 1
                      have hfz67_2 := blk_frozen BK142.out 2
                      have hfz67_3 := blk_frozen BK142.out 3
                      have hfz67_4 := blk_frozen BK142.out 4
                      have hfz67_5 := blk_frozen BK142.out 5
                      have hfz67_6 := blk_frozen BK142.out 6
                      have hfz67_7 := blk_frozen BK142.out 7
                      have hfz67_8 := blk_frozen BK142.out 8
                      have hfz67_9 := blk_frozen BK142.out 9
                      have hfz67_10 := blk_frozen BK142.out 10
                      have hfz67_11 := blk_frozen BK142.out 11
                      have hfz67_12 := blk_frozen BK142.out 12
                      have hfz67_13 := blk_frozen BK142.out 13
                      have hfz67_14 := blk_frozen BK142.out 14
                      have hfz67_15 := blk_frozen BK142.out 15
                      go_wp2_with (first | ((with_reducible refine gate_callee (f := 21) rfl ?_); refine goesL_ (some 114) rfl rfl Try.func21 (by kernel_rfl) rfl #[.agg #[.string a0_0, .string a0_1, .int .i64 a0_2, .slice A0_3 l0_3.length c0_3, .slice A0_4 l0_4.length c0_4, .string a0_5, .string a0_6, .string a0_7, .string a0_8, .bool a0_9, .slice A0_10 l0_10.length c0_10, .int .i64 a0_11, .string a0_12, .string a0_13, .string a0_14, .int .i64 a0_15], .int .i64 a1] rfl (by (try simp only [List.map_toArray, List.map_cons, List.map_nil]); first | done | rfl | (simp only [List.length_drop, List.length_take]; rfl)) ?_; (with_reducible refine (system_additive.calls kj2 a0_0 a0_1 a0_2 _ _ l0_3 _ _ l0_4 a0_5 a0_6 a0_7 a0_8 a0_9 _ _ l0_10 a0_11 a0_12 a0_13 a0_14 a0_15 a1 t158 t159 _ ?side1 ?side2 ?side3 ?side4 ?side5 ?side6 A66.out).mono ?_); (case side1 => repeat (first | exact (Kd.C_below HR0_3.out HB.out) | (with_reducible refine Kd.C_alloc ?_ _) | (with_reducible refine Kd.C_drewN ?_ _) | (with_reducible refine Kd.C_drew ?_))); (case side2 => exact HC0_3.out); (case side3 => repeat (first | exact (Kd.C_below HR0_4.out HB.out) | (with_reducible refine Kd.C_alloc ?_ _) | (with_reducible refine Kd.C_drewN ?_ _) | (with_reducible refine Kd.C_drew ?_))); (case side4 => exact HC0_4.out); (case side5 => repeat (first | exact (Kd.C_below HR0_10.out HB.out) | (with_reducible refine Kd.C_alloc ?_ _) | (with_reducible refine Kd.C_drewN ?_ _) | (with_reducible refine Kd.C_drew ?_))); (case side6 => exact HC0_10.out); rintro e w68 ⟨rfl, hb⟩; refine ⟨_, rfl, ?_⟩; have n0_ := Aside0.mk (blk_below (g := gb142) (o := .cells #[.string a0_0, .string a0_1, .int .i64 a0_2, .slice A0_3 l0_3.length c0_3, .slice A0_4 l0_4.length c0_4, .string a0_5, .string a0_6, .string a0_7, .string a0_8, .bool a0_9, .slice A0_10 l0_10.length c0_10, .int .i64 a0_11, .string a0_12, .string a0_13, .string a0_14, .int .i64 a0_15] 27 (0, 0)) (by (with_reducible repeat (first | refine blk_drewN ?_ _ | refine blk_drew ?_ | refine blk_alloc ?_ _)); exact BK142.out) hb); have n1_ := Aside0.mk (below_step (by repeat (first | (with_reducible first | exact HB.out | apply below_alloc | apply pw_below_drewN | apply below_drew1 | refine below_set ?_ GE142.out) | exact HB.out)) hb); clear BK142; clear HB; have BK142 := n0_; have HB := n1_; clear n0_ n1_; (try clear hb); (try clear hb2); (try clear hk); (try clear hi)))
                      go_ret2
                      exact ⟨by first | rfl | (simp [errW_none, errW_some] <;> rfl) | (simp [*, errW_none, errW_some] <;> rfl), by repeat (first | (with_reducible first | exact HB.out | apply below_alloc | apply pw_below_drewN | apply below_drew1 | refine below_set ?_ GE142.out) | exact HB.out)⟩
                    · as_aux_lemma =>
                      rw [if_neg c65] at H
                      have c65b0 : decide (0 ≤ a1) = false := decide_eq_false c65
                      clear c65
                      simp only [Option.some.injEq, Prod.mk.injEq] at H
                      obtain ⟨rfl, rfl⟩ := H
                      have hcz69_0 : wc.cell? ⟨gb142, 0, none⟩ = some (.string a0_0) := (blk_cell BK142.out 0).trans rfl
                      have hcz69_1 : wc.cell? ⟨gb142, 1, none⟩ = some (.string a0_1) := (blk_cell BK142.out 1).trans rfl
                      have hcz69_2 : wc.cell? ⟨gb142, 2, none⟩ = some (.int .i64 a0_2) := (blk_cell BK142.out 2).trans rfl
                      have hcz69_3 : wc.cell? ⟨gb142, 3, none⟩ = some (.slice A0_3 l0_3.length c0_3) := (blk_cell BK142.out 3).trans rfl
                      have hcz69_4 : wc.cell? ⟨gb142, 4, none⟩ = some (.slice A0_4 l0_4.length c0_4) := (blk_cell BK142.out 4).trans rfl
                      have hcz69_5 : wc.cell? ⟨gb142, 5, none⟩ = some (.string a0_5) := (blk_cell BK142.out 5).trans rfl
                      have hcz69_6 : wc.cell? ⟨gb142, 6, none⟩ = some (.string a0_6) := (blk_cell BK142.out 6).trans rfl
                      have hcz69_7 : wc.cell? ⟨gb142, 7, none⟩ = some (.string a0_7) := (blk_cell BK142.out 7).trans rfl
                      have hcz69_8 : wc.cell? ⟨gb142, 8, none⟩ = some (.string a0_8) := (blk_cell BK142.out 8).trans rfl
                      have hcz69_9 : wc.cell? ⟨gb142, 9, none⟩ = some (.bool a0_9) := (blk_cell BK142.out 9).trans rfl
                      have hcz69_10 : wc.cell? ⟨gb142, 10, none⟩ = some (.slice A0_10 l0_10.length c0_10) := (blk_cell BK142.out 10).trans rfl
                      have hcz69_11 : wc.cell? ⟨gb142, 11, none⟩ = some (.int .i64 a0_11) := (blk_cell BK142.out 11).trans rfl
                      have hcz69_12 : wc.cell? ⟨gb142, 12, none⟩ = some (.string a0_12) := (blk_cell BK142.out 12).trans rfl
                      have hcz69_13 : wc.cell? ⟨gb142, 13, none⟩ = some (.string a0_13) := (blk_cell BK142.out 13).trans rfl
                      have hcz69_14 : wc.cell? ⟨gb142, 14, none⟩ = some (.string a0_14) := (blk_cell BK142.out 14).trans rfl
                      have hcz69_15 : wc.cell? ⟨gb142, 15, none⟩ = some (.int .i64 a0_15) := (blk_cell BK142.out 15).trans rfl
                      have hfz69_0 := blk_frozen BK142.out 0
                      have hfz69_1 := blk_frozen BK142.out 1
                      have hfz69_2 := blk_frozen BK142.out 2
                      have hfz69_3 := blk_frozen BK142.out 3
                      have hfz69_4 := blk_frozen BK142.out 4
                      have hfz69_5 := blk_frozen BK142.out 5
                      have hfz69_6 := blk_frozen BK142.out 6
                      have hfz69_7 := blk_frozen BK142.out 7
                      have hfz69_8 := blk_frozen BK142.out 8
                      have hfz69_9 := blk_frozen BK142.out 9
                      have hfz69_10 := blk_frozen BK142.out 10
                      have hfz69_11 := blk_frozen BK142.out 11
                      have hfz69_12 := blk_frozen BK142.out 12
                      have hfz69_13 := blk_frozen BK142.out 13
                      have hfz69_14 := blk_frozen BK142.out 14
                      have hfz69_15 := blk_frozen BK142.out 15
                      go_wp2
                      go_ret2
                      exact ⟨by first | rfl | (simp [errW_none, errW_some] <;> rfl) | (simp [*, errW_none, errW_some] <;> rfl), by repeat (first | (with_reducible first | exact HB.out | apply below_alloc | apply pw_below_drewN | apply below_drew1 | refine below_set ?_ GE142.out) | exact HB.out)⟩
                  · as_aux_lemma =>
                    rw [if_neg c64] at H
                    have c64b0 : (a0_1.toList == ([97, 100, 100, 105, 116, 105, 118, 101] : List UInt8)) = false := beq_eq_false_iff_ne.mpr c64
                    have c64b1 : (a0_1.toList != ([97, 100, 100, 105, 116, 105, 118, 101] : List UInt8)) = true := bne_iff_ne.mpr c64
                    simp only [Option.some.injEq, Prod.mk.injEq] at H
                    obtain ⟨rfl, rfl⟩ := H
                    have hcz70_0 : wc.cell? ⟨gb142, 0, none⟩ = some (.string a0_0) := (blk_cell BK142.out 0).trans rfl
                    have hcz70_1 : wc.cell? ⟨gb142, 1, none⟩ = some (.string a0_1) := (blk_cell BK142.out 1).trans rfl
                    have hcz70_2 : wc.cell? ⟨gb142, 2, none⟩ = some (.int .i64 a0_2) := (blk_cell BK142.out 2).trans rfl
                    have hcz70_3 : wc.cell? ⟨gb142, 3, none⟩ = some (.slice A0_3 l0_3.length c0_3) := (blk_cell BK142.out 3).trans rfl
                    have hcz70_4 : wc.cell? ⟨gb142, 4, none⟩ = some (.slice A0_4 l0_4.length c0_4) := (blk_cell BK142.out 4).trans rfl
                    have hcz70_5 : wc.cell? ⟨gb142, 5, none⟩ = some (.string a0_5) := (blk_cell BK142.out 5).trans rfl
                    have hcz70_6 : wc.cell? ⟨gb142, 6, none⟩ = some (.string a0_6) := (blk_cell BK142.out 6).trans rfl
                    have hcz70_7 : wc.cell? ⟨gb142, 7, none⟩ = some (.string a0_7) := (blk_cell BK142.out 7).trans rfl
                    have hcz70_8 : wc.cell? ⟨gb142, 8, none⟩ = some (.string a0_8) := (blk_cell BK142.out 8).trans rfl
                    have hcz70_9 : wc.cell? ⟨gb142, 9, none⟩ = some (.bool a0_9) := (blk_cell BK142.out 9).trans rfl
                    have hcz70_10 : wc.cell? ⟨gb142, 10, none⟩ = some (.slice A0_10 l0_10.length c0_10) := (blk_cell BK142.out 10).trans rfl
                    have hcz70_11 : wc.cell? ⟨gb142, 11, none⟩ = some (.int .i64 a0_11) := (blk_cell BK142.out 11).trans rfl
                    have hcz70_12 : wc.cell? ⟨gb142, 12, none⟩ = some (.string a0_12) := (blk_cell BK142.out 12).trans rfl
                    have hcz70_13 : wc.cell? ⟨gb142, 13, none⟩ = some (.string a0_13) := (blk_cell BK142.out 13).trans rfl
                    have hcz70_14 : wc.cell? ⟨gb142, 14, none⟩ = some (.string a0_14) := (blk_cell BK142.out 14).trans rfl
                    have hcz70_15 : wc.cell? ⟨gb142, 15, none⟩ = some (.int .i64 a0_15) := (blk_cell BK142.out 15).trans rfl
                    have hfz70_0 := blk_frozen BK142.out 0
                    have hfz70_1 := blk_frozen BK142.out 1
                    have hfz70_2 := blk_frozen BK142.out 2
                    have hfz70_3 := blk_frozen BK142.out 3
                    have hfz70_4 := blk_frozen BK142.out 4
                    have hfz70_5 := blk_frozen BK142.out 5
                    have hfz70_6 := blk_frozen BK142.out 6
                    have hfz70_7 := blk_frozen BK142.out 7
                    have hfz70_8 := blk_frozen BK142.out 8
                    have hfz70_9 := blk_frozen BK142.out 9
                    have hfz70_10 := blk_frozen BK142.out 10
                    have hfz70_11 := blk_frozen BK142.out 11
                    have hfz70_12 := blk_frozen BK142.out 12
                    have hfz70_13 := blk_frozen BK142.out 13
                    have hfz70_14 := blk_frozen BK142.out 14
                    have hfz70_15 := blk_frozen BK142.out 15
                    go_wp2
                    go_ret2
                    exact ⟨by first | rfl | (simp [errW_none, errW_some] <;> rfl) | (simp [*, errW_none, errW_some] <;> rfl), by repeat (first | (with_reducible first | exact HB.out | apply below_alloc | apply pw_below_drewN | apply below_drew1 | refine below_set ?_ GE142.out) | exact HB.out)⟩

end Go.Proofs.Ytalegejfellbdaa.Print
