/- Written by a program of this session out of the translation, with contracts given by hand beside. -/
import Derived.Test.YtalegejfellbdaaPrint0
import Derived.Test.YtalegejfellbdaaPrint2
import Derived.Test.YtalegejfellbdaaPrint4
namespace Go.Proofs.Ytalegejfellbdaa.Print
open Go.RowKit Go.Proofs.YtalegejfellbdaaW.PrintWords Go.Proofs.YtalegejfellbdaaW.PrintLast Go.Proofs.YtalegejfellbdaaW.PrintMore
attribute [local go_sem] max2_int min2_int max_two min_two max_three min_three max_four min_four   -- for this text's walks alone
set_option linter.unusedVariables false
set_option linter.unusedSimpArgs false

-- GIVEN BY HAND
/-! ### system_In: function 16 -/
/-- Is a number in a range? -/
def inB (n : Int) (x : S41) : Bool := decide (x.f0 ≤ n) && decide (n ≤ x.f1)

set_option maxHeartbeats 1000000 in
/-- In's closure at one range. -/
theorem in1_any (x : S41) (n : Int) (Bn : Nat) (w : World) (hb : Aside0 (w.cell? ⟨Bn, 0, none⟩ = some (.int .i64 n))) :
    Calls Try.prog 27 #[.agg #[.int .i64 x.f0, .int .i64 x.f1], .pointer (some ⟨Bn, 0, none⟩)] w fun e w' => e = .returned (.bool (inB n x)) ∧ Below w.heap.size w w' := by
  have hu41 := Try.underlying41
  have hlt : Bn < w.heap.size := World.block_lt_of_cell? w ⟨Bn, 0, none⟩ hb.out
  have cN := hb.out
  by_cases h1 : x.f0 ≤ n
  · by_cases h2 : n ≤ x.f1
    · have HV := Aside0.mk (show inB n x = true by unfold inB; rw [decide_eq_true h1, decide_eq_true h2]; rfl)
      go_enter Try.func27, Try.ntmps27
      go_wp2
      go_ret
      exact ⟨by rw [HV.out]; rfl, (Below.refl _ w).alloc (Nat.le_refl _) _⟩
    · have HV := Aside0.mk (show inB n x = false by unfold inB; rw [decide_eq_true h1, decide_eq_false h2]; rfl)
      go_enter Try.func27, Try.ntmps27
      go_wp2
      go_ret
      exact ⟨by rw [HV.out]; rfl, (Below.refl _ w).alloc (Nat.le_refl _) _⟩
  · have HV := Aside0.mk (show inB n x = false by unfold inB; rw [decide_eq_false h1]; rfl)
    go_enter Try.func27, Try.ntmps27
    go_wp2
    go_ret
    exact ⟨by rw [HV.out]; rfl, (Below.refl _ w).alloc (Nat.le_refl _) _⟩

set_option maxHeartbeats 1000000 in
/-- slices.IndexFunc at In's closure. -/
theorem indexN_any (A0 : Option Addr) (c0 : Nat) (xs : List S41) (n : Int) (Bn : Nat) (w : World) (hr0 : Aside0 (Kd.C k41 w A0 xs.length xs)) (hb : Aside0 (w.cell? ⟨Bn, 0, none⟩ = some (.int .i64 n))) :
    Calls Try.prog 39 #[.slice A0 xs.length c0, .func (.func 27) #[] #[.pointer (some ⟨Bn, 0, none⟩)]] w fun e w' => e = .returned (.int .i64 (firstAt (inB n) xs 0)) ∧ Below w.heap.size w w' := by
  have hm : xs.length ≤ 9223372036854775807 := hr0.out.2.1
  go_enter Try.func39, Try.ntmps39
  go_wp2
  go_loopw [8] (fun i wr => ∃ k : Nat, k ≤ xs.length ∧ i = .int .i64 k ∧ Aside0 (∀ j (hj : j < k) (hx : j < xs.length), inB n xs[j] = false) ∧ Aside0 (Below w.heap.size w wr)) (fun i _ => xs.length - (intOf i).toNat)
  case atStart => exact ⟨0, Nat.zero_le _, rfl, ⟨fun j hj => absurd hj (by omega)⟩, ⟨Below.refl _ _⟩⟩
  case round =>
    obtain ⟨k, hk, rfl, HN, HB⟩ := hrel
    by_cases hlt : k < xs.length
    · obtain ⟨ad, rfl, hx0, hx1⟩ := at_T41 hr0.out (k : Int) (by omega) (by omega)
      replace hx0 := (HB.out.cell (World.block_lt_of_cell? w _ hx0)).trans hx0
      replace hx1 := (HB.out.cell (World.block_lt_of_cell? w _ hx1)).trans hx1
      simp only [Int.toNat_natCast] at hx0 hx1
      have HCL := Lib.hid (in1_any (rd_T41 xs (k : Int)) n Bn wr ⟨(HB.out.cell (World.block_lt_of_cell? w _ hb.out)).trans hb.out⟩)
      have hrd := Aside0.mk (rd_T41_nat xs k hlt)
      have BS := HB.out.size
      by_cases hs : inB n (rd_T41 xs (k : Int)) = true
      · have HV := Aside0.mk (show firstAt (inB n) xs 0 = (k : Int) by
          have h1 := firstAt_some (inB n) xs 0 k hlt (by rw [← hrd.out]; exact hs) (fun j hj => HN.out j hj (by omega))
          simpa using h1)
        rw [hs] at HCL
        have HS := Aside0.mk hs
        clear hs
        go_wp2_with (go_at_call 27; refine HCL.out.mono ?_; rintro e w' ⟨rfl, hb'⟩)
        go_ret
        exact ⟨by rw [HV.out]; rfl, HB.out.trans (hb'.mono BS)⟩
      · replace hs : inB n (rd_T41 xs (k : Int)) = false := by simpa using hs
        rw [hs] at HCL
        have HS := Aside0.mk hs
        clear hs
        go_wp2_with (go_at_call 27; refine HCL.out.mono ?_; rintro e w' ⟨rfl, hb'⟩)
        go_roundw
        case rel =>
          refine ⟨k + 1, by omega, by go_num, ⟨fun j hj hx => ?_⟩, ⟨HB.out.trans (hb'.mono BS)⟩⟩
          by_cases e : j = k
          · subst e; rw [← hrd.out]; exact HS.out
          · exact HN.out j (by omega) hx
        case measure => simp [intOf]; omega
    · have HV := Aside0.mk (show firstAt (inB n) xs 0 = -1 from firstAt_none (inB n) xs 0 (fun x hx => by
        obtain ⟨j, hj, rfl⟩ := List.getElem_of_mem hx
        exact HN.out j (by omega) hj))
      go_wp2
      go_ret
      exact ⟨by rw [HV.out]; rfl, HB.out⟩

set_option maxHeartbeats 1000000 in
/-- slices.ContainsFunc at In's closure. -/
theorem containsN_any (A0 : Option Addr) (c0 : Nat) (l0 : List S41) (n : Int) (Bn : Nat) (w : World) (hr0 : Aside0 (Kd.C k41 w A0 l0.length l0)) (hb : Aside0 (w.cell? ⟨Bn, 0, none⟩ = some (.int .i64 n))) :
    Calls Try.prog 25 #[.slice A0 l0.length c0, .func (.func 27) #[] #[.pointer (some ⟨Bn, 0, none⟩)]] w fun e w' => e = .returned (.bool (l0.any (inB n))) ∧ Below w.heap.size w w' := by
  have HC := Lib.hid (indexN_any A0 c0 l0 n Bn w hr0 hb)
  have HV := Aside0.mk (firstAt_any (inB n) l0 0)
  go_enter Try.func25, Try.ntmps25
  go_wp2_with (go_at_call 39; refine HC.out.mono ?_; rintro e w' ⟨rfl, hb'⟩)
  go_ret
  exact ⟨by rw [← HV.out]; rfl, hb'⟩

def system_In.f (a0_0 : ByteArray) (a0_1 : ByteArray) (a0_2 : Int) (l0_3 : List ByteArray) (l0_4 : List Int) (a0_5 : ByteArray) (a0_6 : ByteArray) (a0_7 : ByteArray) (a0_8 : ByteArray) (a0_9 : Bool) (l0_10 : List (S41)) (a0_11 : Int) (a0_12 : ByteArray) (a0_13 : ByteArray) (a0_14 : ByteArray) (a0_15 : Int) (a1 : Int) : Option Bool :=
  if a0_9 = true then
    (if a0_1.toList = ([99, 121, 99, 108, 105, 99] : List UInt8) then some true
    else if a0_1.toList = ([110, 117, 109, 101, 114, 105, 99] : List UInt8) then some true
    else if a0_1.toList = ([102, 105, 120, 101, 100] : List UInt8) then some true
    else if a0_1.toList = ([97, 108, 112, 104, 97, 98, 101, 116, 105, 99] : List UInt8) then some (decide (a1 > 0))
    else if a0_1.toList = ([115, 121, 109, 98, 111, 108, 105, 99] : List UInt8) then some (decide (a1 > 0))
    else if a0_1.toList = ([97, 100, 100, 105, 116, 105, 118, 101] : List UInt8) then some (decide (a1 ≥ 0))
    else some false)
  else some (l0_10.any (inB a1))

set_option maxHeartbeats 4000000 in
set_option maxRecDepth 100000 in
theorem system_In.calls (a0_0 : ByteArray) (a0_1 : ByteArray) (a0_2 : Int) (A0_3 : Option Addr) (c0_3 : Nat) (l0_3 : List ByteArray) (A0_4 : Option Addr) (c0_4 : Nat) (l0_4 : List Int) (a0_5 : ByteArray) (a0_6 : ByteArray) (a0_7 : ByteArray) (a0_8 : ByteArray) (a0_9 : Bool) (A0_10 : Option Addr) (c0_10 : Nat) (l0_10 : List (S41)) (a0_11 : Int) (a0_12 : ByteArray) (a0_13 : ByteArray) (a0_14 : ByteArray) (a0_15 : Int) (a1 : Int) (r : Bool) (w : World) (hr0_3 : Kd.C Kd.string w A0_3 l0_3.length l0_3) (hc0_3 : l0_3.length ≤ c0_3) (hr0_4 : Kd.C (Kd.int .i64) w A0_4 l0_4.length l0_4) (hc0_4 : l0_4.length ≤ c0_4) (hr0_10 : Kd.C k41 w A0_10 l0_10.length l0_10) (hc0_10 : l0_10.length ≤ c0_10) (h : system_In.f a0_0 a0_1 a0_2 l0_3 l0_4 a0_5 a0_6 a0_7 a0_8 a0_9 l0_10 a0_11 a0_12 a0_13 a0_14 a0_15 a1 = some r) :
    Calls Try.prog 16 #[.agg #[.string a0_0, .string a0_1, .int .i64 a0_2, .slice A0_3 l0_3.length c0_3, .slice A0_4 l0_4.length c0_4, .string a0_5, .string a0_6, .string a0_7, .string a0_8, .bool a0_9, .slice A0_10 l0_10.length c0_10, .int .i64 a0_11, .string a0_12, .string a0_13, .string a0_14, .int .i64 a0_15], .int .i64 a1] w fun e w' => e = .returned (.bool r) ∧ Below w.heap.size w w' := by
  have hu27 := Try.underlying27
  unfold system_In.f at h
  have HR := Aside0.mk hr0_10
  clear hr0_3 hc0_3 hr0_4 hc0_4 hr0_10 hc0_10
  cases a0_9 with
  | false =>
    rw [if_neg (by decide)] at h
    obtain rfl := Option.some.inj h
    clear h
    have HC := Lib.hid (containsN_any A0_10 c0_10 l0_10 a1 (w.heap.size + 1) ((w.alloc (.cells #[.string a0_0, .string a0_1, .int .i64 a0_2, .slice A0_3 l0_3.length c0_3, .slice A0_4 l0_4.length c0_4, .string a0_5, .string a0_6, .string a0_7, .string a0_8, .bool false, .slice A0_10 l0_10.length c0_10, .int .i64 a0_11, .string a0_12, .string a0_13, .string a0_14, .int .i64 a0_15] 27)).alloc (.cells #[.int .i64 a1] 3)) ⟨Kd.C_alloc (Kd.C_alloc HR.out _) _⟩ ⟨by have h9 := blk_cell (blk_new (w.alloc (.cells #[.string a0_0, .string a0_1, .int .i64 a0_2, .slice A0_3 l0_3.length c0_3, .slice A0_4 l0_4.length c0_4, .string a0_5, .string a0_6, .string a0_7, .string a0_8, .bool false, .slice A0_10 l0_10.length c0_10, .int .i64 a0_11, .string a0_12, .string a0_13, .string a0_14, .int .i64 a0_15] 27)) (.cells #[.int .i64 a1] 3)) 0; rw [World.size_alloc] at h9; exact h9⟩)
    go_enter Try.func16, Try.ntmps16
    go_wp2_with (go_at_call 25; refine HC.out.mono ?_; rintro e w' ⟨rfl, hb'⟩)
    go_ret
    exact ⟨rfl, (((Below.refl _ w).alloc (Nat.le_refl _) _).alloc (by simp) _).trans (hb'.mono (by simp; omega))⟩
  | true =>
    rw [if_pos rfl] at h
    by_cases c1 : a0_1.toList = ([99, 121, 99, 108, 105, 99] : List UInt8)
    · rw [if_pos c1] at h
      obtain rfl := Option.some.inj h
      clear h
      have b1 : (a0_1.toList == ([99, 121, 99, 108, 105, 99] : List UInt8)) = true := beq_iff_eq.mpr c1
      clear c1
      go_enter Try.func16, Try.ntmps16
      go_wp2
      go_ret
      exact ⟨rfl, ((Below.refl _ w).alloc (Nat.le_refl _) _).alloc (by simp) _⟩
    rw [if_neg c1] at h
    have b1 : (a0_1.toList == ([99, 121, 99, 108, 105, 99] : List UInt8)) = false := beq_eq_false_iff_ne.mpr c1
    clear c1
    by_cases c2 : a0_1.toList = ([110, 117, 109, 101, 114, 105, 99] : List UInt8)
    · rw [if_pos c2] at h
      obtain rfl := Option.some.inj h
      clear h
      have b2 : (a0_1.toList == ([110, 117, 109, 101, 114, 105, 99] : List UInt8)) = true := beq_iff_eq.mpr c2
      clear c2
      go_enter Try.func16, Try.ntmps16
      go_wp2
      go_ret
      exact ⟨rfl, ((Below.refl _ w).alloc (Nat.le_refl _) _).alloc (by simp) _⟩
    rw [if_neg c2] at h
    have b2 : (a0_1.toList == ([110, 117, 109, 101, 114, 105, 99] : List UInt8)) = false := beq_eq_false_iff_ne.mpr c2
    clear c2
    by_cases c3 : a0_1.toList = ([102, 105, 120, 101, 100] : List UInt8)
    · rw [if_pos c3] at h
      obtain rfl := Option.some.inj h
      clear h
      have b3 : (a0_1.toList == ([102, 105, 120, 101, 100] : List UInt8)) = true := beq_iff_eq.mpr c3
      clear c3
      go_enter Try.func16, Try.ntmps16
      go_wp2
      go_ret
      exact ⟨rfl, ((Below.refl _ w).alloc (Nat.le_refl _) _).alloc (by simp) _⟩
    rw [if_neg c3] at h
    have b3 : (a0_1.toList == ([102, 105, 120, 101, 100] : List UInt8)) = false := beq_eq_false_iff_ne.mpr c3
    clear c3
    by_cases c4 : a0_1.toList = ([97, 108, 112, 104, 97, 98, 101, 116, 105, 99] : List UInt8)
    · rw [if_pos c4] at h
      obtain rfl := Option.some.inj h
      clear h
      have b4 : (a0_1.toList == ([97, 108, 112, 104, 97, 98, 101, 116, 105, 99] : List UInt8)) = true := beq_iff_eq.mpr c4
      clear c4
      go_enter Try.func16, Try.ntmps16
      go_wp2
      go_ret
      exact ⟨rfl, ((Below.refl _ w).alloc (Nat.le_refl _) _).alloc (by simp) _⟩
    rw [if_neg c4] at h
    have b4 : (a0_1.toList == ([97, 108, 112, 104, 97, 98, 101, 116, 105, 99] : List UInt8)) = false := beq_eq_false_iff_ne.mpr c4
    clear c4
    by_cases c5 : a0_1.toList = ([115, 121, 109, 98, 111, 108, 105, 99] : List UInt8)
    · rw [if_pos c5] at h
      obtain rfl := Option.some.inj h
      clear h
      have b5 : (a0_1.toList == ([115, 121, 109, 98, 111, 108, 105, 99] : List UInt8)) = true := beq_iff_eq.mpr c5
      clear c5
      go_enter Try.func16, Try.ntmps16
      go_wp2
      go_ret
      exact ⟨rfl, ((Below.refl _ w).alloc (Nat.le_refl _) _).alloc (by simp) _⟩
    rw [if_neg c5] at h
    have b5 : (a0_1.toList == ([115, 121, 109, 98, 111, 108, 105, 99] : List UInt8)) = false := beq_eq_false_iff_ne.mpr c5
    clear c5
    by_cases c6 : a0_1.toList = ([97, 100, 100, 105, 116, 105, 118, 101] : List UInt8)
    · rw [if_pos c6] at h
      obtain rfl := Option.some.inj h
      clear h
      have b6 : (a0_1.toList == ([97, 100, 100, 105, 116, 105, 118, 101] : List UInt8)) = true := beq_iff_eq.mpr c6
      clear c6
      go_enter Try.func16, Try.ntmps16
      go_wp2
      go_ret
      exact ⟨rfl, ((Below.refl _ w).alloc (Nat.le_refl _) _).alloc (by simp) _⟩
    rw [if_neg c6] at h
    have b6 : (a0_1.toList == ([97, 100, 100, 105, 116, 105, 118, 101] : List UInt8)) = false := beq_eq_false_iff_ne.mpr c6
    clear c6
    obtain rfl := Option.some.inj h
    clear h
    go_enter Try.func16, Try.ntmps16
    go_wp2
    go_ret
    exact ⟨rfl, ((Below.refl _ w).alloc (Nat.le_refl _) _).alloc (by simp) _⟩

end Go.Proofs.Ytalegejfellbdaa.Print
