/- Written by a program of this session out of the translation, with contracts given by hand beside. -/
import Derived.Test.YtohnoohnppeooaaPrint0
namespace Go.Proofs.Ytohnoohnppeooaa.Print
open Go.RowKit Go.Proofs.YtohnoohnppeooaaW.PrintWords Go.Proofs.YtohnoohnppeooaaW.PrintLast Go.Proofs.YtohnoohnppeooaaW.PrintMore
attribute [local go_sem] max2_int min2_int max_two min_two max_three min_three max_four min_four   -- for this text's walks alone
set_option linter.unusedVariables false
set_option linter.unusedSimpArgs false

-- GIVEN BY HAND
/-! ### points_Lower: function 24 -/
def points_Lower.f (a0 : ByteArray) : Option ByteArray := if a0.size < 35184372088832 then some (lowStr a0) else none

set_option maxHeartbeats 2000000 in
set_option maxRecDepth 100000 in
theorem points_Lower.calls (a0 : ByteArray) (r : ByteArray) (w : World) (h : points_Lower.f a0 = some r) :
    Calls Try.prog 24 #[.string a0] w fun e w' => e = .returned (.string r) ∧ Below w.heap.size w w' := by
  unfold points_Lower.f at h
  by_cases hlim : ¬ a0.size < 35184372088832
  · rw [if_neg hlim] at h; cases h
  replace hlim : a0.size < 35184372088832 := by omega
  rw [if_pos hlim] at h
  obtain rfl := Option.some.inj h
  clear h
  go_enter Try.func24, Try.ntmps24
  go_wp2
  go_loopw [8] (fun v8 wr => ∃ (i : Nat), v8 = .int .i64 (i : Int) ∧ i ≤ a0.size ∧ Aside0 (Lib.IsBuilder 41 5 w.heap.size w.heap.size (Lib.byteCells ((a0.data.toList.take i).map lowByte)) wr) ∧ Aside0 (Below w.heap.size w wr))
    (fun v8 _ => match v8 with | .int .i64 i => a0.size - i.toNat | _ => 0)
  case atStart => exact ⟨0, rfl, Nat.zero_le _, ⟨Lib.fresh_isBuilder 41 5 w⟩, ⟨(Below.refl _ w).alloc (Nat.le_refl _) _⟩⟩
  case round =>
    obtain ⟨i, rfl, hi, HI, HB⟩ := hrel
    by_cases hlt : i < a0.size
    · have hc1 : decide ((i : Int) < (a0.size : Int)) = true := decide_eq_true (by omega)
      have p14 : 0 ≤ (i : Int) := by omega
      have q14 : (i : Int) < (a0.size : Int) := by omega
      have hw : w.heap.size ≤ wr.heap.size := below_size HB.out
      have htk : (a0.data.toList.take (i + 1)).map lowByte = (a0.data.toList.take i).map lowByte ++ [lowByte (a0[i]'hlt)] := by
        rw [List.take_succ_eq_append_getElem (by simpa using hlt), List.map_append]; rfl
      have hln : ((a0.data.toList.take i).map lowByte).length ≤ a0.size := by
        rw [List.length_map, List.length_take]; exact Nat.le_trans (Nat.min_le_left _ _) hi
      obtain ⟨b, hb⟩ : ∃ b, b = a0[i]'hlt := ⟨_, rfl⟩
      rw [← hb] at htk
      have hbn : (((a0[i]'hlt).toNat : Nat) : Int) = (b.toNat : Int) := by rw [hb]
      have hb256 := b.toNat_lt
      replace p14 := eq_true p14
      replace q14 := eq_true q14
      by_cases h65 : 65 ≤ b.toNat
      · have c1 : decide (65 ≤ (((a0[i]'hlt).toNat : Nat) : Int)) = true := decide_eq_true (by omega)
        by_cases h90 : b.toNat ≤ 90
        · have c2 : decide ((((a0[i]'hlt).toNat : Nat) : Int) ≤ 90) = true := decide_eq_true (by omega)
          have hlow : ((lowByte b).toNat : Int) = (b.toNat : Int) + 32 := by
            rw [lowByte, if_pos ⟨h65, h90⟩, UInt8.toNat_add]
            show (((b.toNat + 32) % 256 : Nat) : Int) = _
            omega
          go_wp2_with (go_at_call 26; refine (shl_Builder_WriteByte _ _ _ _ _ HI.out (by rw [Lib.byteCells_length]; omega) hw).mono ?_; rintro e w1 ⟨rfl, hb1, hb2⟩; have HI2 := Aside0.mk hb1; have HB2 := Aside0.mk hb2; clear hb1 hb2)
          all_goals
            refine ⟨⟨i + 1, rfl, by omega, ⟨.inr ?_⟩, ⟨HB.out.trans HB2.out⟩⟩, ?_⟩
            · rw [htk, Lib.byteCells_append, show Lib.byteCells [lowByte b] = [.int .u8 ((lowByte b).toNat : Int)] from rfl, hlow]; exact HI2.out
            · show a0.size - ((i : Int) + 1).toNat < a0.size - ((i : Int)).toNat
              omega
        · have c2 : decide ((((a0[i]'hlt).toNat : Nat) : Int) ≤ 90) = false := decide_eq_false (by omega)
          have hlow : lowByte b = b := by rw [lowByte, if_neg (fun h => h90 h.2)]
          go_wp2_with (go_at_call 26; refine (shl_Builder_WriteByte _ _ _ _ _ HI.out (by rw [Lib.byteCells_length]; omega) hw).mono ?_; rintro e w1 ⟨rfl, hb1, hb2⟩; have HI2 := Aside0.mk hb1; have HB2 := Aside0.mk hb2; clear hb1 hb2)
          all_goals
            refine ⟨⟨i + 1, rfl, by omega, ⟨.inr ?_⟩, ⟨HB.out.trans HB2.out⟩⟩, ?_⟩
            · rw [htk, Lib.byteCells_append, show Lib.byteCells [lowByte b] = [.int .u8 ((lowByte b).toNat : Int)] from rfl, hlow]; exact HI2.out
            · show a0.size - ((i : Int) + 1).toNat < a0.size - ((i : Int)).toNat
              omega
      · have c1 : decide (65 ≤ (((a0[i]'hlt).toNat : Nat) : Int)) = false := decide_eq_false (by omega)
        have hlow : lowByte b = b := by rw [lowByte, if_neg (fun h => h65 h.1)]
        go_wp2_with (go_at_call 26; refine (shl_Builder_WriteByte _ _ _ _ _ HI.out (by rw [Lib.byteCells_length]; omega) hw).mono ?_; rintro e w1 ⟨rfl, hb1, hb2⟩; have HI2 := Aside0.mk hb1; have HB2 := Aside0.mk hb2; clear hb1 hb2)
        all_goals
          refine ⟨⟨i + 1, rfl, by omega, ⟨.inr ?_⟩, ⟨HB.out.trans HB2.out⟩⟩, ?_⟩
          · rw [htk, Lib.byteCells_append, show Lib.byteCells [lowByte b] = [.int .u8 ((lowByte b).toNat : Int)] from rfl, hlow]; exact HI2.out
          · show a0.size - ((i : Int) + 1).toNat < a0.size - ((i : Int)).toNat
            omega
    · obtain rfl : i = a0.size := by omega
      have hc1 : decide ((a0.size : Int) < (a0.size : Int)) = false := decide_eq_false (by omega)
      have hw : w.heap.size ≤ wr.heap.size := below_size HB.out
      have HS := HI.out
      rw [List.take_of_length_le (by simp)] at HS
      have HS2 := Aside0.mk HS
      clear HS HI
      go_wp2_with (go_at_call 27; refine (shl_Builder_String_any _ _ _ _ HS2.out hw).mono ?_; rintro e w1 ⟨rfl, hb2⟩; have HB2 := Aside0.mk hb2; clear hb2)
      go_ret
      exact ⟨rfl, HB.out.trans HB2.out⟩

end Go.Proofs.Ytohnoohnppeooaa.Print
