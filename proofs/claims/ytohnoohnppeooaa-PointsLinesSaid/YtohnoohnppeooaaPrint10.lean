/- Written by a program of this session out of the translation, with contracts given by hand beside. -/
import Derived.Test.YtohnoohnppeooaaPrint0
namespace Go.Proofs.Ytohnoohnppeooaa.Print
open Go.RowKit Go.Proofs.YtohnoohnppeooaaW.PrintWords Go.Proofs.YtohnoohnppeooaaW.PrintLast Go.Proofs.YtohnoohnppeooaaW.PrintMore
attribute [local go_sem] max2_int min2_int max_two min_two max_three min_three max_four min_four   -- for this text's walks alone
set_option linter.unusedVariables false
set_option linter.unusedSimpArgs false

-- GIVEN BY HAND
/-! ### fleuronref1_Lower: function 25 -/
theorem strOfNums_bytes (l : List UInt8) : strOfNums (l.map (fun b => (b.toNat : Int))) = ⟨l.toArray⟩ := by
  have : ((fun n : Int => UInt8.ofNat n.toNat) ∘ fun b : UInt8 => (b.toNat : Int)) = id := by funext b; simp
  simp [strOfNums, this]
def fleuronref1_Lower.f (a0 : ByteArray) : Option ByteArray := if a0.size < 35184372088832 then some (lowStr a0) else none

set_option maxHeartbeats 2000000 in
set_option maxRecDepth 100000 in
theorem fleuronref1_Lower.calls (a0 : ByteArray) (r : ByteArray) (w : World) (h : fleuronref1_Lower.f a0 = some r) :
    Calls Try.prog 25 #[.string a0] w fun e w' => e = .returned (.string r) ∧ Below w.heap.size w w' := by
  unfold fleuronref1_Lower.f at h
  by_cases hlim : ¬ a0.size < 35184372088832
  · rw [if_neg hlim] at h; cases h
  replace hlim : a0.size < 35184372088832 := by omega
  rw [if_pos hlim] at h
  obtain rfl := Option.some.inj h
  clear h
  have hcv := Lib.run_convert_string_bytes (P := Try.prog) w 9 22 5 a0 Try.underlying9 Try.underlying22 Try.underlying5
  go_enter Try.func25, Try.ntmps25
  go_wp2
  have HF0 : Aside0 (∀ j, j < a0.size → (Lib.bytesWorld w 5 a0).frozen? ⟨w.heap.size, j, none⟩ = false) := ⟨fun j hj => by
    simp only [World.frozen?, Lib.bytesWorld_at_new]
    have : a0.size ≤ (Lib.bytesCells w 5 a0).size := by simp [Lib.bytesCells]
    simp; omega⟩
  go_loopw [4] (fun v4 wr => ∃ (i : Nat), v4 = .int .i64 (i : Int) ∧ i ≤ a0.size ∧ Aside0 (∀ j (hj : j < a0.size), wr.cell? ⟨w.heap.size, j, none⟩ = some (.int .u8 (((if j < i then lowByte (a0[j]'hj) else a0[j]'hj).toNat : Nat) : Int))) ∧ Aside0 (∀ j, j < a0.size → wr.frozen? ⟨w.heap.size, j, none⟩ = false) ∧ Aside0 (Below w.heap.size w wr))
    (fun v4 _ => match v4 with | .int .i64 i => a0.size - i.toNat | _ => 0)
  case atStart =>
    refine ⟨0, rfl, Nat.zero_le _, ⟨fun j hj => ?_⟩, HF0, ⟨Lib.bytesWorld_below w 5 a0⟩⟩
    rw [Lib.bytesWorld_cell w 5 a0 j hj, if_neg (by omega)]
    simp [hj]; rfl
  case round =>
    obtain ⟨i, rfl, hi, HR, HF, HB⟩ := hrel
    clear hcv HF0
    by_cases hlt : i < a0.size
    · have hc1 : decide ((i : Int) < (a0.size : Int)) = true := decide_eq_true (by omega)
      have p14 : 0 ≤ (i : Int) := by omega
      have q14 : (i : Int) < (a0.size : Int) := by omega
      obtain ⟨b, hb⟩ : ∃ b, b = a0[i]'hlt := ⟨_, rfl⟩
      have hcell : wr.cell? ⟨w.heap.size, i, none⟩ = some (.int .u8 (b.toNat : Int)) := by rw [HR.out i hlt, if_neg (by omega), hb]
      have hfr : wr.frozen? ⟨w.heap.size, i, none⟩ = false := HF.out i hlt
      have hb256 := b.toNat_lt
      have HN : Aside0 (∀ W : World, W.cell? ⟨w.heap.size, i, none⟩ = some (.int .u8 ((lowByte b).toNat : Int)) → (∀ j, j ≠ i → W.cell? ⟨w.heap.size, j, none⟩ = wr.cell? ⟨w.heap.size, j, none⟩) → ∀ j (hj : j < a0.size), W.cell? ⟨w.heap.size, j, none⟩ = some (.int .u8 (((if j < i + 1 then lowByte (a0[j]'hj) else a0[j]'hj).toNat : Nat) : Int))) := ⟨fun W h1 h2 j hj => by
        by_cases hji : j = i
        · subst hji
          rw [h1, if_pos (by omega), hb]
        · rw [h2 j hji, HR.out j hj]
          by_cases hjl : j < i
          · rw [if_pos hjl, if_pos (by omega)]
          · rw [if_neg hjl, if_neg (by omega)]⟩
      have hb' := Aside0.mk hb
      clear hb
      clear HR
      replace p14 := eq_true p14
      replace q14 := eq_true q14
      by_cases h65 : 65 ≤ b.toNat
      · have c1 : decide (65 ≤ (b.toNat : Int)) = true := decide_eq_true (by omega)
        by_cases h90 : b.toNat ≤ 90
        · have c2 : decide ((b.toNat : Int) ≤ 90) = true := decide_eq_true (by omega)
          have hlow : ((lowByte b).toNat : Int) = (b.toNat : Int) + 32 := by
            rw [lowByte, if_pos ⟨h65, h90⟩, UInt8.toNat_add]
            show (((b.toNat + 32) % 256 : Nat) : Int) = _
            omega
          go_wp2
          all_goals
            refine ⟨⟨i + 1, rfl, by omega, ⟨HN.out _ (by rw [hlow]; exact World.cell?_setCell_same _ _ _ hcell) (fun j hj => World.cell?_setCell_other _ _ _ _ (fun e => hj (by injection e with _ e2; exact e2.symm)))⟩, ⟨fun j hj => by rw [World.frozen?_setCell]; exact HF.out j hj⟩, ⟨HB.out.setCell (Nat.le_refl _) _⟩⟩, ?_⟩
            show a0.size - ((i : Int) + 1).toNat < a0.size - ((i : Int)).toNat
            omega
        · have c2 : decide ((b.toNat : Int) ≤ 90) = false := decide_eq_false (by omega)
          have hlow : lowByte b = b := by rw [lowByte, if_neg (fun h => h90 h.2)]
          go_wp2
          all_goals
            refine ⟨⟨i + 1, rfl, by omega, ⟨HN.out _ (by rw [hlow]; exact hcell) (fun j hj => rfl)⟩, HF, HB⟩, ?_⟩
            show a0.size - ((i : Int) + 1).toNat < a0.size - ((i : Int)).toNat
            omega
      · have c1 : decide (65 ≤ (b.toNat : Int)) = false := decide_eq_false (by omega)
        have hlow : lowByte b = b := by rw [lowByte, if_neg (fun h => h65 h.1)]
        go_wp2
        all_goals
          refine ⟨⟨i + 1, rfl, by omega, ⟨HN.out _ (by rw [hlow]; exact hcell) (fun j hj => rfl)⟩, HF, HB⟩, ?_⟩
          show a0.size - ((i : Int) + 1).toNat < a0.size - ((i : Int)).toNat
          omega
    · obtain rfl : i = a0.size := by omega
      have hc1 : decide ((a0.size : Int) < (a0.size : Int)) = false := decide_eq_false (by omega)
      have hst := string_of_reads (P := Try.prog) (w := wr) (A := some ⟨w.heap.size, 0, none⟩) (n := a0.size) (c := grownCap w a0.size 0 5) (xs := (a0.data.toList.map lowByte).map (fun b => (b.toNat : Int))) Try.underlying22 Try.underlying5 Try.underlying9 ⟨by simp, by omega, fun _ => ⟨_, rfl, fun j hj => by
        have hj2 : j < a0.data.toList.length := by simpa using hj
        rw [show Addr.add ⟨w.heap.size, 0, none⟩ j = ⟨w.heap.size, j, none⟩ from by simp [Addr.add]; exact fun e => e.symm, HR.out j hj, if_pos hj]
        simp [List.getD, hj]; rfl⟩⟩
      rw [strOfNums_bytes] at hst
      clear HR HF
      go_wp2
      go_ret
      exact ⟨rfl, HB.out⟩

end Go.Proofs.Ytohnoohnppeooaa.Print
