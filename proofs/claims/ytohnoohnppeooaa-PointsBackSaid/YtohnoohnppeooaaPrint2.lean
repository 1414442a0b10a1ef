/- Written by a program of this session out of the translation, with contracts given by hand beside. -/
import Derived.Test.YtohnoohnppeooaaPrint0
namespace Go.Proofs.Ytohnoohnppeooaa.Print
open Go.RowKit Go.Proofs.YtohnoohnppeooaaW.PrintWords Go.Proofs.YtohnoohnppeooaaW.PrintLast Go.Proofs.YtohnoohnppeooaaW.PrintMore
attribute [local go_sem] max2_int min2_int max_two min_two max_three min_three max_four min_four   -- for this text's walks alone
set_option linter.unusedVariables false
set_option linter.unusedSimpArgs false

-- GIVEN BY HAND
/-! ### points_Read: function 12 -/
def points_Read.f (l0 : List Int) : Option (List Int) := if l0.length < 35184372088832 then some (readOf (strOfNums l0)) else none

set_option maxHeartbeats 2000000 in
set_option maxRecDepth 100000 in
theorem points_Read.calls (A0 : Option Addr) (c0 : Nat) (l0 : List Int) (r : List Int) (w : World) (hr0 : Kd.C (Kd.int .u8) w A0 l0.length l0) (hc0 : l0.length ≤ c0) (h : points_Read.f l0 = some r) :
    Calls Try.prog 12 #[.slice A0 l0.length c0] w fun e w' => ∃ v0_ : Value, e = .returned (v0_) ∧ Kd.R (Kd.int .i32) 21 w' w.heap.size (fun _ => True) v0_ r ∧ Below w.heap.size w w' := by
  unfold points_Read.f at h
  by_cases hlim : ¬ l0.length < 35184372088832
  · rw [if_neg hlim] at h; cases h
  replace hlim : l0.length < 35184372088832 := by omega
  rw [if_pos hlim] at h
  obtain rfl := Option.some.inj h
  clear h hc0
  have hconv := Kd.C_string (P := Try.prog) (c := c0) Try.underlying22 Try.underlying5 Try.underlying9 hr0
  have hsz : (strOfNums l0).size < 35184372088832 := by rw [size_strOfNums]; exact hlim
  clear hr0
  obtain ⟨s, hs⟩ : ∃ s, s = strOfNums l0 := ⟨_, rfl⟩
  rw [← hs] at hconv hsz ⊢
  clear hs hlim
  go_enter Try.func12, Try.ntmps12
  go_wp2
  clear hconv
  go_loopw [2, 3] (fun v2 v3 wr => ∃ (pos f : Nat) (cr : Bool) (out : List Int), v3 = .bool cr ∧ Aside0 (((runesFrom s f pos).foldl readStep (cr, out)).2 = readOf s) ∧ s.size - pos ≤ f ∧ out.length + f ≤ s.size ∧ Aside0 (wr.heap[w.heap.size]? = some (.stringIter s pos)) ∧ Aside0 (Kd.R (Kd.int .i32) 21 wr w.heap.size (fun k => k ≠ w.heap.size) v2 out) ∧ Aside0 (Below w.heap.size w wr))
    (fun _ _ wr => s.size - wr.iterPos w.heap.size)
  case atStart => exact ⟨0, s.size, false, [], rfl, ⟨rfl⟩, by omega, by simp, ⟨World.iter_heap w s 0⟩, ⟨Kd.R_nil _ _ _ _ _⟩, ⟨(Below.refl _ w).alloc (Nat.le_refl _) _⟩⟩
  case round =>
    obtain ⟨pos, f, cr, out, rfl, HF, hf, hout, HI, HO, HB⟩ := hrel
    by_cases hlt : pos < s.size
    · have HPOS := Aside0.mk (show wr.iterPos w.heap.size = pos by simp [World.iterPos, HI.out])
      have hwd := decode_width s pos hlt
      obtain ⟨f, rfl⟩ : ∃ m, f = m + 1 := ⟨f - 1, by omega⟩
      have hnx := fun ty => Lib.run_next_any_at (P := Try.prog) wr w.heap.size s pos ty HI.out hlt
      have hF := HF.out
      simp only [runesFrom] at hF
      rw [if_pos hlt, List.foldl_cons] at hF
      have hle := decode_le s pos
      generalize (Utf8.decode s pos).1 = rn at hnx hF hle
      generalize (Utf8.decode s pos).2 = wd at hnx hF hwd
      have HI2 := Aside0.mk (Lib.iterAt_heap wr w.heap.size s pos (pos + wd) HI.out)
      have HO2 := Aside0.mk (R_iterAt HO.out s (pos + wd))
      have HB2 := Aside0.mk (Lib.below_iterAt HB.out (Nat.le_refl _) s (pos + wd))
      have HG := Aside0.mk (show w.heap.size < (wr.iterAt w.heap.size s (pos + wd)).heap.size from (Array.getElem?_eq_some_iff.1 HI2.out).1)
      have HF' := Aside0.mk hF
      clear hF HF HI HO HB
      have HS : ∀ b o, readStep (cr, out) (pos, (rn : Int)) = (b, o) → Aside0 (((runesFrom s f (pos + wd)).foldl readStep (b, o)).2 = readOf s) := fun b o e => ⟨by rw [← e]; exact HF'.out⟩
      have HS' := Lib.hid HS
      clear HS HF'
      have HM : ∀ W : World, W.heap[w.heap.size]? = some (.stringIter s (pos + wd)) → s.size - W.iterPos w.heap.size < s.size - wr.iterPos w.heap.size := fun W hW => by
        rw [HPOS.out, show W.iterPos w.heap.size = pos + wd by simp [World.iterPos, hW]]; omega
      have HM' := Lib.hid HM
      clear HM HPOS
      have HV := Aside0.mk (show readStep (cr, out) (pos, (rn : Int)) = (decide (rn = 13), if (pos = 0 ∧ rn = 65279) ∨ (rn = 10 ∧ cr = true) then out else out ++ [if rn = 13 ∨ rn = 12 then 10 else if rn = 0 then 65533 else (rn : Int)]) by
        have t1 : ((rn : Int) = 65279) = (rn = 65279) := propext ⟨fun h => by omega, fun h => by omega⟩
        have t2 : ((rn : Int) = 10) = (rn = 10) := propext ⟨fun h => by omega, fun h => by omega⟩
        have t3 : ((rn : Int) = 13) = (rn = 13) := propext ⟨fun h => by omega, fun h => by omega⟩
        have t4 : ((rn : Int) = 12) = (rn = 12) := propext ⟨fun h => by omega, fun h => by omega⟩
        have t5 : ((rn : Int) = 0) = (rn = 0) := propext ⟨fun h => by omega, fun h => by omega⟩
        have t6 : ((rn : Int) == 13) = decide (rn = 13) := by rw [Bool.eq_iff_iff]; simp; omega
        simp only [readStep, t1, t2, t3, t4, t5, t6])
      have hall : (rn = 10 ∨ rn = 65279 ∨ rn = 13 ∨ rn = 12 ∨ rn = 0 ∨ (rn ≠ 10 ∧ rn ≠ 65279 ∧ rn ≠ 13 ∧ rn ≠ 12 ∧ rn ≠ 0)) := by omega
      by_cases hp : pos = 0
      all_goals
        have HP := Aside0.mk hp
        rcases hall with e | e | e | e | e | e
        all_goals
          have t0 : ((pos : Int) == 0) = decide (pos = 0) := by rw [Bool.eq_iff_iff]; simp
          have t1 : ((rn : Int) == 65279) = decide (rn = 65279) := by rw [Bool.eq_iff_iff]; simp; omega
          have t2 : ((rn : Int) == 10) = decide (rn = 10) := by rw [Bool.eq_iff_iff]; simp; omega
          have t3 : ((rn : Int) == 13) = decide (rn = 13) := by rw [Bool.eq_iff_iff]; simp; omega
          have t4 : ((rn : Int) == 12) = decide (rn = 12) := by rw [Bool.eq_iff_iff]; simp; omega
          have t5 : ((rn : Int) == 0) = decide (rn = 0) := by rw [Bool.eq_iff_iff]; simp
          (first | (have q : decide (pos = 0) = true := decide_eq_true (by omega); rw [q] at t0; clear q) | (have q : decide (pos = 0) = false := decide_eq_false (by omega); rw [q] at t0; clear q))
          (first | (have q : decide (rn = 65279) = true := decide_eq_true (by omega); rw [q] at t1; clear q) | (have q : decide (rn = 65279) = false := decide_eq_false (by omega); rw [q] at t1; clear q))
          (first | (have q : decide (rn = 10) = true := decide_eq_true (by omega); rw [q] at t2; clear q) | (have q : decide (rn = 10) = false := decide_eq_false (by omega); rw [q] at t2; clear q))
          (first | (have q : decide (rn = 13) = true := decide_eq_true (by omega); rw [q] at t3; clear q) | (have q : decide (rn = 13) = false := decide_eq_false (by omega); rw [q] at t3; clear q))
          (first | (have q : decide (rn = 12) = true := decide_eq_true (by omega); rw [q] at t4; clear q) | (have q : decide (rn = 12) = false := decide_eq_false (by omega); rw [q] at t4; clear q))
          (first | (have q : decide (rn = 0) = true := decide_eq_true (by omega); rw [q] at t5; clear q) | (have q : decide (rn = 0) = false := decide_eq_false (by omega); rw [q] at t5; clear q))
          have E := Aside0.mk e
          clear e hp
          cases cr
          all_goals
            go_wp2_with (at_builtin; (first | (refine Kd.R_append (Kd.int .i32) (w0 := w) w.heap.size rfl (.tmp 39) (.tmp 41) 27 21 (.int .i32 0) 4 rfl Try.underlying27 info21 rfl (by decide) (by omega) _ out (rn : Int) [.int .i32 (rn : Int)] (fun k => k ≠ w.heap.size) (fun _ => False) rfl (by first | (go_simp; done) | (go_simp; rfl)) ?aP (fun _ hk => hk.elim) ?aF ?aO ?aB ?aS ?aL ?_) | (refine Kd.R_append (Kd.int .i32) (w0 := w) w.heap.size rfl (.tmp 39) (.tmp 41) 27 21 (.int .i32 0) 4 rfl Try.underlying27 info21 rfl (by decide) (by omega) _ out (10) [.int .i32 (10)] (fun k => k ≠ w.heap.size) (fun _ => False) rfl (by first | (go_simp; done) | (go_simp; rfl)) ?aP (fun _ hk => hk.elim) ?aF ?aO ?aB ?aS ?aL ?_) | (refine Kd.R_append (Kd.int .i32) (w0 := w) w.heap.size rfl (.tmp 39) (.tmp 41) 27 21 (.int .i32 0) 4 rfl Try.underlying27 info21 rfl (by decide) (by omega) _ out (65533) [.int .i32 (65533)] (fun k => k ≠ w.heap.size) (fun _ => False) rfl (by first | (go_simp; done) | (go_simp; rfl)) ?aP (fun _ hk => hk.elim) ?aF ?aO ?aB ?aS ?aL ?_)); (case aP => exact rfl); (case aB => exact HB2.out); (case aF => exact fun k hk => Nat.ne_of_gt (Nat.lt_of_lt_of_le HG.out hk)); (case aO => exact HO2.out); (case aS => exact below_size HB2.out); (case aL => omega); intro v1 w1 ho hb hg _; have HO3 := Aside0.mk ho; have HB3 := Aside0.mk hb; have HI3 := Aside0.mk ((hg.block w.heap.size HG.out (fun e => absurd rfl (HO2.out.1 _ e.symm))).trans HI2.out); clear ho hb hg)
            go_roundw
            case rel => first | exact ⟨pos + wd, f, _, out ++ [_], rfl, HS'.out _ _ (HV.out.trans (by simp [E.out, HP.out])), by omega, by simp; omega, HI3, HO3, HB3⟩ | exact ⟨pos + wd, f, _, out, rfl, HS'.out _ _ (HV.out.trans (by simp [E.out, HP.out])), by omega, by omega, HI2, HO2, HB2⟩
            case measure => first | exact HM'.out _ HI3.out | exact HM'.out _ HI2.out
    · have hnx := fun ty => Lib.run_next_end_at (P := Try.prog) wr w.heap.size s pos ty HI.out hlt
      have HF2 := Aside0.mk (show out = readOf s by
        have := HF.out
        cases f with
        | zero => exact this
        | succ f => simp only [runesFrom] at this; rw [if_neg hlt] at this; exact this)
      go_wp2
      go_ret
      exact ⟨_, rfl, HF2.out ▸ Kd.R_mono HO.out (fun _ _ => trivial), HB.out⟩

end Go.Proofs.Ytohnoohnppeooaa.Print
