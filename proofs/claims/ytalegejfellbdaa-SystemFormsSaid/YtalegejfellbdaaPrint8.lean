/- Written by a program of this session out of the translation, with contracts given by hand beside. -/
import Derived.Test.YtalegejfellbdaaPrint0
import Derived.Test.YtalegejfellbdaaPrint7
namespace Go.Proofs.Ytalegejfellbdaa.Print
open Go.RowKit Go.Proofs.YtalegejfellbdaaW.PrintWords Go.Proofs.YtalegejfellbdaaW.PrintLast Go.Proofs.YtalegejfellbdaaW.PrintMore
attribute [local go_sem] max2_int min2_int max_two min_two max_three min_three max_four min_four   -- for this text's walks alone
set_option linter.unusedVariables false
set_option linter.unusedSimpArgs false

-- GIVEN BY HAND
/-! ### system_chosen: function 19 -/
section
open Go.Shelf
attribute [local go_sem] Oper.semAt_some
/-- The bytes of the symbols at places. -/
def symsAt (syms : List ByteArray) (ps : List Int) : List UInt8 := (ps.map fun p => (rdOf ByteArray.empty syms p).data.toList).flatten
theorem symsAt_nil (syms : List ByteArray) : symsAt syms [] = [] := rfl
theorem symsAt_snoc (syms : List ByteArray) (ps : List Int) (p : Int) : symsAt syms (ps ++ [p]) = symsAt syms ps ++ (rdOf ByteArray.empty syms p).data.toList := by simp [symsAt]
/-- What the places j of a list that have come say. -/
def cameAt (l1 : List Int) (pre : List (PlaceOf l1.length)) : List Int := pre.map fun j => rd l1 (j.1 : Int)
theorem cameAt_snoc (l1 : List Int) (pre : List (PlaceOf l1.length)) (j : PlaceOf l1.length) : cameAt l1 (pre ++ [j]) = cameAt l1 pre ++ [rd l1 (j.1 : Int)] := by simp [cameAt]
theorem cameAt_all (l1 : List Int) (ys : List (PlaceOf l1.length)) (h : ys.map (fun j => j.1) = downTo l1.length 0) : cameAt l1 ys = l1.reverse := by
  have h1 : cameAt l1 ys = (ys.map (fun j => j.1)).map (fun j : Nat => rd l1 (j : Int)) := by simp [cameAt, Function.comp_def]
  rw [h1, h]
  unfold downTo
  rw [List.map_reverse]
  congr 1
  apply List.ext_getElem
  · simp
  · intro i h1 h2
    simp [rd, h2]
theorem symsAt_len (syms : List ByteArray) (N : Nat) (hN : ∀ s ∈ syms, s.size ≤ N) : ∀ ps : List Int, (symsAt syms ps).length ≤ ps.length * N
  | [] => by simp [symsAt]
  | p :: ps => by
    have h1 := symsAt_len syms N hN ps
    have h2 : (rdOf ByteArray.empty syms p).data.toList.length ≤ N := by
      rw [data_length]
      unfold rdOf
      rw [List.getD_eq_getElem?_getD]
      cases h : syms[p.toNat]? with
      | none => simp
      | some s => exact hN s (List.mem_of_getElem? h)
    have h3 : (symsAt syms (p :: ps)).length = (rdOf ByteArray.empty syms p).data.toList.length + (symsAt syms ps).length := by simp [symsAt]
    rw [h3, List.length_cons, Nat.succ_mul]
    omega

def system_chosen.f (a0_0 : ByteArray) (a0_1 : ByteArray) (a0_2 : Int) (l0_3 : List ByteArray) (l0_4 : List Int) (a0_5 : ByteArray) (a0_6 : ByteArray) (a0_7 : ByteArray) (a0_8 : ByteArray) (a0_9 : Bool) (l0_10 : List (S41)) (a0_11 : Int) (a0_12 : ByteArray) (a0_13 : ByteArray) (a0_14 : ByteArray) (a0_15 : Int) (l1 : List Int) : Option (ByteArray × Bool) :=
  if (l1.length : Int) > 60 then some (⟨#[]⟩, false) else if l1.all (fun p => decide (0 ≤ p) && decide (p < (l0_3.length : Int))) = true then (if l0_3.all (fun s => decide (s.size ≤ 1099511627776)) = true then some (⟨(symsAt l0_3 l1.reverse).toArray⟩, true) else none) else none

set_option maxRecDepth 100000 in
set_option maxHeartbeats 4000000 in
theorem chosen_in (F : Fence) (hF : F = Fence.wide) (a0_0 : ByteArray) (a0_1 : ByteArray) (a0_2 : Int) (A0_3 : Option Addr) (c0_3 : Nat) (l0_3 : List ByteArray) (v4 : Value) (a0_5 : ByteArray) (a0_6 : ByteArray) (a0_7 : ByteArray) (a0_8 : ByteArray) (a0_9 : Bool) (v10 : Value) (a0_11 : Int) (a0_12 : ByteArray) (a0_13 : ByteArray) (a0_14 : ByteArray) (a0_15 : Int) (A1 : Option Addr) (c1 : Nat) (l1 : List Int) (w : World)
    (ho4 : v4.oneCell' = true) (ho10 : v10.oneCell' = true)
    (hr3 : Aside0 (Kd.C Kd.string w A0_3 l0_3.length l0_3)) (hr1 : Aside0 (Kd.C (Kd.int .i64) w A1 l1.length l1)) (hlen : (l1.length : Int) ≤ 60)
    (hall : Aside0 (∀ j : Nat, j < l1.length → 0 ≤ rd l1 (j : Int) ∧ rd l1 (j : Int) < (l0_3.length : Int))) (hsz : Aside0 (∀ s ∈ l0_3, s.size ≤ 1099511627776)) :
    CallsIn F 3 Try.prog 19 #[.agg #[.string a0_0, .string a0_1, .int .i64 a0_2, .slice A0_3 l0_3.length c0_3, v4, .string a0_5, .string a0_6, .string a0_7, .string a0_8, .bool a0_9, v10, .int .i64 a0_11, .string a0_12, .string a0_13, .string a0_14, .int .i64 a0_15], .slice A1 l1.length c1] w fun e w' => e = .returned (.tuple #[.string ⟨(symsAt l0_3 l1.reverse).toArray⟩, .bool true]) ∧ Below w.heap.size w w' := by
  have hu27 := Try.underlying27
  subst hF
  have hro : Fence.wide.round = none := rfl
  refine callsIn_of_wp_marks Try.func19 rfl trivial ?_ hro
  simp only [Try.ntmps19, List.size_toArray, List.length_cons, List.length_nil, Nat.reduceAdd, Nat.reduceSub, Array.replicate_succ, Array.replicate_zero, List.push_toArray, List.append_toArray, List.nil_append, List.cons_append]
  gi_wp2_with (refine ⟨trivial, ?_⟩; gi_at_call 34; refine (back_in Fence.wide _ trivial hro _ _ _ _).mono ?_; rintro e w' ⟨rfl, rfl⟩)
  obtain ⟨D, hD⟩ : ∃ D : Array Value, D = #[.string a0_0, .string a0_1, .int .i64 a0_2, .slice A0_3 l0_3.length c0_3, v4, .string a0_5, .string a0_6, .string a0_7, .string a0_8, .bool a0_9, v10, .int .i64 a0_11, .string a0_12, .string a0_13, .string a0_14, .int .i64 a0_15] := ⟨_, rfl⟩
  have hD3 : D[3]? = some (.slice A0_3 l0_3.length c0_3) := by rw [hD]; rfl
  rw [← hD]
  clear hD
  have bD := blk_alloc (blk_alloc (blk_new w (.cells D 27)) (.cells #[.pointer none, .slice none 0 0] 57)) (.cells #[.slice A1 l1.length c1] 23)
  have bB : Lib.IsBuilderF 57 5 (w.heap.size + 1) (w.heap.size + 1) (Lib.byteCells (symsAt l0_3 [])) (((w.alloc (.cells D 27)).alloc (.cells #[.pointer none, .slice none 0 0] 57)).alloc (.cells #[.slice A1 l1.length c1] 23)) := by
    have h := Lib.IsBuilderF.of (Lib.fresh_isBuilder 57 5 (w.alloc (.cells D 27)))
    rw [World.size_alloc] at h
    exact h.alloc _
  have bK := blk_new ((w.alloc (.cells D 27)).alloc (.cells #[.pointer none, .slice none 0 0] 57)) (.cells #[.slice A1 l1.length c1] 23)
  simp only [World.size_alloc] at bK
  have bS := Boxed.new ((w.alloc (.cells D 27)).alloc (.cells #[.pointer none, .slice none 0 0] 57)) 23 (.slice A1 l1.length c1)
  simp only [World.size_alloc] at bS
  have hB0 : Below w.heap.size w (((w.alloc (.cells D 27)).alloc (.cells #[.pointer none, .slice none 0 0] 57)).alloc (.cells #[.slice A1 l1.length c1] 23)) := (((Below.refl _ w).alloc (Nat.le_refl _) _).alloc (by simp) _).alloc (by simp; omega) _
  have hsz0 : (((w.alloc (.cells D 27)).alloc (.cells #[.pointer none, .slice none 0 0] 57)).alloc (.cells #[.slice A1 l1.length c1] 23)).heap.size = w.heap.size + 3 := by simp
  obtain ⟨W0, hW0⟩ : ∃ W0, ((w.alloc (.cells D 27)).alloc (.cells #[.pointer none, .slice none 0 0] 57)).alloc (.cells #[.slice A1 l1.length c1] 23) = W0 := ⟨_, rfl⟩
  rw [hW0] at bD bB bS bK hB0 hsz0 ⊢
  clear hW0
  refine wpIn_rangeFunc_ownG hro (by omega) (gf := 45) (lb := #[.pointer (some ⟨w.heap.size + 1 + 1, 0, none⟩)]) rfl trivial (enters_of Try.func45 (by kernel_rfl) rfl)
    (back_stops Fence.wide (3 - 1) trivial hro (by omega) (w.heap.size + 1 + 1) A1 c1 l1 w hr1 W0 hB0 (by omega) bS.cell) bkp_t (bkp_b (by omega) (by omega)) (Below.refl _ _) (fun _ => rfl)
    (fun pre W => (Lib.IsBuilderF 57 5 (w.heap.size + 1) (w.heap.size + 1) (Lib.byteCells (symsAt l0_3 (cameAt l1 pre))) W ∧ W.heap[w.heap.size]? = some (.cells D 27 (0, 0)) ∧ W.heap[w.heap.size + 1 + 1]? = some (.cells #[.slice A1 l1.length c1] 23 (0, 0))) ∧ Below w.heap.size w W)
    (fun c pre W => False)
    (OwnFrom.and (Own.from (fun s X Y row hs hg hr => ⟨builder_own 57 5 (w.heap.size + 1) (w.heap.size + 1) (fun pre => Lib.byteCells (symsAt l0_3 (cameAt l1 pre))) s X Y row hs.1 hg hr, blk_own w.heap.size 27 (fun (_ : Unit) => D) () X Y row hs.2.1 hg hr, blk_own (w.heap.size + 1 + 1) 23 (fun (_ : Unit) => #[.slice A1 l1.length c1]) () X Y row hs.2.2 hg hr⟩) _) (ownFrom_below (Nat.le_refl _) (by omega)))
    (fun c => fun s X Y row hs hg hr => hs.elim)
    ⟨⟨bB, bD, bK⟩, hB0⟩
    (fun x => { tmps := #[.agg D, .slice A1 l1.length c1, .pointer (some ⟨w.heap.size, 0, none⟩), undef, .string ⟨#[]⟩, .bool false, .pointer (some ⟨w.heap.size + 1, 0, none⟩), undef, .int .i64 (rd l1 (x.1 : Int)), .slice A1 l1.length c1, .int .i64 l1.length, .bool (decide (60 < (l1.length : Int))), .slice A1 l1.length c1, .func (.func 45) #[] #[.pointer (some ⟨w.heap.size + 1 + 1, 0, none⟩)], .int .i64 (x.1 : Int), .int .i64 (rd l1 (x.1 : Int)), undef, undef, undef, undef, undef, undef, undef], defers := [] })
    ?assign ?body ?done ?stop
  case assign =>
    intro l x W K hK
    unfold backEnc
    gi_wp2
    exact hK
  case body =>
    rintro l pre x W ⟨⟨hb, hd, hk⟩, hB1⟩ hlt
    have cD : W.cell? ⟨w.heap.size, 3, none⟩ = some (.slice A0_3 l0_3.length c0_3) := (blk_cell hd 3).trans hD3
    obtain ⟨hx0, hx1⟩ := hall.out x.1 x.2
    obtain ⟨ad, rfl, hs0⟩ := Kd.at_string (Kd.C_below hr3.out hB1) (rd l1 (x.1 : Int)) hx0 hx1
    have hbl : (Lib.byteCells (symsAt l0_3 (cameAt l1 pre))).length + (rdOf ByteArray.empty l0_3 (rd l1 (x.1 : Int))).size ≤ 140737488355328 := by
      have h1 := symsAt_len l0_3 1099511627776 hsz.out (cameAt l1 (pre ++ [x]))
      rw [cameAt_snoc, symsAt_snoc, List.length_append, data_length] at h1
      rw [Lib.byteCells_length]
      have h2 : (cameAt l1 pre).length = pre.length := by simp [cameAt]
      rw [List.length_append, h2, List.length_singleton] at h1
      have h3 : (pre.length + 1) * 1099511627776 ≤ 60 * 1099511627776 := Nat.mul_le_mul_right _ (by omega)
      omega
    have HCL := Lib.hid (shl_Builder_WriteString_k (w.heap.size + 1) (w.heap.size + 1) _ (rdOf ByteArray.empty l0_3 (rd l1 (x.1 : Int))) W hb hbl (by have := hB1.size; have := blk_lt hk; omega))
    have HB := Aside0.mk hb
    have HK := Aside0.mk hk
    have HD := Aside0.mk hd
    clear hb hk hd hbl
    gi_wp2_with (refine ⟨trivial, ?_⟩; gi_at_call 31; refine (CallsIn.inRound l (callsIn_wide.2 HCL.out)).mono ?_; rintro e w' ⟨rfl, hb1, hb2, hb3⟩)
    refine ⟨(othersKept_keeps hb2.size HB.out hb3).from _, ⟨hb2.mono (by omega), ?_⟩, ⟨.inr ?_, (hb2.block w.heap.size (by omega)).trans HD.out, hb3 _ _ HK.out (by simp) (by intro c fz e; cases e)⟩, hB1.trans (hb2.mono (by omega))⟩
    · exact (blk_cell (hb3 _ _ HK.out (by simp) (by intro c fz e; cases e)) 0).trans (blk_cell HK.out 0).symm
    · rw [cameAt_snoc, symsAt_snoc, Lib.byteCells_append]
      exact hb1
  case done =>
    rintro E ys W hE hys ⟨⟨hb, hd, hk⟩, hB1⟩ hK
    rw [cameAt_all l1 ys hys] at hb
    have HCL := Lib.hid (shl_Builder_String_any_k (w.heap.size + 1) (w.heap.size + 1) _ W hb (by have := hB1.size; have := blk_lt hk; omega))
    have HB := Aside0.mk hb
    clear hb
    gi_wp2_with (refine ⟨trivial, ?_⟩; gi_at_call 33; refine (callsIn_wide.2 HCL.out).mono ?_; rintro e w' ⟨rfl, hb1, hb2, hb3⟩)
    have hEb : E ≠ w.heap.size + 1 := by omega
    have hK' := hb3 E _ hK (fun e => hEb (Option.some.inj e)) (by intro c fz e; cases e)
    refine ⟨by simp, .inl ⟨_, _, rfl, run_takeDeferred hK', ?_⟩⟩
    refine ⟨.tuple #[.string ⟨(symsAt l0_3 l1.reverse).toArray⟩, .bool true], ?_, rfl, (hB1.trans (hb2.mono (by omega))).trans (belowK_b (w := w) (Nat.le_refl _) _ E _ _ (by omega) hK' rfl rfl)⟩
    simp [results, Try.f19, go_sem]
  case stop =>
    rintro E c' pre W hE _ h _
    exact h.elim
end
set_option maxHeartbeats 1000000 in
set_option maxRecDepth 100000 in
theorem system_chosen.calls (a0_0 : ByteArray) (a0_1 : ByteArray) (a0_2 : Int) (A0_3 : Option Addr) (c0_3 : Nat) (l0_3 : List ByteArray) (A0_4 : Option Addr) (c0_4 : Nat) (l0_4 : List Int) (a0_5 : ByteArray) (a0_6 : ByteArray) (a0_7 : ByteArray) (a0_8 : ByteArray) (a0_9 : Bool) (A0_10 : Option Addr) (c0_10 : Nat) (l0_10 : List (S41)) (a0_11 : Int) (a0_12 : ByteArray) (a0_13 : ByteArray) (a0_14 : ByteArray) (a0_15 : Int) (A1 : Option Addr) (c1 : Nat) (l1 : List Int) (r1 : ByteArray) (r2 : Bool) (w : World) (hr0_3 : Kd.C Kd.string w A0_3 l0_3.length l0_3) (hc0_3 : l0_3.length ≤ c0_3) (hr0_4 : Kd.C (Kd.int .i64) w A0_4 l0_4.length l0_4) (hc0_4 : l0_4.length ≤ c0_4) (hr0_10 : Kd.C k41 w A0_10 l0_10.length l0_10) (hc0_10 : l0_10.length ≤ c0_10) (hr1 : Kd.C (Kd.int .i64) w A1 l1.length l1) (hc1 : l1.length ≤ c1) (h : system_chosen.f a0_0 a0_1 a0_2 l0_3 l0_4 a0_5 a0_6 a0_7 a0_8 a0_9 l0_10 a0_11 a0_12 a0_13 a0_14 a0_15 l1 = some (r1, r2)) :
    Calls Try.prog 19 #[.agg #[.string a0_0, .string a0_1, .int .i64 a0_2, .slice A0_3 l0_3.length c0_3, .slice A0_4 l0_4.length c0_4, .string a0_5, .string a0_6, .string a0_7, .string a0_8, .bool a0_9, .slice A0_10 l0_10.length c0_10, .int .i64 a0_11, .string a0_12, .string a0_13, .string a0_14, .int .i64 a0_15], .slice A1 l1.length c1] w fun e w' => e = .returned (.tuple #[.string r1, .bool r2]) ∧ Below w.heap.size w w' := by
  unfold system_chosen.f at h
  by_cases h60 : (l1.length : Int) > 60
  · rw [if_pos h60] at h
    obtain ⟨rfl, rfl⟩ := Prod.mk.inj (Option.some.inj h)
    clear h hr0_3 hc0_3 hr0_4 hc0_4 hr0_10 hc0_10 hr1 hc1
    go_enter Try.func19, Try.ntmps19
    go_wp2
    go_ret2
    exact ⟨rfl, (Below.refl _ w).alloc (Nat.le_refl _) _⟩
  · rw [if_neg h60] at h
    split at h
    · rename_i hall
      split at h
      · rename_i hsz
        obtain ⟨rfl, rfl⟩ := Prod.mk.inj (Option.some.inj h)
        refine (callsIn_wide (n := 3)).1 (chosen_in Fence.wide rfl a0_0 a0_1 a0_2 A0_3 c0_3 l0_3 _ a0_5 a0_6 a0_7 a0_8 a0_9 _ a0_11 a0_12 a0_13 a0_14 a0_15 A1 c1 l1 w rfl rfl ⟨hr0_3⟩ ⟨hr1⟩ (by omega) ⟨fun j hj => ?_⟩ ⟨fun s hs => ?_⟩)
        · have h1 := List.all_eq_true.1 hall (l1[j]) (List.getElem_mem hj)
          have h2 : rd l1 (j : Int) = l1[j] := by simp [rd, hj]
          rw [h2]
          simpa using h1
        · simpa using List.all_eq_true.1 hsz s hs
      · cases h
    · cases h

end Go.Proofs.Ytalegejfellbdaa.Print
