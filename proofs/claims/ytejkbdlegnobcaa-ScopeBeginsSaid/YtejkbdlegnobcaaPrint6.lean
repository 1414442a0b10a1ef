/- Written by a program of this session out of the translation, with contracts given by hand beside. -/
import Derived.Test.YtejkbdlegnobcaaPrint0
namespace Go.Proofs.Ytejkbdlegnobcaa.Print
open Go.RowKit Go.Proofs.YtejkbdlegnobcaaW.PrintWords Go.Proofs.YtejkbdlegnobcaaW.PrintLast Go.Proofs.YtejkbdlegnobcaaW.PrintMore
attribute [local go_sem] max2_int min2_int max_two min_two max_three min_three max_four min_four   -- for this text's walks alone
set_option linter.unusedVariables false
set_option linter.unusedSimpArgs false

-- GIVEN BY HAND
/-! ### scope_Counter_23: function 23 -/
def scope_Counter_23.f (l0 : List S38) (a1 a2 : Int) : Option (List S38) := if 0 ≤ a1 then if a2 = a1 + 1 then if a2 ≤ l0.length then some (l0.eraseIdx a1.toNat) else none else none else none

def scope_Counter_23.T5 : Bool × List (List Nat × List Nat) := (true, [([], []), ([], []), ([0, 1], [0, 1]), ([], []), ([], []), ([3, 4], [3, 4]), ([2, 5], [2, 5]), ([6, 6, 0, 1, 2, 3, 4, 5, 6], [0, 3, 6])])
def scope_Counter_23.B5 : List Nat := [0, 0, 3, 0, 0, 24, 63, 127]
theorem scope_Counter_23.tab5 : rtab .any (opsOf Try.f23 5) = scope_Counter_23.T5 := by kernel_rfl
theorem scope_Counter_23.bits5 : waitsOk scope_Counter_23.T5.2 scope_Counter_23.B5 = true := by kernel_rfl

/-- A store into the spare places of a row of one's own turns nothing that the row tells. -/
theorem R_spare {α : Type} {d : Kd α} {e : Nat} {w : World} {base : Nat} {ok : Nat → Prop} {g m c : Nat} {xs : List α} (h : d.R e w base ok (.slice (some ⟨g, 0, none⟩) m c) xs) (o : Nat) (ho : m * d.sz ≤ o) (u : Value) :
    d.R e (w.setCell ⟨g, o, none⟩ u) base ok (.slice (some ⟨g, 0, none⟩) m c) xs := by
  obtain ⟨h0, inner, ⟨h1, h2⟩, hr⟩ := h
  refine ⟨h0, inner, ⟨h1, ?_⟩, hr.imp_ (fun _ _ hp => Kd.M_far (p := ⟨g, o, none⟩) hp (fun k hk e' => hk.2 (by rw [e']; rfl)) u)⟩
  rcases h2 with ⟨h2, _⟩ | ⟨g', cap, cur, hv, hb, hh, h3, h4, h5, h6⟩
  · cases h2
  · injection hv with ha hn hc
    injection ha with ha
    injection ha with ha
    subst ha
    refine .inr ⟨g, cap, cur.setIfInBounds o u, by rw [hn, hc], hb, blk_put hh o u rfl, h3, h4, by simpa using h5, ?_⟩
    rw [Array.toList_setIfInBounds, List.take_set_of_le (by rw [← hn]; exact ho)]
    exact h6

theorem zeros38 : (Builtin.zeroCells (Value.agg #[.string ⟨#[]⟩, .int .i64 0, .int .i64 0, .bool false]).cells 1).toList = [.string ⟨#[]⟩, .int .i64 0, .int .i64 0, .bool false] := by kernel_rfl
theorem zeroV38 (w : World) : (zeroValue 38).run Try.prog w = .ok (.agg #[.string ⟨#[]⟩, .int .i64 0, .int .i64 0, .bool false]) w := by kernel_rfl
/-- clear(s) of one element of this struct: its four cells hold the zero values. -/
theorem run_clear_one (w : World) (b o c : Nat) (hc : ∀ j, j < 4 → (w.cell? ⟨b, o + j, none⟩).isSome = true) (hf : ∀ j, j < 4 → w.frozen? ⟨b, o + j, none⟩ = false) :
    (Builtin.clear_ #[25] 0 #[.slice (some ⟨b, o, none⟩) 1 c]).run Try.prog w = .ok (.tuple #[]) (w.setCells b o [.string ⟨#[]⟩, .int .i64 0, .int .i64 0, .bool false]) := by
  have hst := run_storeCells_cells (P := Try.prog) b o [.string ⟨#[]⟩, .int .i64 0, .int .i64 0, .bool false] 0 w (by simpa using hc) (by simpa using hf) (by intro v hv'; simp at hv'; rcases hv' with rfl | rfl | rfl | rfl <;> rfl)
  simp only [Nat.add_zero] at hst
  simp [Builtin.clear_, run_underlying Try.underlying25, zeroV38, zeros38, hst]
/-- The row of one's own: its block. -/
theorem R_block {α : Type} {d : Kd α} {e : Nat} {w : World} {base : Nat} {ok : Nat → Prop} {g m c : Nat} {xs : List α} (h : d.R e w base ok (.slice (some ⟨g, 0, none⟩) m c) xs) : ∃ cur : Array Value, w.heap[g]? = some (.cells cur e (0, 0)) ∧ cur.size = c * d.sz ∧ base ≤ g := by
  obtain ⟨_, inner, ⟨_, h2⟩, _⟩ := h
  rcases h2 with ⟨h2, _⟩ | ⟨g', cap, cur, hv, hb, hh, h3, h4, h5, h6⟩
  · cases h2
  · injection hv with ha hn hc
    injection ha with ha
    injection ha with ha
    subst ha
    exact ⟨cur, hh, by rw [h5, hc], hb⟩

set_option maxHeartbeats 1000000 in
set_option maxRecDepth 100000 in
theorem delete_core (P0_ : Nat → Prop) (g c k : Nat) (l0 : List S38) (hk : k < l0.length) (w0 w : World) (hB : Aside0 (Below w0.heap.size w0 w)) (ho0 : Aside0 (Kd.R k38 38 w w0.heap.size P0_ (.slice (some ⟨g, 0, none⟩) l0.length c) l0)) :
    Calls Try.prog 23 #[.slice (some ⟨g, 0, none⟩) l0.length c, .int .i64 (k : Int), .int .i64 ((k : Int) + 1)] w fun e w' => ∃ v0_ : Value, e = .returned (v0_) ∧ Kd.R k38 38 w' w0.heap.size P0_ v0_ (l0.eraseIdx k) ∧ Below w0.heap.size w0 w' ∧ Kept w w' (fun k_ => P0_ k_) := by
  have hm : l0.length ≤ 9223372036854775807 := (Kd.R_reads' ho0.out).2.2.2.1
  have hcap : l0.length ≤ c := (Kd.R_reads' ho0.out).2.1
  obtain ⟨i0, hi0, _, hsz0, _⟩ := info_parts info38
  have hne : ((k : Int) == (k : Int) + 1) = false := beq_eq_false_iff_ne.mpr (by omega)
  have b1 : (k : Int) ≤ (l0.length : Int) := by omega
  have b2 : (k : Int) + 1 ≤ (l0.length : Int) := by omega
  have hcutA : ∀ W : World, (Instr.slice 25 (.slice (some ⟨g, 0, none⟩) l0.length c) none (some (.int .i64 (k : Int))) none).run Try.prog W = .ok (.slice (some ⟨g, 0, none⟩) k c) W :=
    cut_to (P := Try.prog) 25 38 .i64 Try.underlying25 hi0 (some ⟨g, 0, none⟩) l0.length c (k : Int) (by omega) b1 hcap
  obtain ⟨A2, hA2⟩ : ∃ A1, A1 = (if c = k + 1 then some ⟨g, 0, none⟩ else (some (⟨g, 0, none⟩ : Addr)).map (·.add ((k + 1) * 4))) := ⟨_, rfl⟩
  obtain ⟨m2, hm2⟩ : ∃ m1, m1 = l0.length - (k + 1) := ⟨_, rfl⟩
  have hcutB : ∀ W : World, (Instr.slice 25 (.slice (some ⟨g, 0, none⟩) l0.length c) (some (.int .i64 ((k : Int) + 1))) none none).run Try.prog W = .ok (.slice A2 m2 (c - (k + 1))) W := by
    rw [hA2, hm2]
    exact cut_from (P := Try.prog) 25 38 .i64 Try.underlying25 hi0 4 hsz0 (some ⟨g, 0, none⟩) l0.length c ((k : Int) + 1) (by omega) b2
  have KA2 := Aside0.mk hA2
  have KM2 := Aside0.mk hm2
  have KSZ := Aside0.mk hsz0
  clear hA2 hm2 hsz0
  go_enter Try.func23, Try.ntmps23
  go_wp2
  refine start_ (n := 8) (S := fun w' => True) (ds := []) #[false, false, false, false, false, false, false, false] (by kernel_rfl) rfl rfl trivial (fun hHeld => ?_)
  refine with_tabW scope_Counter_23.tab5 scope_Counter_23.bits5 (fun HT_ HW_ => ?_)
  refine pure_ (i := 0) (N := some 20) (v := ?_) (a' := ?_) #[true, false, false, false, false, false, false, false] rfl rfl (any_of HT_.out (by kernel_rfl)) (fun _ _ _ h => h) (Or.inl ⟨by rfl, ?_⟩) ?_ ?_
  rotate_left
  · intro w'
    go_simp
    with_reducible rfl
  rotate_left
  · simp only [Act.put, List.setIfInBounds_toArray, List.set_cons_zero, List.set_cons_succ, i64_w, i32_w]
    rfl
  refine pure_ (i := 1) (N := some 21) (v := ?_) (a' := ?_) #[true, true, false, false, false, false, false, false] rfl rfl (any_of HT_.out (by kernel_rfl)) (fun _ _ _ h => h) (Or.inl ⟨by rfl, ?_⟩) ?_ ?_
  rotate_left
  · intro w'
    go_simp
    with_reducible rfl
  rotate_left
  · simp only [Act.put, List.setIfInBounds_toArray, List.set_cons_zero, List.set_cons_succ, i64_w, i32_w]
    rfl
  refine pure_ (i := 2) (N := some 22) (v := ?_) (a' := ?_) #[true, true, true, false, false, false, false, false] rfl rfl (any_of HT_.out (by kernel_rfl)) (fun _ _ _ h => h) (Or.inl ⟨by rfl, ?_⟩) ?_ ?_
  rotate_left
  · intro w'
    go_simp
    with_reducible rfl
  rotate_left
  · simp only [Act.put, List.setIfInBounds_toArray, List.set_cons_zero, List.set_cons_succ, i64_w, i32_w]
    rfl
  refine pure_ (i := 3) (N := some 23) (v := ?_) (a' := ?_) #[true, true, true, true, false, false, false, false] rfl rfl (any_of HT_.out (by kernel_rfl)) (fun _ _ _ h => h) (Or.inl ⟨by rfl, ?_⟩) ?_ ?_
  rotate_left
  · intro w'
    go_simp
    with_reducible rfl
  rotate_left
  · simp only [Act.put, List.setIfInBounds_toArray, List.set_cons_zero, List.set_cons_succ, i64_w, i32_w]
    rfl
  refine pure_ (i := 4) (N := some 24) (v := ?_) (a' := ?_) #[true, true, true, true, true, false, false, false] rfl rfl (any_of HT_.out (by kernel_rfl)) (fun _ _ _ h => h) (Or.inl ⟨by rfl, ?_⟩) ?_ ?_
  rotate_left
  · intro w'
    go_simp
    with_reducible rfl
  rotate_left
  · simp only [Act.put, List.setIfInBounds_toArray, List.set_cons_zero, List.set_cons_succ, i64_w, i32_w]
    rfl
  refine pure_ (i := 5) (N := some 25) (v := ?_) (a' := ?_) #[true, true, true, true, true, true, false, false] rfl rfl (any_of HT_.out (by kernel_rfl)) (fun _ _ _ h => h) (Or.inl ⟨by rfl, ?_⟩) ?_ ?_
  rotate_left
  · intro w'
    go_simp
    with_reducible rfl
  rotate_left
  · simp only [Act.put, List.setIfInBounds_toArray, List.set_cons_zero, List.set_cons_succ, i64_w, i32_w]
    rfl
  refine one_ (i := 6) (N := some 26) #[true, true, true, true, true, true, true, false] rfl rfl (one_of HT_.out (by kernel_rfl)) (by decide) (fun K hK => ?_)
  refine Kd.R_delete_step k38 (w0 := w0) w0.heap.size (by rfl) (.tmp 22) (.tmp 25) 25 38 rfl Try.underlying25 (by kernel_rfl) (g := g) (n := l0.length) (c := c) (k := k) rfl rfl ?hA ?hm (Kd.R_drew ho0.out) hk (below_drew1 hB.out) (below_size (below_drew1 hB.out)) ?_
  (case hA => exact KA2.out)
  (case hm => exact KM2.out)
  intro w17 ho hb hg
  have HO1 := Aside0.mk ho
  have HB1 := Aside0.mk hb
  have HK1 := Aside0.mk (Kept.of_grown (S := (fun k_ => P0_ k_)) hg (Kept.drew (Kept.refl w _)) (fun k_ e_ => .inl (ho0.out.1 k_ (by rw [← e_]; rfl))))
  clear ho hb hg
  refine hK.out _ _ trivial (fun hHeld => ?_)
  clear hK K
  refine norm_ (a' := ?_) ?_ ?_
  rotate_left
  · show Act.put _ (some 26) _ = _
    simp only [Act.put, List.setIfInBounds_toArray, List.set_cons_zero, List.set_cons_succ, i64_w, i32_w]
    rfl
  refine pure_ (i := 7) (N := some 0) (v := ?_) (a' := ?_) #[true, true, true, true, true, true, true, true] rfl rfl (any_of HT_.out (by kernel_rfl)) (fun _ _ _ h => h) (Or.inl ⟨by rfl, ?_⟩) ?_ ?_
  rotate_left
  · intro w'
    go_simp
    with_reducible rfl
  rotate_left
  · simp only [Act.put, List.setIfInBounds_toArray, List.set_cons_zero, List.set_cons_succ, i64_w, i32_w]
    rfl
  refine done_ (done_of HT_.out (by kernel_rfl)) ?_
  have b3 : ((l0.length - 1 : Nat) : Int) ≤ (l0.length : Int) := by omega
  have b4 : l0.length - 1 ≤ l0.length := by omega
  have b5 : l0.length - 1 < c := by omega
  clear hne b1 b2 hcutA hcutB
  obtain ⟨cur, hh, hcs, hgb⟩ := R_block HO1.out
  have hcs4 : cur.size = c * 4 := hcs
  have hcl : ∀ j, j < 4 → (w17.cell? ⟨g, (l0.length - 1) * 4 + j, none⟩).isSome = true := fun j hj => by
    have hlt : (l0.length - 1) * 4 + j < cur.size := by omega
    simp [World.cell?, hh, hlt]
  have hfr : ∀ j, j < 4 → w17.frozen? ⟨g, (l0.length - 1) * 4 + j, none⟩ = false := fun j hj => by simp [World.frozen?, hh]
  have hclr : (Builtin.clear_ #[25] 0 #[.slice (some ⟨g, (l0.length - 1) * 4, none⟩) (l0.length - (l0.length - 1)) (c - (l0.length - 1))]).run Try.prog w17 = .ok (.tuple #[]) (w17.setCells g ((l0.length - 1) * 4) [.string ⟨#[]⟩, .int .i64 0, .int .i64 0, .bool false]) := by
    rw [show l0.length - (l0.length - 1) = 1 from by omega]
    exact run_clear_one w17 g ((l0.length - 1) * 4) _ hcl hfr
  have HG := Aside0.mk hgb
  clear hh hcs hcs4 hcl hfr hgb
  go_wp2
  go_ret
  have hL : (l0.eraseIdx k).length = l0.length - 1 := List.length_eraseIdx_of_lt hk
  have hpk : P0_ g := ho0.out.1 g rfl
  refine ⟨_, rfl, ?_, ?_, ?_⟩
  · exact R_spare (R_spare (R_spare (R_spare HO1.out ((l0.length - 1) * 4) (by rw [show k38.sz = 4 from rfl]; omega) _) ((l0.length - 1) * 4 + 1) (by rw [show k38.sz = 4 from rfl]; omega) _) ((l0.length - 1) * 4 + 1 + 1) (by rw [show k38.sz = 4 from rfl]; omega) _) ((l0.length - 1) * 4 + 1 + 1 + 1) (by rw [show k38.sz = 4 from rfl]; omega) _
  · exact (((HB1.out.setCell (p := ⟨g, (l0.length - 1) * 4, none⟩) HG.out _).setCell (p := ⟨g, (l0.length - 1) * 4 + 1, none⟩) HG.out _).setCell (p := ⟨g, (l0.length - 1) * 4 + 1 + 1, none⟩) HG.out _).setCell (p := ⟨g, (l0.length - 1) * 4 + 1 + 1 + 1, none⟩) HG.out _
  · exact Kept.setCell (Kept.setCell (Kept.setCell (Kept.setCell HK1.out (.inl hpk) _) (.inl hpk) _) (.inl hpk) _) (.inl hpk) _

theorem scope_Counter_23.calls (P0_ : Nat → Prop) (u9000_ : Value) (l0 : List S38) (a1 : Int) (a2 : Int) (r : List S38) (w0 w : World) (hB : Below w0.heap.size w0 w) (ho0 : Kd.R k38 38 w w0.heap.size P0_ u9000_ l0) (h : scope_Counter_23.f l0 a1 a2 = some r) :
    Calls Try.prog 23 #[u9000_, .int .i64 a1, .int .i64 a2] w fun e w' => ∃ v0_ : Value, e = .returned (v0_) ∧ Kd.R k38 38 w' w0.heap.size (fun k_ => (P0_ k_ ∨ w.heap.size ≤ k_)) v0_ r ∧ Below w0.heap.size w0 w' ∧ Kept w w' (fun k_ => P0_ k_) := by
  unfold scope_Counter_23.f at h
  by_cases c1 : 0 ≤ a1
  · rw [if_pos c1] at h
    by_cases c2 : a2 = a1 + 1
    · rw [if_pos c2] at h
      by_cases c3 : a2 ≤ (l0.length : Int)
      · rw [if_pos c3] at h
        obtain ⟨k, rfl⟩ := Int.eq_ofNat_of_zero_le c1
        have hk : k < l0.length := by omega
        obtain rfl := Option.some.inj h
        subst c2
        obtain ⟨go, co, eo, _⟩ := Kd.R_form ho0 (by omega)
        subst eo
        rw [show ((k : Int)).toNat = k from by omega]
        refine (delete_core P0_ go co k l0 hk w0 w ⟨hB⟩ ⟨ho0⟩).mono ?_
        rintro e w' ⟨v, he, hr, hb, hk2⟩
        exact ⟨v, he, Kd.R_mono hr (fun _ hk => .inl hk), hb, hk2⟩
      · rw [if_neg c3] at h; cases h
    · rw [if_neg c2] at h; cases h
  · rw [if_neg c1] at h; cases h

end Go.Proofs.Ytejkbdlegnobcaa.Print
