/- Written by a program of this session out of the translation, with contracts given by hand beside. -/
import Derived.Test.YtmadmnbaefifiaaPrint0
import Derived.Test.YtmadmnbaefifiaaPrint1
namespace Go.Proofs.Ytmadmnbaefifiaa.Print
open Go.RowKit Go.Proofs.YtmadmnbaefifiaaW.PrintWords Go.Proofs.YtmadmnbaefifiaaW.PrintLast Go.Proofs.YtmadmnbaefifiaaW.PrintMore
attribute [local go_sem] max2_int min2_int max_two min_two max_three min_three max_four min_four   -- for this text's walks alone
set_option linter.unusedVariables false
set_option linter.unusedSimpArgs false

-- GIVEN BY HAND
/-! ### fleuronlaw23_BoundFirst: function 6 -/
section
theorem first_rd (n : Nat) (j : Int) : rd_T30 (List.replicate n z30) j = z30 := by
  unfold rd_T30
  rw [List.getD_eq_getElem?_getD, List.getElem?_replicate]
  split <;> rfl
theorem first_odd_l (n : Nat) (hn : n ≤ 1000) : ∀ (d k j : Nat), j + d = n → d < k → bound_odd.l0 k (List.replicate n z30) (n : Int) (j : Int) = some false
  | d, 0, _, _, h => by omega
  | 0, k + 1, j, hj, _ => by
    obtain rfl : j = n := by omega
    simp only [bound_odd.l0]
    rw [if_neg (by omega)]
  | d + 1, k + 1, j, hj, hk => by
    have e : wrap64 ((j : Int) + 1) = ((j + 1 : Nat) : Int) := by unfold wrap64; omega
    simp only [bound_odd.l0, first_rd, List.length_replicate, e]
    rw [if_pos (by omega), if_pos (by omega), if_pos (by omega), if_neg (by decide), if_neg (by decide)]
    exact first_odd_l n hn d k (j + 1) (by omega) (by omega)
theorem first_odd (tag : ByteArray) (ht : tag.size ≤ 300) (n : Nat) (hn : n ≤ 1000) (k : Nat) (hk : n + 2 ≤ k) : bound_odd.f k 0 tag (⟨#[]⟩ : ByteArray) (List.replicate n z30) = some (decide (64 < n)) := by
  unfold bound_odd.f
  rw [if_neg (by omega), if_neg (by decide)]
  obtain ⟨k, rfl⟩ : ∃ m, k = m + 1 := ⟨k - 1, by omega⟩
  by_cases h : 64 < n
  · rw [decide_eq_true (p := 64 < n) h, decide_eq_true (by simp only [List.length_replicate]; omega)]
    simp only [bound_odd.j0]
    rfl
  · rw [decide_eq_false (p := 64 < n) h, decide_eq_false (by simp only [List.length_replicate]; omega)]
    simp only [bound_odd.j0]
    rw [if_neg (by decide), List.length_replicate]
    exact first_odd_l n hn n k 0 (by omega) (by omega)
/-- What the whole answers of a table of one node. -/
theorem first_input (bytes : Int) (tag : ByteArray) (ht : tag.size ≤ 300) (n : Nat) (hn : n ≤ 1000) (hb : ¬ bytes > 65536) :
    bound_Input.f (n + 10) bytes [(⟨0, tag, (⟨#[]⟩ : ByteArray), List.replicate n z30⟩ : S26)] = some (if 64 < n then 4 else 0) := by
  obtain ⟨r, hr⟩ : ∃ r : Int, r = if 64 < n then 4 else 0 := ⟨_, rfl⟩
  rw [← hr]
  unfold bound_Input.f
  rw [if_neg hb, if_neg (by simp), decide_eq_false (by simp)]
  obtain ⟨K, hK, e0⟩ : ∃ K, n + 2 ≤ K ∧ n + 10 = K + 3 := ⟨n + 7, by omega, by omega⟩
  rw [e0, show K + 3 = (K + 2) + 1 from rfl]
  rw [bound_Input.j0, if_neg (by decide), show K + 2 = (K + 1) + 1 from rfl]
  have e : rd_T26 [(⟨0, tag, (⟨#[]⟩ : ByteArray), List.replicate n z30⟩ : S26)] 0 = ⟨0, tag, (⟨#[]⟩ : ByteArray), List.replicate n z30⟩ := rfl
  unfold bound_Input.l0
  simp only [e]
  rw [if_pos (by simp), if_pos (by decide), if_pos (by simp), first_odd tag ht n hn _ (by omega)]
  simp only [Option.bind_some]
  by_cases h : 64 < n
  · rw [if_pos (by simpa using h), hr, if_pos h]
  · rw [if_neg (by simpa using h), hr, if_neg h]
    unfold bound_Input.l0
    rw [if_neg (by simp [wrap64])]
theorem first_big (bytes : Int) (l : List S26) (k : Nat) (hb : bytes > 65536) : bound_Input.f k bytes l = some 3 := by
  unfold bound_Input.f
  rw [if_pos hb]
theorem first_none (bytes : Int) (k : Nat) (hb : ¬ bytes > 65536) : bound_Input.f (k + 1) bytes [] = some 4 := by
  unfold bound_Input.f
  rw [if_neg hb, if_pos (by decide)]
  simp only [bound_Input.j0]
  rw [if_pos trivial]
theorem first_awake : fleuronlaw23_awake.f 5 = some true := by decide +kernel
/-- The first of the two calls, whatever comes of it. -/
theorem first_call (a0 : Int) (r1 : Int) (n : Nat) (tag : ByteArray) (ht : tag.size ≤ 300) (hn : n ≤ 1000) (hr : (a0 > 65536 ∧ r1 = 3) ∨ (¬ a0 > 65536 ∧ r1 = if 64 < n then 4 else 0)) :
    bound_Input.f (n + 10) a0 [(⟨0, tag, (⟨#[]⟩ : ByteArray), List.replicate n z30⟩ : S26)] = some r1 := by
  rcases hr with ⟨h, rfl⟩ | ⟨h, rfl⟩
  · exact first_big _ _ _ h
  · exact first_input a0 tag ht n hn h
theorem first_call2 (a0 : Int) (r2 : Int) (hr : (a0 > 65536 ∧ r2 = 3) ∨ (¬ a0 > 65536 ∧ r2 = 4)) : bound_Input.f 5 a0 [] = some r2 := by
  rcases hr with ⟨h, rfl⟩ | ⟨h, rfl⟩
  · exact first_big _ _ _ h
  · exact first_none a0 4 h
theorem first_callw {W : World} {A : Option Addr} {c k : Nat} {a0 r : Int} {x : S26} (hC : Kd.C k26 W A [x].length [x]) (hL : [x].length ≤ c) (h : bound_Input.f k a0 [x] = some r) :
    Calls Try.prog 8 #[.int .i64 a0, .slice A 1 c] W fun e w' => e = .returned (.int .i64 r) ∧ Below W.heap.size W w' := bound_Input.calls k a0 A c [x] r W hC hL h
theorem first_callw0 {W : World} {k : Nat} {a0 r : Int} (h : bound_Input.f k a0 [] = some r) :
    Calls Try.prog 8 #[.int .i64 a0, .slice none 0 0] W fun e w' => e = .returned (.int .i64 r) ∧ Below W.heap.size W w' := bound_Input.calls k a0 none 0 [] r W (Kd.C_nil _ _) (Nat.le_refl _) h
theorem info30' : (Try.prog.info? 30).map (fun i => (i.zero, i.size, i.bytes)) = some (some (.agg #[.string ⟨#[]⟩, .string ⟨#[]⟩]), 2, 32) := by kernel_rfl

set_option maxHeartbeats 2000000 in
set_option maxRecDepth 100000 in
theorem first_out (a0 : Int) (a1 : ByteArray) (a2 : Int) (w : World) (h : a1.size > 300 ∨ (a1.size ≤ 300 ∧ a2 < 0) ∨ (a1.size ≤ 300 ∧ 0 ≤ a2 ∧ a2 > 100)) :
    Calls Try.prog 6 #[.int .i64 a0, .string a1, .int .i64 a2] w fun e w' => e = .returned (.bool true) ∧ Below w.heap.size w w' := by
  rcases h with h | ⟨h, h2⟩ | ⟨h, h2, h3⟩
  all_goals
    go_enter Try.func6, Try.ntmps6
    go_wp2_with (go_at_call 7; refine (fleuronlaw23_awake.calls 5 true _ first_awake rfl).mono ?_; rintro e w' ⟨rfl, hb⟩)
    go_ret
    exact ⟨rfl, hb⟩
theorem first_K {W : World} {base : Nat} {ok : Nat → Prop} (a1 : ByteArray) (n : Nat) {v : Value} (h : k30.R 30 W base ok v (List.replicate n z30)) :
    k26.M W base ok (⟨0, a1, (⟨#[]⟩ : ByteArray), List.replicate n z30⟩ : S26) [.int .i64 0, .string a1, .string (⟨#[]⟩ : ByteArray), v] := k26_mkM _ _ _ (⟨0, a1, (⟨#[]⟩ : ByteArray), List.replicate n z30⟩ : S26) h

set_option maxHeartbeats 2000000 in
set_option maxRecDepth 100000 in
theorem first_in (a0 : Int) (a1 : ByteArray) (n : Nat) (r1 r2 : Int) (w : World) (h1 : a1.size ≤ 300) (h2 : n ≤ 100)
    (hr1 : (a0 > 65536 ∧ r1 = 3) ∨ (¬ a0 > 65536 ∧ r1 = if 64 < n then 4 else 0)) (hr2 : (a0 > 65536 ∧ r2 = 3) ∨ (¬ a0 > 65536 ∧ r2 = 4)) :
    Calls Try.prog 6 #[.int .i64 a0, .string a1, .int .i64 n] w fun e w' => e = .returned (.bool true) ∧ Below w.heap.size w w' := by
  have HB := Aside0.mk (Below.refl w.heap.size w)
  have PA1 := Aside0.mk (first_call a0 r1 n a1 h1 (by omega) hr1)
  have PA2 := Aside0.mk (first_call2 a0 r2 hr2)
  have i1 : (a1.size : Int) ≤ 300 := by omega
  have i2 : (0 : Int) ≤ n := by omega
  have i3 : (n : Int) ≤ 100 := by omega
  have hu26 := Try.underlying26
  have hu30 := Try.underlying30
  by_cases hb0 : a0 > 65536
  · obtain rfl : r1 = 3 := by rcases hr1 with h | h; exact h.2; exact absurd hb0 h.1
    obtain rfl : r2 = 3 := by rcases hr2 with h | h; exact h.2; exact absurd hb0 h.1
    clear hr1 hr2
    go_enter Try.func6, Try.ntmps6
    go_wp2_with (first
      | ((with_reducible refine gate_dst (N := 24) rfl ?_); refine Kd.R_make k30 (w0 := w) w.heap.size 30 rfl (N := 24) rfl 24 (.tmp 23) (.tmp 23) rfl (n : Int) rfl rfl Try.underlying24 _ 32 info30' rfl (by decide) (by decide) z30 (ok := fun _ => True) (okp := fun _ => True) (k30_mkM _ _ _ z30) (fun _ h => h) trivial (by omega) (by omega) HB.out (Nat.le_refl _) ?_; intro v1 w1 ho hb hg hnew; clear hg hnew HB; simp only [Int.toNat_natCast] at ho; obtain ⟨AR, cR, er⟩ := Kd.R_slice ho; subst er; simp only [List.length_replicate] at *; have HO := Aside0.mk ho; have HB := Aside0.mk hb; clear ho hb)
      | ((with_reducible refine gate_dst (N := 28) rfl ?_); refine Kd.R_lit k26 (w0 := w) w.heap.size 26 ?hg (N := 28) ?hd (xs := [(⟨0, a1, (⟨#[]⟩ : ByteArray), List.replicate n z30⟩ : S26)]) (inner := [.int .i64 0, .string a1, .string (⟨#[]⟩ : ByteArray), .slice AR n cR]) (ok := fun _ => True) (okp := fun _ => True) ?hr ?hp (fun _ hk => hk) trivial ?hB ?hs (by simp) ?_; (case hd => rfl); (case hg => rfl); (case hr => first | (go_simp; done) | (go_simp; rfl)); (case hp => exact Reps.c4 (first_K a1 n (Kd.R_below HO.out (by repeat (first | exact Below.refl _ _ | apply below_alloc)))) (Reps.none _ _)); (case hB => exact below_alloc HB.out _); (case hs => exact (below_alloc HB.out _).size); intro v2 w2 ho2 hb2 hg2 hnew2; clear hg2 hnew2 HB; obtain ⟨A2, c2, e2⟩ := Kd.R_slice ho2; subst e2; have HO2 := Aside0.mk ho2; have HB := Aside0.mk hb2; clear ho2 hb2; have hle := (Kd.R_reads' HO2.out).2.1; have HC := Aside0.mk (Kd.R_reads' HO2.out).2.2; have HL := Aside0.mk hle; clear hle)
      | (go_at_call 8; (with_reducible refine (first_callw HC.out HL.out PA1.out).mono ?_); rintro e w3 ⟨rfl, hb3⟩; have HB3 := Aside0.mk (below_then HB.out HB.out.size hb3); clear HB hb3; have HB := HB3; clear HB3)
      | (go_at_call 8; (with_reducible refine (first_callw0 PA2.out).mono ?_); rintro e w3 ⟨rfl, hb3⟩; have HB3 := Aside0.mk (below_then HB.out HB.out.size hb3); clear HB hb3; have HB := HB3; clear HB3)
      | (go_at_call 7; refine (fleuronlaw23_awake.calls 5 true _ first_awake rfl).mono ?_; rintro e w3 ⟨rfl, hb3⟩; have HB3 := Aside0.mk (below_then HB.out HB.out.size hb3); clear HB hb3; have HB := HB3; clear HB3))
    go_ret
    exact ⟨rfl, HB.out⟩
  · obtain rfl : r2 = 4 := by rcases hr2 with h | h; exact absurd h.1 hb0; exact h.2
    by_cases hn : 64 < n
    · obtain rfl : r1 = 4 := by rcases hr1 with h | h; exact absurd h.1 hb0; rw [h.2, if_pos hn]
      have i4 : (64 : Int) < n := by omega
      clear hr1 hr2
      go_enter Try.func6, Try.ntmps6
      go_wp2_with (first
      | ((with_reducible refine gate_dst (N := 24) rfl ?_); refine Kd.R_make k30 (w0 := w) w.heap.size 30 rfl (N := 24) rfl 24 (.tmp 23) (.tmp 23) rfl (n : Int) rfl rfl Try.underlying24 _ 32 info30' rfl (by decide) (by decide) z30 (ok := fun _ => True) (okp := fun _ => True) (k30_mkM _ _ _ z30) (fun _ h => h) trivial (by omega) (by omega) HB.out (Nat.le_refl _) ?_; intro v1 w1 ho hb hg hnew; clear hg hnew HB; simp only [Int.toNat_natCast] at ho; obtain ⟨AR, cR, er⟩ := Kd.R_slice ho; subst er; simp only [List.length_replicate] at *; have HO := Aside0.mk ho; have HB := Aside0.mk hb; clear ho hb)
      | ((with_reducible refine gate_dst (N := 28) rfl ?_); refine Kd.R_lit k26 (w0 := w) w.heap.size 26 ?hg (N := 28) ?hd (xs := [(⟨0, a1, (⟨#[]⟩ : ByteArray), List.replicate n z30⟩ : S26)]) (inner := [.int .i64 0, .string a1, .string (⟨#[]⟩ : ByteArray), .slice AR n cR]) (ok := fun _ => True) (okp := fun _ => True) ?hr ?hp (fun _ hk => hk) trivial ?hB ?hs (by simp) ?_; (case hd => rfl); (case hg => rfl); (case hr => first | (go_simp; done) | (go_simp; rfl)); (case hp => exact Reps.c4 (first_K a1 n (Kd.R_below HO.out (by repeat (first | exact Below.refl _ _ | apply below_alloc)))) (Reps.none _ _)); (case hB => exact below_alloc HB.out _); (case hs => exact (below_alloc HB.out _).size); intro v2 w2 ho2 hb2 hg2 hnew2; clear hg2 hnew2 HB; obtain ⟨A2, c2, e2⟩ := Kd.R_slice ho2; subst e2; have HO2 := Aside0.mk ho2; have HB := Aside0.mk hb2; clear ho2 hb2; have hle := (Kd.R_reads' HO2.out).2.1; have HC := Aside0.mk (Kd.R_reads' HO2.out).2.2; have HL := Aside0.mk hle; clear hle)
      | (go_at_call 8; (with_reducible refine (first_callw HC.out HL.out PA1.out).mono ?_); rintro e w3 ⟨rfl, hb3⟩; have HB3 := Aside0.mk (below_then HB.out HB.out.size hb3); clear HB hb3; have HB := HB3; clear HB3)
      | (go_at_call 8; (with_reducible refine (first_callw0 PA2.out).mono ?_); rintro e w3 ⟨rfl, hb3⟩; have HB3 := Aside0.mk (below_then HB.out HB.out.size hb3); clear HB hb3; have HB := HB3; clear HB3)
      | (go_at_call 7; refine (fleuronlaw23_awake.calls 5 true _ first_awake rfl).mono ?_; rintro e w3 ⟨rfl, hb3⟩; have HB3 := Aside0.mk (below_then HB.out HB.out.size hb3); clear HB hb3; have HB := HB3; clear HB3))
      go_ret
      exact ⟨congrArg (fun b => Ending.returned (Value.bool b)) (by simp; omega), HB.out⟩
    · obtain rfl : r1 = 0 := by rcases hr1 with h | h; exact absurd h.1 hb0; rw [h.2, if_neg hn]
      have i4 : (n : Int) ≤ 64 := by omega
      clear hr1 hr2
      go_enter Try.func6, Try.ntmps6
      go_wp2_with (first
      | ((with_reducible refine gate_dst (N := 24) rfl ?_); refine Kd.R_make k30 (w0 := w) w.heap.size 30 rfl (N := 24) rfl 24 (.tmp 23) (.tmp 23) rfl (n : Int) rfl rfl Try.underlying24 _ 32 info30' rfl (by decide) (by decide) z30 (ok := fun _ => True) (okp := fun _ => True) (k30_mkM _ _ _ z30) (fun _ h => h) trivial (by omega) (by omega) HB.out (Nat.le_refl _) ?_; intro v1 w1 ho hb hg hnew; clear hg hnew HB; simp only [Int.toNat_natCast] at ho; obtain ⟨AR, cR, er⟩ := Kd.R_slice ho; subst er; simp only [List.length_replicate] at *; have HO := Aside0.mk ho; have HB := Aside0.mk hb; clear ho hb)
      | ((with_reducible refine gate_dst (N := 28) rfl ?_); refine Kd.R_lit k26 (w0 := w) w.heap.size 26 ?hg (N := 28) ?hd (xs := [(⟨0, a1, (⟨#[]⟩ : ByteArray), List.replicate n z30⟩ : S26)]) (inner := [.int .i64 0, .string a1, .string (⟨#[]⟩ : ByteArray), .slice AR n cR]) (ok := fun _ => True) (okp := fun _ => True) ?hr ?hp (fun _ hk => hk) trivial ?hB ?hs (by simp) ?_; (case hd => rfl); (case hg => rfl); (case hr => first | (go_simp; done) | (go_simp; rfl)); (case hp => exact Reps.c4 (first_K a1 n (Kd.R_below HO.out (by repeat (first | exact Below.refl _ _ | apply below_alloc)))) (Reps.none _ _)); (case hB => exact below_alloc HB.out _); (case hs => exact (below_alloc HB.out _).size); intro v2 w2 ho2 hb2 hg2 hnew2; clear hg2 hnew2 HB; obtain ⟨A2, c2, e2⟩ := Kd.R_slice ho2; subst e2; have HO2 := Aside0.mk ho2; have HB := Aside0.mk hb2; clear ho2 hb2; have hle := (Kd.R_reads' HO2.out).2.1; have HC := Aside0.mk (Kd.R_reads' HO2.out).2.2; have HL := Aside0.mk hle; clear hle)
      | (go_at_call 8; (with_reducible refine (first_callw HC.out HL.out PA1.out).mono ?_); rintro e w3 ⟨rfl, hb3⟩; have HB3 := Aside0.mk (below_then HB.out HB.out.size hb3); clear HB hb3; have HB := HB3; clear HB3)
      | (go_at_call 8; (with_reducible refine (first_callw0 PA2.out).mono ?_); rintro e w3 ⟨rfl, hb3⟩; have HB3 := Aside0.mk (below_then HB.out HB.out.size hb3); clear HB hb3; have HB := HB3; clear HB3)
      | (go_at_call 7; refine (fleuronlaw23_awake.calls 5 true _ first_awake rfl).mono ?_; rintro e w3 ⟨rfl, hb3⟩; have HB3 := Aside0.mk (below_then HB.out HB.out.size hb3); clear HB hb3; have HB := HB3; clear HB3))
      go_ret
      exact ⟨rfl, HB.out⟩

def fleuronlaw23_BoundFirst.f (a0 : Int) (a1 : ByteArray) (a2 : Int) : Option Bool := some true
theorem fleuronlaw23_BoundFirst.calls (a0 : Int) (a1 : ByteArray) (a2 : Int) (r : Bool) (w : World) (h : fleuronlaw23_BoundFirst.f a0 a1 a2 = some r) (ht0_ : r = true) :
    Calls Try.prog 6 #[.int .i64 a0, .string a1, .int .i64 a2] w fun e w' => e = .returned (.bool r) ∧ Below w.heap.size w w' := by
  subst ht0_
  by_cases h1 : a1.size ≤ 300
  · by_cases h2 : 0 ≤ a2
    · by_cases h3 : a2 ≤ 100
      · obtain ⟨n, rfl⟩ := Int.eq_ofNat_of_zero_le h2
        by_cases hb : a0 > 65536
        · exact first_in a0 a1 n 3 3 w h1 (by omega) (.inl ⟨hb, rfl⟩) (.inl ⟨hb, rfl⟩)
        · exact first_in a0 a1 n _ 4 w h1 (by omega) (.inr ⟨hb, rfl⟩) (.inr ⟨hb, rfl⟩)
      · exact first_out a0 a1 a2 w (.inr (.inr ⟨h1, h2, by omega⟩))
    · exact first_out a0 a1 a2 w (.inr (.inl ⟨h1, by omega⟩))
  · exact first_out a0 a1 a2 w (.inl (by omega))
end

/-- THE ONE PURE STATEMENT of fleuronlaw23_BoundFirst: yours. -/
def fleuronlaw23_BoundFirst.Pure : Prop := ∀ (a0 : Int) (a1 : ByteArray) (a2 : Int), (Lit.int .i64 a0).wf = true → a1.size ≤ 140737488351232 → (Lit.int .i64 a2).wf = true → fleuronlaw23_BoundFirst.f a0 a1 a2 = some true
theorem fleuronlaw23_BoundFirst.walk (P : fleuronlaw23_BoundFirst.Pure) (a0 : Int) (a1 : ByteArray) (a2 : Int) (w : World) (w0 : (Lit.int .i64 a0).wf = true) (w1 : a1.size ≤ 140737488351232) (w2 : (Lit.int .i64 a2).wf = true) :
    Calls Try.prog 6 #[.int .i64 a0, .string a1, .int .i64 a2] w fun e w' => e = .returned (.bool true) ∧ Below w.heap.size w w' := by
  have h := P a0 a1 a2 w0 w1 w2
  refine (fleuronlaw23_BoundFirst.calls a0 a1 a2 true w h rfl).mono ?_
  rintro e w' ⟨rfl, hd⟩
  exact ⟨rfl, hd⟩

end Go.Proofs.Ytmadmnbaefifiaa.Print
