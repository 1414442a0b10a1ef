/- Written by a program of this session out of the translation, with contracts given by hand beside. -/
import Derived.Test.YtejkbdlegnobcaaPrint0
import Derived.Test.YtejkbdlegnobcaaPrint3
namespace Go.Proofs.Ytejkbdlegnobcaa.Print
open Go.RowKit Go.Proofs.YtejkbdlegnobcaaW.PrintWords Go.Proofs.YtejkbdlegnobcaaW.PrintLast Go.Proofs.YtejkbdlegnobcaaW.PrintMore
attribute [local go_sem] max2_int min2_int max_two min_two max_three min_three max_four min_four   -- for this text's walks alone
set_option linter.unusedVariables false
set_option linter.unusedSimpArgs false

-- GIVEN BY HAND
/-! ### scope_inner: function 21 -/
section
open Go.Shelf
attribute [local go_sem] Oper.semAt_some

/-- The last place below k whose counter has the name; none: -1. -/
def innerAt (name : ByteArray) (l : List S38) : Nat → Int
  | 0 => -1
  | k + 1 => if (rd_T38 l (k : Int)).f0.toList = name.toList then (k : Int) else innerAt name l k
theorem innerAt_none (name : ByteArray) (l : List S38) : ∀ n : Nat, (∀ j, j < n → ¬ (rd_T38 l ((j : Nat) : Int)).f0.toList = name.toList) → innerAt name l n = -1
  | 0, _ => rfl
  | n + 1, h => by rw [innerAt, if_neg (h n (by omega))]; exact innerAt_none name l n (fun j hj => h j (by omega))
theorem innerAt_some (name : ByteArray) (l : List S38) (m : Nat) (hm : (rd_T38 l (m : Int)).f0.toList = name.toList) : ∀ n : Nat, m < n → (∀ j, m < j → j < n → ¬ (rd_T38 l ((j : Nat) : Int)).f0.toList = name.toList) → innerAt name l n = m
  | n + 1, hn, h => by
    by_cases e : m = n
    · subst e; rw [innerAt, if_pos hm]
    · rw [innerAt, if_neg (h n (by omega) (by omega))]; exact innerAt_some name l m hm n (by omega) (fun j h1 h2 => h j h1 (by omega))
def scope_inner.f (l0 : List S38) (a1 : ByteArray) : Option Int := some (innerAt a1 l0 l0.length)

set_option maxRecDepth 100000 in
set_option maxHeartbeats 2000000 in
theorem inner_in (F : Fence) (n : Nat) (h21 : F.fn 21) (h27 : F.fn 27) (h31 : F.fn 31) (hro : F.round = none) (hn : 3 ≤ n) (A : Option Addr) (c : Nat) (xs : List S38) (name : ByteArray) (w : World) (HC : Aside0 (Kd.C k38 w A xs.length xs)) :
    CallsIn F n Try.prog 21 #[.slice A xs.length c, .string name] w fun e w' => e = .returned (.int .i64 (innerAt name xs xs.length)) ∧ Below w.heap.size w w' := by
  have h1 : 1 ≤ n := by omega
  refine callsIn_of_wp_marks Try.func21 rfl h21 ?_ hro
  simp only [Try.ntmps21, List.size_toArray, List.length_cons, List.length_nil, Nat.reduceAdd, Nat.reduceSub, Array.replicate_succ, Array.replicate_zero, List.push_toArray, List.append_toArray, List.nil_append, List.cons_append]
  gi_wp2_with (gi_at_call 27; refine (back_in F (n - 1) h27 hro _ _ _ _).mono ?_; rintro e w' ⟨rfl, rfl⟩)
  have bN := ((Boxed.new w 9 (.string name)).alloc (.cells #[.int .i64 0] 3)).alloc (.cells #[.slice A xs.length c] 25)
  have bR := (Boxed.new (w.alloc (.cells #[.string name] 9)) 3 (.int .i64 0)).alloc (.cells #[.slice A xs.length c] 25)
  have bS := Boxed.new ((w.alloc (.cells #[.string name] 9)).alloc (.cells #[.int .i64 0] 3)) 25 (.slice A xs.length c)
  simp only [World.size_alloc] at bR bS
  have hB0 : Below w.heap.size w (((w.alloc (.cells #[.string name] 9)).alloc (.cells #[.int .i64 0] 3)).alloc (.cells #[.slice A xs.length c] 25)) := (((Below.refl _ w).alloc (Nat.le_refl _) _).alloc (by simp) _).alloc (by simp; omega) _
  have hsz : (((w.alloc (.cells #[.string name] 9)).alloc (.cells #[.int .i64 0] 3)).alloc (.cells #[.slice A xs.length c] 25)).heap.size = w.heap.size + 3 := by simp
  obtain ⟨W0, hW0⟩ : ∃ W0, ((w.alloc (.cells #[.string name] 9)).alloc (.cells #[.int .i64 0] 3)).alloc (.cells #[.slice A xs.length c] 25) = W0 := ⟨_, rfl⟩
  rw [hW0] at bN bR bS hB0 hsz ⊢
  clear hW0
  refine wpIn_rangeFunc_ownH hro h1 (gf := 31) (lb := #[.pointer (some ⟨w.heap.size + 1 + 1, 0, none⟩)]) rfl h31 (enters_of Try.func31 (by kernel_rfl) rfl)
    (back_stops F (n - 1) h31 hro (by omega) (w.heap.size + 1 + 1) A c xs w HC W0 hB0 (by omega) bS.cell) bkp_t (bkp_b (by omega) (by omega)) (Below.refl _ _) (fun _ => rfl)
    (fun pre W => ((∀ j ∈ pre, ¬ (rd_T38 xs ((j : Nat) : Int)).f0.toList = name.toList) ∧ ((Boxed W (w.heap.size + 1) 3 (.int .i64 0) ∧ Boxed W w.heap.size 9 (.string name)) ∧ Boxed W (w.heap.size + 1 + 1) 25 (.slice A xs.length c))) ∧ Below w.heap.size w W)
    (fun c pre W => ((c = .ret ∧ ∃ ini last, pre = ini ++ [last] ∧ (∀ j ∈ ini, ¬ (rd_T38 xs ((j : Nat) : Int)).f0.toList = name.toList) ∧ (rd_T38 xs ((last : Nat) : Int)).f0.toList = name.toList) ∧ (∃ last : Nat, pre.getLast? = some last ∧ Boxed W (w.heap.size + 1) 3 (.int .i64 last))) ∧ Below w.heap.size w W)
    (OwnFrom.and (OwnFrom.and (ownFrom_pure _ _) (OwnFrom.and (OwnFrom.and (Own.from (boxed_own _ _ _) _) (Own.from (boxed_own _ _ _) _)) (Own.from (boxed_own _ _ _) _))) (ownFrom_below (Nat.le_refl _) (by omega)))
    (fun c => OwnFrom.and (OwnFrom.and (ownFrom_pure _ _) (fun s X Y row hs hg hr => by obtain ⟨last, h2, h3⟩ := hs; exact ⟨last, h2, boxed_own _ 3 (fun (_ : Unit) => Value.int .i64 (last : Int)) () X Y row h3 hg (fun r e => (hr r e).2)⟩)) (ownFrom_below (Nat.le_refl _) (by omega)))
    ⟨⟨by simp, ⟨bR, bN⟩, bS⟩, hB0⟩
    (fun x a' W => ∃ Bx, w.heap.size + 1 < Bx ∧ W.heap[Bx]? = some (.cells #[.string (rd_T38 xs (x : Int)).f0, .int .i64 (rd_T38 xs (x : Int)).f1, .int .i64 (rd_T38 xs (x : Int)).f2, .bool (rd_T38 xs (x : Int)).f3] 38 (0, 0)) ∧ a' = { tmps := #[.slice A xs.length c, .string name, undef, .pointer (some ⟨w.heap.size, 0, none⟩), .pointer (some ⟨w.heap.size + 1, 0, none⟩), .int .i64 (x : Int), .pointer (some ⟨Bx, 0, none⟩), .slice A xs.length c, .func (.func 31) #[] #[.pointer (some ⟨w.heap.size + 1 + 1, 0, none⟩)], .int .i64 (x : Int), .agg #[.string (rd_T38 xs (x : Int)).f0, .int .i64 (rd_T38 xs (x : Int)).f1, .int .i64 (rd_T38 xs (x : Int)).f2, .bool (rd_T38 xs (x : Int)).f3], undef, undef, undef, undef, undef], defers := [] })
    (fun x a' _ X Y row hs hg hr => by obtain ⟨Bx, h1, h2, h3⟩ := hs; exact ⟨Bx, h1, blk_own Bx 38 (fun (_ : Unit) => #[.string (rd_T38 xs (x : Int)).f0, .int .i64 (rd_T38 xs (x : Int)).f1, .int .i64 (rd_T38 xs (x : Int)).f2, .bool (rd_T38 xs (x : Int)).f3]) () X Y row h2 hg (fun r e => (hr r e).2), h3⟩)
    ?assign ?body ?done ?stop
  case assign =>
    rintro l pre x W K ⟨⟨hp, ⟨bR1, bN1⟩, bS1⟩, hB1⟩ hK
    unfold backEnc
    gi_wp2
    exact hK _ _ ((KeepsOthers.alloc _ _).from _) ⟨(Below.refl _ W).alloc hB1.size _, (bS1.alloc _).cell.trans bS1.cell.symm⟩ ⟨⟨hp, ⟨bR1.alloc _, bN1.alloc _⟩, bS1.alloc _⟩, hB1.alloc hB1.size _⟩ ⟨W.heap.size, bR1.lt, World.alloc_heap_new W _, rfl⟩
  case body =>
    rintro l pre x a' W hl ⟨rr, hr⟩ ⟨⟨hp, ⟨bR1, bN1⟩, bS1⟩, hB1⟩ ⟨Bx, hBx, bX, rfl⟩ hlt
    have cX : W.cell? ⟨Bx, 0, none⟩ = some (.string (rd_T38 xs (x : Int)).f0) := by simp [World.cell?, bX]
    have cN := bN1.cell
    have cR := bR1.cell
    have fR := bR1.frozen
    clear hr
    by_cases hx : (rd_T38 xs (x : Int)).f0.toList = name.toList
    · have hb : ((rd_T38 xs (x : Int)).f0.toList == name.toList) = true := beq_iff_eq.mpr hx
      have HX := Aside0.mk hx
      clear hx
      gi_wp2
      exact ⟨(KeepsOthers.setCell _ _ _).from _, ⟨⟨rfl, pre, x, rfl, hp, HX.out⟩, x, by simp, bR1.set _⟩, hB1.setCell (p := ⟨w.heap.size + 1, 0, none⟩) (by simp) _⟩
    · have hb : ((rd_T38 xs (x : Int)).f0.toList == name.toList) = false := beq_eq_false_iff_ne.mpr hx
      have HX := Aside0.mk hx
      clear hx
      gi_wp2
      exact ⟨KeepsFrom.refl _ _, ⟨Below.refl _ _, rfl⟩, ⟨fun j hj => (List.mem_append.1 hj).elim (hp j) (fun e => by simp at e; subst e; exact HX.out), ⟨bR1, bN1⟩, bS1⟩, hB1⟩
  case done =>
    rintro D ys W hD rfl ⟨⟨hp, ⟨bR1, bN1⟩, bS1⟩, hB1⟩ hK
    have cR := bR1.cell
    have fR := bR1.frozen
    have hv : innerAt name xs xs.length = -1 := innerAt_none name xs xs.length (fun j hj => hp j (mem_downTo.2 ⟨by omega, hj⟩))
    have HV := Aside0.mk hv
    clear hv
    gi_wp2
    have hK' := (KeepsOthers.setCell W ⟨w.heap.size + 1, 0, none⟩ (.int .i64 (-1))).same D _ hK rfl
    refine ⟨by simp, .inl ⟨_, _, rfl, run_takeDeferred hK', ?_⟩⟩
    have hc5 := cell_kept (bR1.set (.int .i64 (-1))).cell (grownBy_putObj' _ D (.deferred none)) (fun r e => by cases e; exact ⟨_, hK', rfl⟩)
    refine ⟨.int .i64 (-1), ?_, by rw [HV.out], (hB1.setCell (p := ⟨w.heap.size + 1, 0, none⟩) (by simp) _).trans (belowK_b (w := w) (Nat.le_refl _) _ D _ _ (by omega) hK' rfl rfl)⟩
    simp [results, Try.f21, go_sem, hc5]
  case stop =>
    rintro D c' pre W hD ⟨m, hm, rfl⟩ ⟨⟨⟨rfl, ini, last, e1, e2, e3⟩, last', e4, bR1⟩, hB1⟩ hK
    rw [e1, List.getLast?_concat] at e4
    obtain rfl : last = last' := Option.some.inj e4
    have hlt : m < xs.length := by
      rcases Nat.lt_or_ge m xs.length with h | h
      · exact h
      · obtain rfl : m = xs.length := by omega
        rw [downTo_self] at e1
        exact absurd (congrArg List.length e1) (by simp)
    rw [downTo_succ hlt] at e1
    obtain ⟨rfl, e5⟩ := List.append_inj' e1 rfl
    obtain rfl : m = last := by simpa using e5
    have hv : innerAt name xs xs.length = m := innerAt_some name xs m e3 xs.length hlt (fun j h1 h2 => e2 j (mem_downTo.2 ⟨by omega, h2⟩))
    have HV := Aside0.mk hv
    have cR := bR1.cell
    clear hv e3 e4 e5 e1
    gi_wp2
    refine ⟨by simp, .inl ⟨_, _, rfl, run_takeDeferred hK, ?_⟩⟩
    have hc5 := cell_kept bR1.cell (grownBy_putObj' _ D (.deferred none)) (fun r e => by cases e; exact ⟨_, hK, rfl⟩)
    refine ⟨.int .i64 (m : Int), ?_, by rw [HV.out], hB1.trans (belowK_b (w := w) (Nat.le_refl _) _ D _ _ (by omega) hK rfl rfl)⟩
    simp [results, Try.f21, go_sem, hc5]

theorem scope_inner.calls (A0 : Option Addr) (c0 : Nat) (l0 : List (S38)) (a1 : ByteArray) (r : Int) (w : World) (hr0 : Kd.C k38 w A0 l0.length l0) (hc0 : l0.length ≤ c0) (h : scope_inner.f l0 a1 = some r) :
    Calls Try.prog 21 #[.slice A0 l0.length c0, .string a1] w fun e w' => e = .returned (.int .i64 r) ∧ Below w.heap.size w w' := by
  obtain rfl : innerAt a1 l0 l0.length = r := Option.some.inj h
  exact (callsIn_wide (n := 3)).1 (inner_in Fence.wide 3 trivial trivial trivial rfl (by omega) A0 c0 l0 a1 w ⟨hr0⟩)
end

end Go.Proofs.Ytejkbdlegnobcaa.Print
