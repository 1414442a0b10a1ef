/- Written by a program of this session out of the translation, with contracts given by hand beside. -/
import Derived.Test.YtalegejfellbdaaPrint0
namespace Go.Proofs.Ytalegejfellbdaa.Print
open Go.RowKit Go.Proofs.YtalegejfellbdaaW.PrintWords Go.Proofs.YtalegejfellbdaaW.PrintLast Go.Proofs.YtalegejfellbdaaW.PrintMore
attribute [local go_sem] max2_int min2_int max_two min_two max_three min_three max_four min_four   -- for this text's walks alone
set_option linter.unusedVariables false
set_option linter.unusedSimpArgs false

-- GIVEN BY HAND
/-! ### slices_Backward_int_int: function 34 -/
section
open Go.Shelf
attribute [local go_sem] Oper.semAt_some

/-- The places n - 1, n - 2, .., m. -/
def downTo (n m : Nat) : List Nat := (List.range' m (n - m)).reverse
theorem downTo_succ {n k : Nat} (h : k + 1 ≤ n) : downTo n k = downTo n (k + 1) ++ [k] := by
  unfold downTo
  rw [show n - k = (n - (k + 1)) + 1 from by omega, List.range'_succ]
  simp
theorem downTo_self (n : Nat) : downTo n n = [] := by simp [downTo]
theorem downTo_length (n m : Nat) : (downTo n m).length = n - m := by simp [downTo]
theorem mem_downTo {n m j : Nat} : j ∈ downTo n m ↔ m ≤ j ∧ j < n := by
  simp only [downTo, List.mem_reverse, List.mem_range'_1]; omega
/-- A block of cells abides the turn of what is no cells. -/
theorem blk_own {β : Type} (B : Nat) (t : TypeId) (f : β → Array Value) : Own (fun s W => W.heap[B]? = some (.cells (f s) t (0, 0))) := fun s X Y row hs hg hrow =>
  (grownBy_keeps_cells hg hrow hs rfl).trans hs

/-- What a round that goes on keeps: all that lay ahead of the call, and the box of the slice. -/
def BKp (n0 Bs : Nat) (W W' : World) : Prop := Below n0 W W' ∧ W'.cell? ⟨Bs, 0, none⟩ = W.cell? ⟨Bs, 0, none⟩
theorem bkp_t {n0 Bs : Nat} {A B C : World} (h1 : BKp n0 Bs A B) (h2 : BKp n0 Bs B C) : BKp n0 Bs A C := ⟨h1.1.trans h2.1, h2.2.trans h1.2⟩
theorem bkp_b {n0 Bs : Nat} {w : World} (h0 : n0 ≤ w.heap.size) (hb : Bs < w.heap.size) (W : World) (l : Nat) (o o' : Obj) (hl : w.heap.size ≤ l) (ho : W.heap[l]? = some o) (hc : o.isCells = false) (hk : o.isWalk = false) : BKp n0 Bs W (W.putObj l o') := by
  have h1 : Below (Bs + 1) W (W.putObj l o') := belowK_b (w := w) (by omega) W l o o' hl ho hc hk
  exact ⟨belowK_b (w := w) h0 W l o o' hl ho hc hk, h1.cell (p := ⟨Bs, 0, none⟩) (by simp)⟩
/-- A place of a list. -/
abbrev PlaceOf (n : Nat) := { j : Nat // j < n }
def backEnc (xs : List Int) (x : PlaceOf xs.length) : Array Value := #[.int .i64 (x.1 : Int), .int .i64 (rd xs (x.1 : Int))]

set_option maxRecDepth 100000 in
set_option maxHeartbeats 2000000 in
/-- slices.Backward's closure: for every loop body that keeps what lay ahead, and the box. -/
theorem back1_in (F : Fence) (n : Nat) (h31 : F.fn 45) (hro : F.round = none) (hn : 1 ≤ n) (l Bs : Nat) (A : Option Addr) (c : Nat) (xs : List Int) (w0 : World) (HC : Aside0 (Kd.C (Kd.int .i64) w0 A xs.length xs)) (J Jx : List (PlaceOf xs.length) → World → Prop)
    (hY : ∀ pre x W, J pre W → pre.length < xs.length → YieldAt F (n - 1) Try.prog l (backEnc xs x) W fun e W' =>
      (e = .returned (.bool true) ∧ J (pre ++ [x]) W' ∧ BKp w0.heap.size Bs W W') ∨ (e = .returned (.bool false) ∧ Jx (pre ++ [x]) W'))
    (W : World) (hW : Below w0.heap.size w0 W) (hBs : W.cell? ⟨Bs, 0, none⟩ = some (.slice A xs.length c)) (h0 : J [] W) :
    CallsIn F n Try.prog 45 #[.func (.yield l) #[] #[], .pointer (some ⟨Bs, 0, none⟩)] W fun e W' => (∃ v, e = .returned v) ∧
      ((∃ ys, ys.map (fun j : PlaceOf xs.length => j.1) = downTo xs.length 0 ∧ J ys W') ∨ (∃ pre, (∃ m, m ≤ xs.length ∧ pre.map (fun j : PlaceOf xs.length => j.1) = downTo xs.length m) ∧ Jx pre W')) := by
  have hm : xs.length ≤ 9223372036854775807 := HC.out.2.1
  refine callsIn_of_wp Try.func45 rfl h31 ?_ hro
  simp only [Try.ntmps45, List.size_toArray, List.length_cons, List.length_nil, Nat.reduceAdd, Nat.reduceSub, Array.replicate_succ, Array.replicate_zero, List.push_toArray, List.append_toArray, List.nil_append, List.cons_append]
  gi_wp2
  gi_loopw [3] (fun i wr => ∃ (m : Nat) (pre : List (PlaceOf xs.length)), m ≤ xs.length ∧ i = .int .i64 ((m : Int) - 1) ∧ pre.map (fun j => j.1) = downTo xs.length m ∧ J pre wr ∧ Below w0.heap.size w0 wr ∧ wr.cell? ⟨Bs, 0, none⟩ = some (.slice A xs.length c))
    (fun i _ => (intOf i + 1).toNat)
  case atStart => exact ⟨xs.length, [], Nat.le_refl _, by first | rfl | simp, by rw [downTo_self]; rfl, h0, hW, hBs⟩
  case round =>
    obtain ⟨m, pre, hk, rfl, hpre, hJs, hnx, hbx⟩ := hrel
    have HPRE := Aside0.mk hpre
    clear hpre
    cases m with
    | zero =>
      gi_wp2
      go_end0
      exact ⟨⟨_, rfl⟩, .inl ⟨_, HPRE.out, hJs⟩⟩
    | succ k =>
      obtain ⟨fn, tmps, assign, body, hy, hR⟩ := hY pre ⟨k, by omega⟩ wr hJs (by have := congrArg List.length HPRE.out; rw [List.length_map, downTo_length] at this; omega)
      have e1 : ((k + 1 : Nat) : Int) - 1 = (k : Int) := by omega
      rw [e1]
      clear e1
      obtain ⟨ad, rfl, hx0⟩ := Kd.at_int HC.out (k : Int) (by omega) (by omega)
      replace hx0 := (hnx.cell (World.block_lt_of_cell? w0 _ hx0)).trans hx0
      simp only [Int.toNat_natCast] at hx0
      unfold backEnc at hy
      gi_wp2
      refine hR.mono ?_
      rintro e W3 (⟨rfl, hJ3, hk3⟩ | ⟨rfl, hJx3⟩)
      · -- the round goes on
        gi_wp2
        go_roundw
        case rel => exact ⟨k, _, by omega, rfl, by rw [downTo_succ (by omega), ← HPRE.out, List.map_append]; rfl, hJ3, hnx.trans hk3.1, hk3.2.trans hbx⟩
        case measure => simp [intOf]
      · gi_wp2
        refine bodyPost_ret (results_none rfl _ _ _) rfl ?_
        exact ⟨⟨_, rfl⟩, .inr ⟨_, ⟨k, by omega, by rw [downTo_succ (by omega), ← HPRE.out, List.map_append]; rfl⟩, hJx3⟩⟩

set_option maxHeartbeats 1000000 in
/-- slices.Backward(s): the slice value is boxed; the function value captures the box. -/
theorem back_in (F : Fence) (n : Nat) (h27 : F.fn 34) (hro : F.round = none) (a : Option Addr) (len cap : Nat) (w : World) :
    CallsIn F n Try.prog 34 #[.slice a len cap] w fun e w' => e = .returned (.func (.func 45) #[] #[.pointer (some ⟨w.heap.size, 0, none⟩)]) ∧ w' = w.alloc (.cells #[.slice a len cap] 23) := by
  refine callsIn_of_wp Try.func34 rfl h27 ?_ hro
  simp only [Try.ntmps34, List.size_toArray, List.length_cons, List.length_nil, Nat.reduceAdd, Nat.reduceSub, Array.replicate_succ, Array.replicate_zero, List.push_toArray, List.append_toArray, List.nil_append, List.cons_append]
  gi_wp2
  go_ret
  exact ⟨rfl, rfl⟩

/-- slices.Backward(s) hands back a value that yields the places from the last one on: all, or as many as came. -/
theorem back_stops (F : Fence) (n : Nat) (h31 : F.fn 45) (hro : F.round = none) (hn : 1 ≤ n) (Bs : Nat) (A : Option Addr) (c : Nat) (xs : List Int) (w0 : World) (HC : Aside0 (Kd.C (Kd.int .i64) w0 A xs.length xs)) (w : World) (hw : Below w0.heap.size w0 w) (hBs : Bs < w.heap.size)
    (hc : w.cell? ⟨Bs, 0, none⟩ = some (.slice A xs.length c)) :
    SeqStopsK F n Try.prog 45 #[.pointer (some ⟨Bs, 0, none⟩)] (backEnc xs) (BKp w0.heap.size Bs) (fun ys => ys.map (fun j : PlaceOf xs.length => j.1) = downTo xs.length 0)
      (fun pre => ∃ m, m ≤ xs.length ∧ pre.map (fun j : PlaceOf xs.length => j.1) = downTo xs.length m) xs.length w := fun l J Jx W hW _ _ hY h0 =>
  back1_in F n h31 hro hn l Bs A c xs w0 HC J Jx hY W (hw.trans (hW.mono hw.size)) ((hW.cell (p := ⟨Bs, 0, none⟩) hBs).trans hc) h0

/-- A builder abides the turn of what is no cells. -/
theorem builder_own {β : Type} (T e : TypeId) (B b : Nat) (f : β → List Value) : Own (fun s W => Lib.IsBuilderF T e B b (f s) W) := by
  have key : ∀ (p : Value) (bs : List Value) (X Y : World) (row : Option Nat), Lib.BuilderAtF T e B b p bs X → X.grownBy Y row → (∀ r, row = some r → ∃ o : Obj, X.heap[r]? = some o ∧ o.isCells = false) → Lib.BuilderAtF T e B b p bs Y := by
    rintro p bs X Y row ⟨hB, v, hb, hown, hne⟩ hg hrow
    refine ⟨hB, v, (grownBy_keeps_cells hg hrow hb rfl).trans hb, hown.kept hg ?_, hne⟩
    cases ho : v.ownBlock with
    | none => exact .inl rfl
    | some g =>
      refine .inr fun he => ?_
      obtain ⟨c, fz, hc⟩ := Lib.ownsRowF_kind hown g ho
      obtain ⟨o, ho', hno⟩ := hrow g he.symm
      rw [hc] at ho'
      cases ho'
      cases hno
  intro s X Y row hs hg hrow
  exact hs.elim (fun h => .inl (key _ _ X Y row h hg hrow)) (fun h => .inr (key _ _ X Y row h hg hrow))
/-- What the builder's writers keep: whatever is no cells. -/
theorem othersKept_keeps {e : TypeId} {T : TypeId} {B b : Nat} {bs : List Value} {X Y : World} (hs : X.heap.size ≤ Y.heap.size) (hb : Lib.IsBuilderF T e B b bs X) (h : Lib.OthersKept e (some b) X Y) : KeepsOthers X Y := by
  have hbc : ∃ cs, X.heap[b]? = some (.cells cs T (0, 0)) := by
    rcases hb with ⟨_, v, hb, _⟩ | ⟨_, v, hb, _⟩ <;> exact ⟨_, hb⟩
  obtain ⟨cs, hbc⟩ := hbc
  refine ⟨hs, fun k o hk ho => h k o hk (fun e => ?_) (fun c fz e => ?_)⟩
  · obtain rfl := Option.some.inj e
    rw [hbc] at hk
    cases hk
    cases ho
  · rw [e] at ho
    cases ho
end

end Go.Proofs.Ytalegejfellbdaa.Print
