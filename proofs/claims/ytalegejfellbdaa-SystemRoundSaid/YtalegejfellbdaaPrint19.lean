/- Written by a program of this session out of the translation, with contracts given by hand beside. -/
import Derived.Test.YtalegejfellbdaaPrint0
import Derived.Test.YtalegejfellbdaaPrint1
import Derived.Test.YtalegejfellbdaaPrint5
import Derived.Test.YtalegejfellbdaaPrint6
import Derived.Test.YtalegejfellbdaaPrint11
import Derived.Test.YtalegejfellbdaaPrint15
import Derived.Test.YtalegejfellbdaaPrint18
namespace Go.Proofs.Ytalegejfellbdaa.Print
open Go.RowKit Go.Proofs.YtalegejfellbdaaW.PrintWords Go.Proofs.YtalegejfellbdaaW.PrintLast Go.Proofs.YtalegejfellbdaaW.PrintMore
attribute [local go_sem] max2_int min2_int max_two min_two max_three min_three max_four min_four   -- for this text's walks alone
set_option linter.unusedVariables false
set_option linter.unusedSimpArgs false

-- GIVEN BY HAND
/-! ### fleuronlaw9_SystemRound: function 6 -/
section
/-! ### rows of strings of the call's own, no two in one block -/
def RF := Nat → Value × List ByteArray
def rmk (p0 p1 p2 p3 p4 p5 : Value × List ByteArray) : RF
  | 0 => p0
  | 1 => p1
  | 2 => p2
  | 3 => p3
  | 4 => p4
  | 5 => p5
  | _ => (.slice none 0 0, [])
def rup (f : RF) (i : Nat) (p : Value × List ByteArray) : RF := fun j => if j = i then p else f j
def rnil : Value × List ByteArray := (.slice none 0 0, [])
theorem rup0 (p0 p1 p2 p3 p4 p5 q : Value × List ByteArray) : rup (rmk p0 p1 p2 p3 p4 p5) 0 q = rmk q p1 p2 p3 p4 p5 := by funext j; rcases j with _ | _ | _ | _ | _ | _ | j <;> rfl
theorem rup1 (p0 p1 p2 p3 p4 p5 q : Value × List ByteArray) : rup (rmk p0 p1 p2 p3 p4 p5) 1 q = rmk p0 q p2 p3 p4 p5 := by funext j; rcases j with _ | _ | _ | _ | _ | _ | j <;> rfl
theorem rup2 (p0 p1 p2 p3 p4 p5 q : Value × List ByteArray) : rup (rmk p0 p1 p2 p3 p4 p5) 2 q = rmk p0 p1 q p3 p4 p5 := by funext j; rcases j with _ | _ | _ | _ | _ | _ | j <;> rfl
theorem rup3 (p0 p1 p2 p3 p4 p5 q : Value × List ByteArray) : rup (rmk p0 p1 p2 p3 p4 p5) 3 q = rmk p0 p1 p2 q p4 p5 := by funext j; rcases j with _ | _ | _ | _ | _ | _ | j <;> rfl
theorem rup4 (p0 p1 p2 p3 p4 p5 q : Value × List ByteArray) : rup (rmk p0 p1 p2 p3 p4 p5) 4 q = rmk p0 p1 p2 p3 q p5 := by funext j; rcases j with _ | _ | _ | _ | _ | _ | j <;> rfl
theorem rup5 (p0 p1 p2 p3 p4 p5 q : Value × List ByteArray) : rup (rmk p0 p1 p2 p3 p4 p5) 5 q = rmk p0 p1 p2 p3 p4 q := by funext j; rcases j with _ | _ | _ | _ | _ | _ | j <;> rfl
def Rws (base : Nat) (W : World) (f : RF) : Prop := (∀ i, Kd.string.R 9 W base (fun _ => True) (f i).1 (f i).2) ∧ ∀ i j, i ≠ j → NeRow (f i).1 (f j).1
theorem str_E : Kd.string.E = [] := rfl
theorem rws_keep {W w1 : World} {base : Nat} {v u : Value} {xs : List ByteArray} (h : Kd.string.R 9 W base (fun _ => True) v xs) (hg : W.grownBy w1 u.ownBlock) (hn : NeRow v u) : Kd.string.R 9 w1 base (fun _ => True) v xs :=
  Kd.R_mono (Kd.R_grown (Kd.R_tight str_E h) hg (fun k hk he => hn k hk.symm he.symm)) (fun _ _ => trivial)
theorem rws_below {base : Nat} {W w1 : World} {f : RF} (h : Rws base W f) (hb : Below W.heap.size W w1) : Rws base w1 f := ⟨fun i => Kd.R_below (h.1 i) hb, h.2⟩
theorem rws_lit {base : Nat} {W w1 : World} {f : RF} (h : Rws base W f) (i : Nat) {v : Value} {ys : List ByteArray} (hB : base ≤ W.heap.size) (ho : Kd.string.R 9 w1 W.heap.size (fun _ => True) v ys) (hb : Below W.heap.size W w1) (hnew : ∃ b, v.ownBlock = some b ∧ W.heap.size ≤ b) : Rws base w1 (rup f i (v, ys)) := by
  have hne : ∀ j, NeRow v (f j).1 := fun j k hk hk' => by
    obtain ⟨b, hb1, hb2⟩ := hnew
    have h1 := Kd.R_lt (h.1 j) k hk'
    rw [hb1] at hk
    injection hk with hk
    omega
  refine ⟨fun j => ?_, fun a b hab => ?_⟩
  · by_cases e : j = i
    · simp only [rup, if_pos e]; exact Kd.R_lower ho hB
    · simp only [rup, if_neg e]; exact Kd.R_below (h.1 j) hb
  · by_cases ea : a = i <;> by_cases eb : b = i
    · exact absurd (ea.trans eb.symm) hab
    · simp only [rup, if_pos ea, if_neg eb]; exact hne b
    · simp only [rup, if_neg ea, if_pos eb]; exact ne_symm (hne a)
    · simp only [rup, if_neg ea, if_neg eb]; exact h.2 a b hab
theorem rws_app {base : Nat} {W w1 : World} {f : RF} (h : Rws base W f) (i : Nat) {v1 : Value} {ys : List ByteArray} (ho : Kd.string.R 9 w1 base (fun _ => True) v1 ys) (hg : W.grownBy w1 (f i).1.ownBlock) (hat : v1.ownBlock = (f i).1.ownBlock ∨ ∃ b, v1.ownBlock = some b ∧ W.heap.size ≤ b) : Rws base w1 (rup f i (v1, ys)) := by
  have hne : ∀ j, j ≠ i → NeRow v1 (f j).1 := fun j hj k hk hk' => by
    rcases hat with hat | ⟨b, hb1, hb2⟩
    · exact h.2 i j (Ne.symm hj) k (hat ▸ hk) hk'
    · have h1 := Kd.R_lt (h.1 j) k hk'
      rw [hb1] at hk
      injection hk with hk
      omega
  refine ⟨fun j => ?_, fun a b hab => ?_⟩
  · by_cases e : j = i
    · simp only [rup, if_pos e]; exact ho
    · simp only [rup, if_neg e]; exact rws_keep (h.1 j) hg (h.2 j i e)
  · by_cases ea : a = i <;> by_cases eb : b = i
    · exact absurd (ea.trans eb.symm) hab
    · simp only [rup, if_pos ea, if_neg eb]; exact hne b eb
    · simp only [rup, if_neg ea, if_pos eb]; exact ne_symm (hne a ea)
    · simp only [rup, if_neg ea, if_neg eb]; exact h.2 a b hab
theorem rws_drop {base : Nat} {W : World} {f : RF} (h : Rws base W f) (i : Nat) : Rws base W (rup f i rnil) := by
  refine ⟨fun j => ?_, fun a b hab => ?_⟩
  · by_cases e : j = i
    · simp only [rup, if_pos e]; exact Kd.R_nil _ _ _ _ _
    · simp only [rup, if_neg e]; exact h.1 j
  · by_cases ea : a = i <;> by_cases eb : b = i
    · exact absurd (ea.trans eb.symm) hab
    · simp only [rup, if_pos ea, if_neg eb]; exact ne_nil _
    · simp only [rup, if_neg ea, if_pos eb]; exact ne_nil' _
    · simp only [rup, if_neg ea, if_neg eb]; exact h.2 a b hab
/-! ### the three boxed styles, and the rows -/
def rdef (s : ByteArray) (first : Int) (V : Value) : Array Value := #[.string (⟨#[]⟩ : ByteArray), .string s, .int .i64 first, V, .slice none 0 0, .string (⟨#[]⟩ : ByteArray), .string (⟨#[]⟩ : ByteArray), .string (⟨#[]⟩ : ByteArray), .string (⟨#[]⟩ : ByteArray), .bool true, .slice none 0 0, .int .i64 0, .string (⟨#[]⟩ : ByteArray), .string (⟨#[]⟩ : ByteArray), .string (⟨#[]⟩ : ByteArray), .int .i64 0]
structure RS (w0 W : World) (gc gf gy : Nat) (first : Int) (Bc Bf By : Value) (f : RF) : Prop where
  rows : Rws w0.heap.size W f
  bc : W.heap[gc]? = some (.cells (rdef (⟨#[99, 121, 99, 108, 105, 99]⟩ : ByteArray) 1 Bc) 27 (0, 0))
  bf : W.heap[gf]? = some (.cells (rdef (⟨#[102, 105, 120, 101, 100]⟩ : ByteArray) first Bf) 27 (0, 0))
  by_ : W.heap[gy]? = some (.cells (rdef (⟨#[115, 121, 109, 98, 111, 108, 105, 99]⟩ : ByteArray) 1 By) 27 (0, 0))
  below : Below w0.heap.size w0 W
  lc : w0.heap.size ≤ gc
  lf : w0.heap.size ≤ gf
  ly : w0.heap.size ≤ gy
  ncf : gc ≠ gf
  ncy : gc ≠ gy
  nfy : gf ≠ gy
section
variable {w0 W w1 : World} {gc gf gy : Nat} {first : Int} {Bc Bf By : Value} {f : RF}
theorem rs_step (h : RS w0 W gc gf gy first Bc Bf By f) (hb : Below W.heap.size W w1) : RS w0 w1 gc gf gy first Bc Bf By f :=
  { h with rows := rws_below h.rows hb, bc := blk_below h.bc hb, bf := blk_below h.bf hb, by_ := blk_below h.by_ hb, below := below_step h.below hb }
theorem rs_drew (h : RS w0 W gc gf gy first Bc Bf By f) : RS w0 W.drew gc gf gy first Bc Bf By f := rs_step h (below_drew (Below.refl _ _))
theorem rs_lit (h : RS w0 W gc gf gy first Bc Bf By f) (i : Nat) {v : Value} {ys : List ByteArray} (ho : Kd.string.R 9 w1 W.heap.size (fun _ => True) v ys) (hb : Below W.heap.size W w1) (hnew : ∃ b, v.ownBlock = some b ∧ W.heap.size ≤ b) :
    RS w0 w1 gc gf gy first Bc Bf By (rup f i (v, ys)) :=
  { rs_step h hb with rows := rws_lit h.rows i h.below.size ho hb hnew }
theorem rs_app (h : RS w0 W gc gf gy first Bc Bf By f) (i : Nat) {v1 : Value} {ys : List ByteArray} (ho : Kd.string.R 9 w1 w0.heap.size (fun _ => True) v1 ys) (hb : Below w0.heap.size w0 w1) (hg : W.grownBy w1 (f i).1.ownBlock) (hat : v1.ownBlock = (f i).1.ownBlock ∨ ∃ b, v1.ownBlock = some b ∧ W.heap.size ≤ b) :
    RS w0 w1 gc gf gy first Bc Bf By (rup f i (v1, ys)) :=
  { h with rows := rws_app h.rows i ho hg hat, bc := blk_grown h.bc hg (Kd.R_ne (h.rows.1 i) h.bc (by decide)), bf := blk_grown h.bf hg (Kd.R_ne (h.rows.1 i) h.bf (by decide)), by_ := blk_grown h.by_ hg (Kd.R_ne (h.rows.1 i) h.by_ (by decide)), below := hb }
theorem rs_drop (h : RS w0 W gc gf gy first Bc Bf By f) (i : Nat) : RS w0 W gc gf gy first Bc Bf By (rup f i rnil) := { h with rows := rws_drop h.rows i }
theorem rs_cells (h : RS w0 W gc gf gy first Bc Bf By f) : W.cell? ⟨gc, 3, none⟩ = some Bc ∧ W.cell? ⟨gf, 3, none⟩ = some Bf ∧ W.cell? ⟨gy, 3, none⟩ = some By := ⟨(blk_cell h.bc 3).trans rfl, (blk_cell h.bf 3).trans rfl, (blk_cell h.by_ 3).trans rfl⟩
theorem rs_frozen (h : RS w0 W gc gf gy first Bc Bf By f) : W.frozen? ⟨gc, 3, none⟩ = false ∧ W.frozen? ⟨gf, 3, none⟩ = false ∧ W.frozen? ⟨gy, 3, none⟩ = false := ⟨blk_frozen h.bc 3, blk_frozen h.bf 3, blk_frozen h.by_ 3⟩
theorem rws_set {base : Nat} {g : Nat} {cs : Array Value} (h : Rws base W f) (hb : W.heap[g]? = some (.cells cs 27 (0, 0))) (j : Nat) (v : Value) : Rws base (W.setCell ⟨g, j, none⟩ v) f := ⟨fun i => Kd.R_set (h.1 i) hb (by decide) j v, h.2⟩
theorem rs_setc (h : RS w0 W gc gf gy first Bc Bf By f) (v : Value) : RS w0 (W.setCell ⟨gc, 3, none⟩ v) gc gf gy first v Bf By f :=
  { h with rows := rws_set h.rows h.bc 3 v, bc := blk_set h.bc 3 v, bf := blk_far h.bf (Ne.symm h.ncf) v, by_ := blk_far h.by_ (Ne.symm h.ncy) v, below := below_set h.below h.lc }
theorem rs_setf (h : RS w0 W gc gf gy first Bc Bf By f) (v : Value) : RS w0 (W.setCell ⟨gf, 3, none⟩ v) gc gf gy first Bc v By f :=
  { h with rows := rws_set h.rows h.bf 3 v, bc := blk_far h.bc h.ncf v, bf := blk_set h.bf 3 v, by_ := blk_far h.by_ (Ne.symm h.nfy) v, below := below_set h.below h.lf }
theorem rs_sety (h : RS w0 W gc gf gy first Bc Bf By f) (v : Value) : RS w0 (W.setCell ⟨gy, 3, none⟩ v) gc gf gy first Bc Bf v f :=
  { h with rows := rws_set h.rows h.by_ 3 v, bc := blk_far h.bc h.ncy v, bf := blk_far h.bf h.nfy v, by_ := blk_set h.by_ 3 v, below := below_set h.below h.ly }
theorem rs_first (h : RS w0 W gc gf gy first Bc Bf By f) (x : Int) : RS w0 (W.setCell ⟨gf, 2, none⟩ (.int .i64 x)) gc gf gy x Bc Bf By f :=
  { h with rows := rws_set h.rows h.bf 2 _, bc := blk_far h.bc h.ncf _, bf := blk_set h.bf 2 _, by_ := blk_far h.by_ (Ne.symm h.nfy) _, below := below_set h.below h.lf }
theorem rs_init {w0 W : World} (h : Below w0.heap.size w0 W) : RS w0 (((W.alloc (.cells (rdef (⟨#[99, 121, 99, 108, 105, 99]⟩ : ByteArray) 1 (.slice none 0 0)) 27)).alloc (.cells (rdef (⟨#[102, 105, 120, 101, 100]⟩ : ByteArray) 1 (.slice none 0 0)) 27)).alloc (.cells (rdef (⟨#[115, 121, 109, 98, 111, 108, 105, 99]⟩ : ByteArray) 1 (.slice none 0 0)) 27)) W.heap.size (W.heap.size + 1) (W.heap.size + 1 + 1) 1 (.slice none 0 0) (.slice none 0 0) (.slice none 0 0) (rmk rnil rnil rnil rnil rnil rnil) :=
  have hs := h.size
  { rows := ⟨fun i => by rcases i with _ | _ | _ | _ | _ | _ | i <;> exact Kd.R_nil _ _ _ _ _, fun i j _ => by rcases i with _ | _ | _ | _ | _ | _ | i <;> exact ne_nil _⟩
    bc := blk_alloc (blk_alloc (blk_new W _) _) _
    bf := blk_alloc (by have h_ := blk_new (W.alloc (.cells (rdef (⟨#[99, 121, 99, 108, 105, 99]⟩ : ByteArray) 1 (.slice none 0 0)) 27)) (.cells (rdef (⟨#[102, 105, 120, 101, 100]⟩ : ByteArray) 1 (.slice none 0 0)) 27); rwa [World.size_alloc] at h_) _
    by_ := by have h_ := blk_new ((W.alloc (.cells (rdef (⟨#[99, 121, 99, 108, 105, 99]⟩ : ByteArray) 1 (.slice none 0 0)) 27)).alloc (.cells (rdef (⟨#[102, 105, 120, 101, 100]⟩ : ByteArray) 1 (.slice none 0 0)) 27)) (.cells (rdef (⟨#[115, 121, 109, 98, 111, 108, 105, 99]⟩ : ByteArray) 1 (.slice none 0 0)) 27); rwa [World.size_alloc, World.size_alloc] at h_
    below := below_alloc (below_alloc (below_alloc h _) _) _
    lc := hs
    lf := by omega
    ly := by omega
    ncf := by omega
    ncy := by omega
    nfy := by omega }
theorem rs_eq {f' : RF} (h : RS w0 W gc gf gy first Bc Bf By f) (e : f = f') : RS w0 W gc gf gy first Bc Bf By f' := e ▸ h
end

def fleuronlaw9_SystemRound.T9 : Bool × List (List Nat × List Nat) := (true, [([], []), ([0], [0]), ([], []), ([2], [2]), ([1, 3], [1, 3]), ([], []), ([5], [5]), ([], []), ([7], [7]), ([6, 8, 4], [6, 8]), ([], []), ([10], [10]), ([], []), ([12], [12]), ([11, 13, 9], [11, 13]), ([0, 1, 2, 3, 4], []), ([15, 4, 14, 0, 1, 2, 3, 4], [4, 15]), ([0, 1, 2, 3, 4, 5, 6, 7, 8, 9, 15, 16], []), ([17, 9, 16, 0, 1, 2, 3, 4, 5, 6, 7, 8, 9, 15, 16], [9, 17]), ([0, 1, 2, 3, 4, 5, 6, 7, 8, 9, 10, 11, 12, 13, 14, 15, 16, 17, 18], []), ([19, 14, 18, 0, 1, 2, 3, 4, 5, 6, 7, 8, 9, 10, 11, 12, 13, 14, 15, 16, 17, 18], [14, 19])])
def fleuronlaw9_SystemRound.B9 : List Nat := [0, 1, 0, 4, 15, 0, 32, 0, 128, 511, 0, 1024, 0, 4096, 16383, 31, 65535, 131071, 262143, 524287, 1048575]
theorem fleuronlaw9_SystemRound.tab9 : rtab .any (opsOf Try.f6 9) = fleuronlaw9_SystemRound.T9 := by kernel_rfl
theorem fleuronlaw9_SystemRound.bits9 : waitsOk fleuronlaw9_SystemRound.T9.2 fleuronlaw9_SystemRound.B9 = true := by kernel_rfl
theorem rd_cells {W : World} {g : Nat} {s : ByteArray} {first : Int} {V : Value} (h : W.heap[g]? = some (.cells (rdef s first V) 27 (0, 0))) : W.cell? ⟨g, 0, none⟩ = some (.string (⟨#[]⟩ : ByteArray)) ∧ W.cell? ⟨g, 1, none⟩ = some (.string s) ∧ W.cell? ⟨g, 2, none⟩ = some (.int .i64 first) ∧ W.cell? ⟨g, 3, none⟩ = some (V) ∧ W.cell? ⟨g, 4, none⟩ = some (.slice none 0 0) ∧ W.cell? ⟨g, 5, none⟩ = some (.string (⟨#[]⟩ : ByteArray)) ∧ W.cell? ⟨g, 6, none⟩ = some (.string (⟨#[]⟩ : ByteArray)) ∧ W.cell? ⟨g, 7, none⟩ = some (.string (⟨#[]⟩ : ByteArray)) ∧ W.cell? ⟨g, 8, none⟩ = some (.string (⟨#[]⟩ : ByteArray)) ∧ W.cell? ⟨g, 9, none⟩ = some (.bool true) ∧ W.cell? ⟨g, 10, none⟩ = some (.slice none 0 0) ∧ W.cell? ⟨g, 11, none⟩ = some (.int .i64 0) ∧ W.cell? ⟨g, 12, none⟩ = some (.string (⟨#[]⟩ : ByteArray)) ∧ W.cell? ⟨g, 13, none⟩ = some (.string (⟨#[]⟩ : ByteArray)) ∧ W.cell? ⟨g, 14, none⟩ = some (.string (⟨#[]⟩ : ByteArray)) ∧ W.cell? ⟨g, 15, none⟩ = some (.int .i64 0) := ⟨(blk_cell h 0).trans rfl, (blk_cell h 1).trans rfl, (blk_cell h 2).trans rfl, (blk_cell h 3).trans rfl, (blk_cell h 4).trans rfl, (blk_cell h 5).trans rfl, (blk_cell h 6).trans rfl, (blk_cell h 7).trans rfl, (blk_cell h 8).trans rfl, (blk_cell h 9).trans rfl, (blk_cell h 10).trans rfl, (blk_cell h 11).trans rfl, (blk_cell h 12).trans rfl, (blk_cell h 13).trans rfl, (blk_cell h 14).trans rfl, (blk_cell h 15).trans rfl⟩
theorem rd_sig (K : Nat) (s : ByteArray) (first : Int) (l : List ByteArray) (n : Int) (r1 : ByteArray) (r2 : Bool) {A : Option Addr} {c : Nat} {w : World} (hC : Kd.C Kd.string w A l.length l) (hL : l.length ≤ c) (h : system_Signs.f K (⟨#[]⟩ : ByteArray) s first l ([] : List Int) (⟨#[]⟩ : ByteArray) (⟨#[]⟩ : ByteArray) (⟨#[]⟩ : ByteArray) (⟨#[]⟩ : ByteArray) true ([] : List S41) 0 (⟨#[]⟩ : ByteArray) (⟨#[]⟩ : ByteArray) (⟨#[]⟩ : ByteArray) 0 n = some (r1, r2)) :
    Calls Try.prog 11 #[.agg #[.string (⟨#[]⟩ : ByteArray), .string s, .int .i64 first, .slice A l.length c, .slice none 0 0, .string (⟨#[]⟩ : ByteArray), .string (⟨#[]⟩ : ByteArray), .string (⟨#[]⟩ : ByteArray), .string (⟨#[]⟩ : ByteArray), .bool true, .slice none 0 0, .int .i64 0, .string (⟨#[]⟩ : ByteArray), .string (⟨#[]⟩ : ByteArray), .string (⟨#[]⟩ : ByteArray), .int .i64 0], .int .i64 n] w fun e w' => e = .returned (.tuple #[.string r1, .bool r2]) ∧ Below w.heap.size w w' :=
  system_Signs.calls K (⟨#[]⟩ : ByteArray) s first A c l none 0 [] (⟨#[]⟩ : ByteArray) (⟨#[]⟩ : ByteArray) (⟨#[]⟩ : ByteArray) (⟨#[]⟩ : ByteArray) true none 0 [] 0 (⟨#[]⟩ : ByteArray) (⟨#[]⟩ : ByteArray) (⟨#[]⟩ : ByteArray) 0 n r1 r2 w hC hL (Kd.C_nil _ _) (Nat.le_refl _) (Kd.C_nil _ _) (Nat.le_refl _) h
theorem rd_cut (s : ByteArray) (i : Nat) (h : i < s.size) (W : World) : (Instr.slice 9 (.string s) (some (.int .i64 (i : Int))) (some (.int .i64 ((i : Int) + 1))) none).run Try.prog W = .ok (.string (s.extract i (i + 1))) W := by
  have e : ((i : Int) + 1).toNat = i + 1 := by omega
  have h0 : (0 : Int) ≤ (i : Int) := by omega
  have h1 : (i : Int) ≤ (i : Int) + 1 := by omega
  have h2 : (i : Int) + 1 ≤ (s.size : Int) := by omega
  have h3 : (0 : Int) ≤ (i : Int) + 1 := by omega
  have ht := Try.underlying9
  have b1 : ∀ w : World, (Instr.sliceBound (.int .i64 ((i : Int) + 1)) s.size BoundsCode.sliceAlen).run Try.prog w = .ok (i + 1) w := fun w => by rw [run_sliceBound _ .i64 _ _ _ h3 h2, e]
  have b2 : ∀ w : World, (Instr.sliceBound (.int .i64 (i : Int)) (i + 1) BoundsCode.sliceB).run Try.prog w = .ok i w := fun w => by rw [run_sliceBound _ .i64 _ _ _ h0 (by omega)]; rfl
  simp [Instr.slice, run_underlying ht, Instr.sliceBounds, b1, b2, sliced]
def rsv (i : Nat) : ByteArray := strOfNums [65 + (i : Int)]
def rsy (k : Nat) : List ByteArray := (List.range k).map rsv
theorem rsy_len (k : Nat) : (rsy k).length = k := by simp [rsy]
theorem rsy_succ (k : Nat) : rsy (k + 1) = rsy k ++ [rsv k] := by simp [rsy, List.range_succ]
def rpNames : List ByteArray := [(⟨#[99, 121, 99, 108, 105, 99]⟩ : ByteArray), (⟨#[102, 105, 120, 101, 100]⟩ : ByteArray), (⟨#[115, 121, 109, 98, 111, 108, 105, 99]⟩ : ByteArray)]
theorem rp_may1 : ((List.range 30).all fun i => rpNames.all fun s => system_May.f 100 (⟨#[]⟩ : ByteArray) s 1 (rsy (i + 1)) ([] : List Int) (⟨#[]⟩ : ByteArray) (⟨#[]⟩ : ByteArray) (⟨#[]⟩ : ByteArray) (⟨#[]⟩ : ByteArray) true ([] : List S41) 0 (⟨#[]⟩ : ByteArray) (⟨#[]⟩ : ByteArray) (⟨#[]⟩ : ByteArray) 0 == some true) = true := by decide +kernel
theorem fixL0 : ((⟨#[102, 105, 120, 101, 100]⟩ : ByteArray)).toList = ([102, 105, 120, 101, 100] : List UInt8) := by decide +kernel
theorem rp_mayc (K : Nat) (c : Int) (l : List ByteArray) : system_May.f (K + 1) (⟨#[]⟩ : ByteArray) (⟨#[102, 105, 120, 101, 100]⟩ : ByteArray) c l ([] : List Int) (⟨#[]⟩ : ByteArray) (⟨#[]⟩ : ByteArray) (⟨#[]⟩ : ByteArray) (⟨#[]⟩ : ByteArray) true ([] : List S41) 0 (⟨#[]⟩ : ByteArray) (⟨#[]⟩ : ByteArray) (⟨#[]⟩ : ByteArray) 0 = system_May.f (K + 1) (⟨#[]⟩ : ByteArray) (⟨#[102, 105, 120, 101, 100]⟩ : ByteArray) 1 l ([] : List Int) (⟨#[]⟩ : ByteArray) (⟨#[]⟩ : ByteArray) (⟨#[]⟩ : ByteArray) (⟨#[]⟩ : ByteArray) true ([] : List S41) 0 (⟨#[]⟩ : ByteArray) (⟨#[]⟩ : ByteArray) (⟨#[]⟩ : ByteArray) 0 := by
  simp only [system_May.f, system_kind.f, system_kind.j0, system_May.j0, fixL0, beq_self_eq_true, if_true, show (([102, 105, 120, 101, 100] : List UInt8) = ([99, 121, 99, 108, 105, 99] : List UInt8)) = False from eq_false (by decide), show (([102, 105, 120, 101, 100] : List UInt8) = ([115, 121, 109, 98, 111, 108, 105, 99] : List UInt8)) = False from eq_false (by decide), if_false]
theorem rp_may (s : ByteArray) (hs : s ∈ rpNames) (c : Int) (hc : c = 1 ∨ s = (⟨#[102, 105, 120, 101, 100]⟩ : ByteArray)) (k : Nat) (h1 : 1 ≤ k) (h2 : k ≤ 30) : system_May.f 400 (⟨#[]⟩ : ByteArray) s c (rsy k) ([] : List Int) (⟨#[]⟩ : ByteArray) (⟨#[]⟩ : ByteArray) (⟨#[]⟩ : ByteArray) (⟨#[]⟩ : ByteArray) true ([] : List S41) 0 (⟨#[]⟩ : ByteArray) (⟨#[]⟩ : ByteArray) (⟨#[]⟩ : ByteArray) 0 = some true := by
  have h := rp_may1
  rw [List.all_eq_true] at h
  have h3 := h (k - 1) (by simp; omega)
  rw [List.all_eq_true] at h3
  have h4 := h3 s hs
  rw [show k - 1 + 1 = k by omega] at h4
  have h5 : system_May.f 400 (⟨#[]⟩ : ByteArray) s 1 (rsy k) ([] : List Int) (⟨#[]⟩ : ByteArray) (⟨#[]⟩ : ByteArray) (⟨#[]⟩ : ByteArray) (⟨#[]⟩ : ByteArray) true ([] : List S41) 0 (⟨#[]⟩ : ByteArray) (⟨#[]⟩ : ByteArray) (⟨#[]⟩ : ByteArray) 0 = some true := at_rounds (fun k_ => system_May.mono _ _ _ _ _ _ _ _ _ _ _ _ _ _ _ _ k_) (show 100 ≤ 400 by omega) (by simpa using h4)
  rcases hc with rfl | rfl
  · exact h5
  · rw [show 400 = 399 + 1 from rfl, rp_mayc]; exact h5
theorem rp_bind {α β : Type} {x : Option α} {v : α} {f : α → Option β} {r : Option β} (hx : x = some v) (h : f v = r) : x.bind f = r := by rw [hx]; exact h
theorem rp_signs (s : ByteArray) (hs : s ∈ rpNames) (c : Int) (hc : c = 1 ∨ s = (⟨#[102, 105, 120, 101, 100]⟩ : ByteArray)) (k : Nat) (h1 : 1 ≤ k) (h2 : k ≤ 30) (n : Int) (hn1 : (-2147483648 : Int) ≤ n) (hn2 : n < 2147483648) : system_Signs.f 400 (⟨#[]⟩ : ByteArray) s c (rsy k) ([] : List Int) (⟨#[]⟩ : ByteArray) (⟨#[]⟩ : ByteArray) (⟨#[]⟩ : ByteArray) (⟨#[]⟩ : ByteArray) true ([] : List S41) 0 (⟨#[]⟩ : ByteArray) (⟨#[]⟩ : ByteArray) (⟨#[]⟩ : ByteArray) 0 n = system_Signs.j0 400 n false (⟨#[]⟩ : ByteArray) s c (rsy k) ([] : List Int) (⟨#[]⟩ : ByteArray) (⟨#[]⟩ : ByteArray) (⟨#[]⟩ : ByteArray) (⟨#[]⟩ : ByteArray) true ([] : List S41) 0 (⟨#[]⟩ : ByteArray) (⟨#[]⟩ : ByteArray) (⟨#[]⟩ : ByteArray) 0 := by
  unfold system_Signs.f
  refine rp_bind (rp_may s hs c hc k h1 h2) ?_
  rw [if_pos rfl, if_neg (by omega), decide_eq_false (by omega)]
def rat (k : Nat) (n : Int) : Int := Int.tmod (wrap64 (Int.tmod (n - 1) (k : Int) + (k : Int))) (k : Int)
theorem rp_w (x : Int) (h1 : -9223372036854775808 ≤ x) (h2 : x ≤ 9223372036854775807) : wrap64 x = x := by unfold wrap64; omega
theorem rp_sum (k : Nat) (h1 : 1 ≤ k) (h2 : k ≤ 30) (n : Int) : 0 < Int.tmod (n - 1) (k : Int) + (k : Int) ∧ Int.tmod (n - 1) (k : Int) + (k : Int) < 60 := by
  have t1 := Int.tmod_lt_of_pos (n - 1) (show (0 : Int) < (k : Int) by omega)
  have t2 := Int.lt_tmod_of_pos (n - 1) (show (0 : Int) < (k : Int) by omega)
  omega
theorem rat_bd (k : Nat) (h1 : 1 ≤ k) (h2 : k ≤ 30) (n : Int) : 0 ≤ rat k n ∧ rat k n < (k : Int) := by
  obtain ⟨s1, s2⟩ := rp_sum k h1 h2 n
  unfold rat
  rw [rp_w _ (by omega) (by omega)]
  exact ⟨Int.tmod_nonneg _ (by omega), Int.tmod_lt_of_pos _ (by omega)⟩
theorem rp_round (k : Nat) (h1 : 1 ≤ k) (n : Int) : fleuronalike_Round.f (n - 1) (k : Int) = some (rat k n) := by
  unfold fleuronalike_Round.f
  rw [if_neg (by omega)]; rfl
theorem cycL : ((⟨#[99, 121, 99, 108, 105, 99]⟩ : ByteArray)).toList = ([99, 121, 99, 108, 105, 99] : List UInt8) := by decide +kernel
theorem fixL : ((⟨#[102, 105, 120, 101, 100]⟩ : ByteArray)).toList = ([102, 105, 120, 101, 100] : List UInt8) := by decide +kernel
theorem symL : ((⟨#[115, 121, 109, 98, 111, 108, 105, 99]⟩ : ByteArray)).toList = ([115, 121, 109, 98, 111, 108, 105, 99] : List UInt8) := by decide +kernel
theorem rp_cyc (k : Nat) (h1 : 1 ≤ k) (h2 : k ≤ 30) (n : Int) (hn1 : (-2147483648 : Int) ≤ n) (hn2 : n < 2147483648) : system_Signs.f 400 (⟨#[]⟩ : ByteArray) (⟨#[99, 121, 99, 108, 105, 99]⟩ : ByteArray) 1 (rsy k) ([] : List Int) (⟨#[]⟩ : ByteArray) (⟨#[]⟩ : ByteArray) (⟨#[]⟩ : ByteArray) (⟨#[]⟩ : ByteArray) true ([] : List S41) 0 (⟨#[]⟩ : ByteArray) (⟨#[]⟩ : ByteArray) (⟨#[]⟩ : ByteArray) 0 n = some (rdOf ByteArray.empty (rsy k) (rat k n), true) := by
  obtain ⟨b1, b2⟩ := rat_bd k h1 h2 n
  rw [rp_signs _ (by simp [rpNames]) 1 (.inl rfl) k h1 h2 n hn1 hn2, show 400 = 399 + 1 from rfl, system_Signs.j0, if_neg (by decide), cycL, if_pos rfl, rsy_len, rp_w (n - 1) (by omega) (by omega)]
  rw [show Int.tmod (wrap64 (Int.tmod (n - 1) (k : Int) + (k : Int))) (k : Int) = rat k n from rfl, if_neg (by omega), if_pos b1, if_pos b2]
theorem rp_u (x : Int) (h1 : 0 ≤ x) (h2 : x ≤ 9223372036854775807) : IntKind.u64.wrap x = x := by rw [IntKind.wrap_u64]; omega
theorem rp_sub (n a : Int) (h : a ≤ n) (hn : n - a ≤ 9223372036854775807) : IntKind.u64.wrap (IntKind.u64.wrap n - IntKind.u64.wrap a) = n - a := by
  simp only [IntKind.wrap_u64]; omega
theorem rp_fix (k : Nat) (h1 : 1 ≤ k) (h2 : k ≤ 30) (n a : Int) (hn1 : (-2147483648 : Int) ≤ n) (hn2 : n < 2147483648) (ha1 : (-1000 : Int) ≤ a) (ha2 : a ≤ 1000) :
    system_Signs.f 400 (⟨#[]⟩ : ByteArray) (⟨#[102, 105, 120, 101, 100]⟩ : ByteArray) a (rsy k) ([] : List Int) (⟨#[]⟩ : ByteArray) (⟨#[]⟩ : ByteArray) (⟨#[]⟩ : ByteArray) (⟨#[]⟩ : ByteArray) true ([] : List S41) 0 (⟨#[]⟩ : ByteArray) (⟨#[]⟩ : ByteArray) (⟨#[]⟩ : ByteArray) 0 n = if a ≤ n ∧ n < a + (k : Int) then some (rdOf ByteArray.empty (rsy k) (n - a), true) else some ((⟨#[]⟩ : ByteArray), false) := by
  rw [rp_signs _ (by simp [rpNames]) a (.inr rfl) k h1 h2 n hn1 hn2, show 400 = 399 + 1 from rfl, system_Signs.j0, if_neg (by decide), fixL, if_neg (by decide), if_pos rfl, rsy_len]
  by_cases g1 : a ≤ n
  · rw [if_pos (show n ≥ a from g1), rp_sub n a g1 (by omega), rp_u (k : Int) (by omega) (by omega)]
    by_cases g2 : n - a < (k : Int)
    · rw [if_pos g2, if_pos (by omega), if_pos g2, if_pos ⟨g1, by omega⟩]
    · rw [if_neg g2, if_neg (by omega)]
  · rw [if_neg (show ¬ n ≥ a from g1), if_neg (by omega)]
/-- So many of one sign. -/
def rrep (s : ByteArray) (m : Nat) : ByteArray := ⟨(Lib.repeatL s.data.toList m).toArray⟩
theorem rp_div (k : Nat) (h1 : 1 ≤ k) (n : Int) (hn : 1 ≤ n) : 0 ≤ (n + (k : Int) - 1) / (k : Int) ∧ (n + (k : Int) - 1) / (k : Int) ≤ n + (k : Int) - 1 := ⟨Int.ediv_nonneg (by omega) (by omega), Int.ediv_le_self _ (by omega)⟩
theorem rdOf_rsy (k : Nat) (j : Int) (h0 : 0 ≤ j) (h1 : j < (k : Int)) : rdOf ByteArray.empty (rsy k) j = rsv j.toNat := by
  have : j.toNat < k := by omega
  simp [rdOf, rsy, List.getD_eq_getElem?_getD, this]
theorem rsv_data (j : Nat) : (rsv j).data.toList = [UInt8.ofNat (65 + (j : Int)).toNat] := by simp [rsv, strOfNums]
theorem repeat_one (b : UInt8) : ∀ m : Nat, Lib.repeatL [b] m = List.replicate m b
  | 0 => rfl
  | m + 1 => by rw [Lib.repeatL, repeat_one b m]; simp [List.replicate_succ]
theorem rp_sym (k : Nat) (h1 : 1 ≤ k) (h2 : k ≤ 30) (n : Int) (hn1 : (-2147483648 : Int) ≤ n) (hn2 : n < 2147483648) :
    system_Signs.f 400 (⟨#[]⟩ : ByteArray) (⟨#[115, 121, 109, 98, 111, 108, 105, 99]⟩ : ByteArray) 1 (rsy k) ([] : List Int) (⟨#[]⟩ : ByteArray) (⟨#[]⟩ : ByteArray) (⟨#[]⟩ : ByteArray) (⟨#[]⟩ : ByteArray) true ([] : List S41) 0 (⟨#[]⟩ : ByteArray) (⟨#[]⟩ : ByteArray) (⟨#[]⟩ : ByteArray) 0 n = if n < 1 then some ((⟨#[]⟩ : ByteArray), false) else if 60 < (n + (k : Int) - 1) / (k : Int) then some ((⟨#[]⟩ : ByteArray), false) else some (rrep (rdOf ByteArray.empty (rsy k) (Int.tmod (n - 1) (k : Int))) ((n + (k : Int) - 1) / (k : Int)).toNat, true) := by
  rw [rp_signs _ (by simp [rpNames]) 1 (.inl rfl) k h1 h2 n hn1 hn2, show 400 = 399 + 1 from rfl, system_Signs.j0, if_neg (by decide), symL, if_neg (by decide), if_neg (by decide), if_pos rfl, rsy_len, if_neg (by omega)]
  by_cases g1 : n ≥ 1
  · obtain ⟨d1, d2⟩ := rp_div k h1 n g1
    have t0 := Int.tmod_nonneg (k : Int) (show 0 ≤ n - 1 by omega)
    have t1 := Int.tmod_lt_of_pos (n - 1) (show (0 : Int) < (k : Int) by omega)
    rw [if_pos g1, if_neg (show ¬ n < 1 by omega), rp_w (n + (k : Int)) (by omega) (by omega), rp_w (n + (k : Int) - 1) (by omega) (by omega), Int.tdiv_eq_ediv_of_nonneg (by omega), rp_w _ (by omega) (by omega), rp_w (n - 1) (by omega) (by omega)]
    by_cases g2 : (n + (k : Int) - 1) / (k : Int) ≤ 60
    · rw [if_pos g2, if_pos t0, if_pos t1, if_neg (show ¬ 60 < (n + (k : Int) - 1) / (k : Int) by omega)]
      refine rp_bind (v := rrep (rdOf ByteArray.empty (rsy k) (Int.tmod (n - 1) (k : Int))) ((n + (k : Int) - 1) / (k : Int)).toNat) ?_ rfl
      unfold strings_Repeat.f
      rw [if_pos d1, if_pos (by omega), if_pos]
      · rfl
      · rw [rdOf_rsy k _ t0 t1]
        have hz : (rsv (Int.tmod (n - 1) (k : Int)).toNat).size = 1 := by
          show (rsv _).data.size = 1
          rw [← Array.length_toList, rsv_data]
          rfl
        rw [hz]; omega
    · rw [if_neg g2, if_pos (show 60 < (n + (k : Int) - 1) / (k : Int) by omega)]
  · rw [if_neg g1, if_pos (show n < 1 by omega)]
theorem rep_ext (b : UInt8) (T i : Nat) (h : i < T) : (⟨(List.replicate T b).toArray⟩ : ByteArray).extract i (i + 1) = ⟨#[b]⟩ := by
  apply ByteArray.ext
  rw [ByteArray.data_extract]
  apply Array.ext'
  rw [Array.toList_extract, List.extract_eq_take_drop]
  show List.take (i + 1 - i) (List.drop i (List.replicate T b)) = [b]
  rw [show i + 1 - i = 1 by omega, List.drop_replicate, List.take_replicate, show min 1 (T - i) = 1 by omega]
  rfl
theorem rp_rep (k : Nat) (h1 : 1 ≤ k) (j : Int) (h0 : 0 ≤ j) (hj : j < (k : Int)) (m : Nat) : (rrep (rdOf ByteArray.empty (rsy k) j) m).size = m ∧ ∀ i, i < m → ((rrep (rdOf ByteArray.empty (rsy k) j) m).extract i (i + 1)).toList = (rdOf ByteArray.empty (rsy k) j).toList := by
  rw [rdOf_rsy k j h0 hj]
  unfold rrep
  rw [rsv_data, repeat_one]
  refine ⟨by simp [ByteArray.size], fun i hi => ?_⟩
  rw [rep_ext _ _ _ hi]
  congr 1
theorem rat_pos (k : Nat) (h1 : 1 ≤ k) (h2 : k ≤ 30) (n : Int) (hn : 1 ≤ n) : rat k n = Int.tmod (n - 1) (k : Int) := by
  obtain ⟨s1, s2⟩ := rp_sum k h1 h2 n
  have t0 := Int.tmod_nonneg (k : Int) (show 0 ≤ n - 1 by omega)
  have t1 := Int.tmod_lt_of_pos (n - 1) (show (0 : Int) < (k : Int) by omega)
  unfold rat
  rw [rp_w _ (by omega) (by omega), Int.tmod_eq_emod_of_nonneg (by omega), Int.add_emod_right, Int.emod_eq_of_lt t0 t1]

set_option maxHeartbeats 20000000 in
set_option maxRecDepth 100000 in
theorem rd_main (k : Nat) (n a2 : Int) (w : World) (hk1 : 1 ≤ k) (hk2 : k ≤ 30) (hn1 : (-2147483648 : Int) ≤ n) (hn2 : n < 2147483648) (hf1 : (-1000 : Int) ≤ a2) (hf2 : a2 ≤ 1000)
    (at_ : Int) (S SF sy : ByteArray) (isb may : Bool) (hat0 : 0 ≤ at_) (hat1 : at_ < (k : Int)) (HRD : Aside0 (fleuronalike_Round.f (n - 1) (k : Int) = some at_)) (HSS : Aside0 (rdOf ByteArray.empty (rsy k) at_ = S))
    (HCS : Aside0 (system_Signs.f 400 (⟨#[]⟩ : ByteArray) (⟨#[99, 121, 99, 108, 105, 99]⟩ : ByteArray) 1 (rsy k) ([] : List Int) (⟨#[]⟩ : ByteArray) (⟨#[]⟩ : ByteArray) (⟨#[]⟩ : ByteArray) (⟨#[]⟩ : ByteArray) true ([] : List S41) 0 (⟨#[]⟩ : ByteArray) (⟨#[]⟩ : ByteArray) (⟨#[]⟩ : ByteArray) 0 n = some (S, true))) (HFS : Aside0 (system_Signs.f 400 (⟨#[]⟩ : ByteArray) (⟨#[102, 105, 120, 101, 100]⟩ : ByteArray) a2 (rsy k) ([] : List Int) (⟨#[]⟩ : ByteArray) (⟨#[]⟩ : ByteArray) (⟨#[]⟩ : ByteArray) (⟨#[]⟩ : ByteArray) true ([] : List S41) 0 (⟨#[]⟩ : ByteArray) (⟨#[]⟩ : ByteArray) (⟨#[]⟩ : ByteArray) 0 n = some (SF, isb))) (HYS : Aside0 (system_Signs.f 400 (⟨#[]⟩ : ByteArray) (⟨#[115, 121, 109, 98, 111, 108, 105, 99]⟩ : ByteArray) 1 (rsy k) ([] : List Int) (⟨#[]⟩ : ByteArray) (⟨#[]⟩ : ByteArray) (⟨#[]⟩ : ByteArray) (⟨#[]⟩ : ByteArray) true ([] : List S41) 0 (⟨#[]⟩ : ByteArray) (⟨#[]⟩ : ByteArray) (⟨#[]⟩ : ByteArray) 0 n = some (sy, may)))
    (HFW : Aside0 ((isb = true ∧ a2 ≤ n ∧ n < a2 + (k : Int) ∧ rdOf ByteArray.empty (rsy k) (n - a2) = SF) ∨ (isb = false ∧ n < a2) ∨ (isb = false ∧ a2 ≤ n ∧ a2 + (k : Int) ≤ n)))
    (HYW : Aside0 ((may = false ∧ sy = (⟨#[]⟩ : ByteArray) ∧ n < 1) ∨ (may = false ∧ sy = (⟨#[]⟩ : ByteArray) ∧ 1 ≤ n ∧ 60 < (n + (k : Int) - 1) / (k : Int)) ∨ (may = true ∧ 1 ≤ n ∧ (n + (k : Int) - 1) / (k : Int) ≤ 60 ∧ (sy.size : Int) = (n + (k : Int) - 1) / (k : Int) ∧ ∀ i, i < sy.size → (sy.extract i (i + 1)).toList = S.toList))) :
    Calls Try.prog 6 #[.int .i64 k, .int .i64 n, .int .i64 a2] w fun e w' => e = .returned (.bool true) ∧ Below w.heap.size w w' := by
  have i0 : (1 : Int) ≤ (k : Int) := by omega
  have i1 : (k : Int) ≤ 30 := by omega
  have i2 : (-2147483648 : Int) ≤ n := hn1
  have i3 : n < 2147483648 := hn2
  have i4 : (-1000 : Int) ≤ a2 := hf1
  have i5 : a2 ≤ 1000 := hf2
  have d0 : decide ((k : Int) < 1) = false := decide_eq_false (by omega)
  have d1 : decide (30 < (k : Int)) = false := decide_eq_false (by omega)
  have d2 : decide (n < -2147483648) = false := decide_eq_false (by omega)
  have d3 : decide (2147483648 ≤ n) = false := decide_eq_false (by omega)
  have d4 : decide (a2 < -1000) = false := decide_eq_false (by omega)
  have d5 : decide (1000 < a2) = false := decide_eq_false (by omega)
  have hu27 := Try.underlying27
  have HB := Aside0.mk (Below.refl w.heap.size w)
  clear hn1 hn2 hf1 hf2
  go_enter Try.func6, Try.ntmps6
  go_upto_region 4 with (first
    | (go_at_call 13; (with_reducible refine (aw_made (⟨#[99, 121, 99, 108, 105, 99]⟩ : ByteArray) none 0 0 _).mono ?_); rintro e w1 ⟨rfl, hb⟩; have n1_ := Aside0.mk (below_step HB.out hb); clear HB; have HB := n1_; clear n1_; clear hb)
    | (go_at_call 13; (with_reducible refine (aw_made (⟨#[102, 105, 120, 101, 100]⟩ : ByteArray) none 0 0 _).mono ?_); rintro e w2 ⟨rfl, hb⟩; have n1_ := Aside0.mk (below_step HB.out hb); clear HB; have HB := n1_; clear n1_; clear hb)
    | (go_at_call 13; (with_reducible refine (aw_made (⟨#[115, 121, 109, 98, 111, 108, 105, 99]⟩ : ByteArray) none 0 0 _).mono ?_); rintro e w3 ⟨rfl, hb⟩; have n1_ := Aside0.mk (below_step HB.out hb); clear HB; have HB := n1_; clear n1_; clear hb))
  have HR0 := rs_init HB.out
  simp only [rdef] at HR0
  generalize ((w3.alloc (.cells #[.string (⟨#[]⟩ : ByteArray), .string (⟨#[99, 121, 99, 108, 105, 99]⟩ : ByteArray), .int .i64 1, .slice none 0 0, .slice none 0 0, .string (⟨#[]⟩ : ByteArray), .string (⟨#[]⟩ : ByteArray), .string (⟨#[]⟩ : ByteArray), .string (⟨#[]⟩ : ByteArray), .bool true, .slice none 0 0, .int .i64 0, .string (⟨#[]⟩ : ByteArray), .string (⟨#[]⟩ : ByteArray), .string (⟨#[]⟩ : ByteArray), .int .i64 0] 27)).alloc (.cells #[.string (⟨#[]⟩ : ByteArray), .string (⟨#[102, 105, 120, 101, 100]⟩ : ByteArray), .int .i64 1, .slice none 0 0, .slice none 0 0, .string (⟨#[]⟩ : ByteArray), .string (⟨#[]⟩ : ByteArray), .string (⟨#[]⟩ : ByteArray), .string (⟨#[]⟩ : ByteArray), .bool true, .slice none 0 0, .int .i64 0, .string (⟨#[]⟩ : ByteArray), .string (⟨#[]⟩ : ByteArray), .string (⟨#[]⟩ : ByteArray), .int .i64 0] 27)).alloc (.cells #[.string (⟨#[]⟩ : ByteArray), .string (⟨#[115, 121, 109, 98, 111, 108, 105, 99]⟩ : ByteArray), .int .i64 1, .slice none 0 0, .slice none 0 0, .string (⟨#[]⟩ : ByteArray), .string (⟨#[]⟩ : ByteArray), .string (⟨#[]⟩ : ByteArray), .string (⟨#[]⟩ : ByteArray), .bool true, .slice none 0 0, .int .i64 0, .string (⟨#[]⟩ : ByteArray), .string (⟨#[]⟩ : ByteArray), .string (⟨#[]⟩ : ByteArray), .int .i64 0] 27) = W4 at HR0 ⊢
  generalize w3.heap.size + 1 + 1 = gy at HR0 ⊢
  generalize w3.heap.size + 1 = gf at HR0 ⊢
  generalize w3.heap.size = gc at HR0 ⊢
  as_aux_lemma =>
  have hs_ : W4.cell? ⟨gf, 2, none⟩ = some (.int .i64 1) := (blk_cell HR0.bf 2).trans rfl
  have hf_ := blk_frozen HR0.bf 2
  have HI := Aside0.mk (rs_first HR0 a2)
  clear HR0 HB
  go_upto_region 5 with (fail)
  generalize W4.setCell ⟨gf, 2, none⟩ (.int .i64 a2) = W5 at HI ⊢
  clear hs_ hf_
  go_wp2
  go_loopg [10] (k + 1) (fun kq v10 w' => ∃ (i : Nat), v10 = .int .i64 (i : Int) ∧ Aside0 (i + kq = k + 1 ∧ i ≤ k) ∧ ∃ (Bc Bf By : Value), Aside0 (RS w w' gc gf gy a2 Bc Bf By (rmk (Bc, rsy i) (Bf, rsy i) (By, rsy i) rnil rnil rnil)))
  case atStart => exact ⟨0, rfl, ⟨by omega, by omega⟩, _, _, _, HI⟩
  case round =>
    clear HI
    obtain ⟨i, rfl, HJ, Bc, Bf, By, HI⟩ := hrel
    by_cases hlt : i < k
    · have l1 : (i : Int) < (k : Int) := by omega
      have l2 : (0 : Int) ≤ (i : Int) := by omega
      cases gk with
      | zero => exact absurd HJ.out.1 (by have h_ := HJ.out; omega)
      | succ k1 =>
        obtain ⟨bv, hbv⟩ : ∃ b_ : Int, 65 + (i : Int) = b_ := ⟨_, rfl⟩
        have l3 : bv % 256 = bv := by omega
        obtain ⟨sv, hsv⟩ : ∃ s_, strOfNums [bv] = s_ := ⟨_, rfl⟩
        have HSV := Aside0.mk hsv
        obtain ⟨xs, hxs⟩ : ∃ x_, rsy i = x_ := ⟨_, rfl⟩
        have HXS : Aside0 (rsy (i + 1) = xs ++ [sv]) := ⟨by rw [rsy_succ, hxs, ← hsv, ← hbv]; rfl⟩
        have HXL : Aside0 (xs.length ≤ 30) := ⟨by rw [← hxs, rsy_len]; omega⟩
        rw [hxs] at HI
        obtain ⟨lx, hlx⟩ : ∃ l_, (xs ++ [sv]).length = l_ := ⟨_, rfl⟩
        have HLX := Aside0.mk hlx
        clear hsv hxs hlt hlx
        go_upto_region 9 with ((with_reducible refine gate_dst (N := 56) rfl ?_); (try (refine gate_guard (by rfl) ?_; dsimp only)); refine Kd.R_lit (Kd.int .u8) _ 5 ?hg (N := 56) ?hd (xs := ([bv] : List Int)) (inner := [.int .u8 bv]) (ok := fun _ => True) (okp := fun _ => True) ?hr ?hp (fun _ hk => hk) trivial (Below.refl _ _) (Nat.le_refl _) (by simp) ?_; (case hd => rfl); (case hg => rfl); (case hr => first | (go_simp; done) | (go_simp; rfl)); (case hp => exact (Reps.one (show Kd.M (Kd.int .u8) _ _ _ bv [.int .u8 bv] from rfl) (Reps.none _ _))); intro v56 w41 ho hb hg_ hnew_; clear hg_ hnew_; have hcv := own_string (P := Try.prog) Try.underlying32 Try.underlying5 Try.underlying9 (Kd.own_of_R ho); rw [HSV.out] at hcv; have n1_ := Aside0.mk (rs_step HI.out hb); clear HI; have HI := n1_; clear n1_ ho hb)
        clear hcv hbv l3
        have n1_ := Aside0.mk (rs_drew HI.out)
        clear HI
        have HI := n1_
        clear n1_
        refine start_ (n := 21) (S := fun w' => w'.cell? ⟨gc, 3, none⟩ = some Bc ∧ w'.cell? ⟨gf, 3, none⟩ = some Bf ∧ w'.cell? ⟨gy, 3, none⟩ = some By) (ds := [16, 18, 20]) #[false, false, false, false, false, false, false, false, false, false, false, false, false, false, false, false, false, false, false, false, false] (by kernel_rfl) rfl rfl ⟨(rs_cells HI.out).1, (rs_cells HI.out).2.1, (rs_cells HI.out).2.2⟩ (fun hHeld => ?_)
        refine with_tabW fleuronlaw9_SystemRound.tab9 fleuronlaw9_SystemRound.bits9 (fun HT_ HW_ => ?_)
        generalize w41.drew = w8 at HI hHeld ⊢
        refine pure_ (i := 0) (N := some 58) (v := ?_) (a' := ?_) #[true, false, false, false, false, false, false, false, false, false, false, false, false, false, false, false, false, false, false, false, false] rfl rfl (any_of HT_.out (by kernel_rfl)) (fun _ _ _ h => h) (Or.inl ⟨by rfl, ?_⟩) ?_ ?_
        rotate_left
        · intro w'
          go_simp
          with_reducible rfl
        rotate_left
        · simp only [Act.put, List.setIfInBounds_toArray, List.set_cons_zero, List.set_cons_succ, i64_w, i32_w]
          rfl
        refine pure_ (i := 2) (N := some 60) (v := ?_) (a' := ?_) #[true, false, true, false, false, false, false, false, false, false, false, false, false, false, false, false, false, false, false, false, false] rfl rfl (any_of HT_.out (by kernel_rfl)) (fun _ _ _ h => h) (Or.inl ⟨by rfl, ?_⟩) ?_ ?_
        rotate_left
        · intro w'
          go_simp
          with_reducible rfl
        rotate_left
        · simp only [Act.put, List.setIfInBounds_toArray, List.set_cons_zero, List.set_cons_succ, i64_w, i32_w]
          rfl
        refine pure_ (i := 5) (N := some 63) (v := ?_) (a' := ?_) #[true, false, true, false, false, true, false, false, false, false, false, false, false, false, false, false, false, false, false, false, false] rfl rfl (any_of HT_.out (by kernel_rfl)) (fun _ _ _ h => h) (Or.inl ⟨by rfl, ?_⟩) ?_ ?_
        rotate_left
        · intro w'
          go_simp
          with_reducible rfl
        rotate_left
        · simp only [Act.put, List.setIfInBounds_toArray, List.set_cons_zero, List.set_cons_succ, i64_w, i32_w]
          rfl
        refine pure_ (i := 7) (N := some 65) (v := ?_) (a' := ?_) #[true, false, true, false, false, true, false, true, false, false, false, false, false, false, false, false, false, false, false, false, false] rfl rfl (any_of HT_.out (by kernel_rfl)) (fun _ _ _ h => h) (Or.inl ⟨by rfl, ?_⟩) ?_ ?_
        rotate_left
        · intro w'
          go_simp
          with_reducible rfl
        rotate_left
        · simp only [Act.put, List.setIfInBounds_toArray, List.set_cons_zero, List.set_cons_succ, i64_w, i32_w]
          rfl
        refine pure_ (i := 10) (N := some 68) (v := ?_) (a' := ?_) #[true, false, true, false, false, true, false, true, false, false, true, false, false, false, false, false, false, false, false, false, false] rfl rfl (any_of HT_.out (by kernel_rfl)) (fun _ _ _ h => h) (Or.inl ⟨by rfl, ?_⟩) ?_ ?_
        rotate_left
        · intro w'
          go_simp
          with_reducible rfl
        rotate_left
        · simp only [Act.put, List.setIfInBounds_toArray, List.set_cons_zero, List.set_cons_succ, i64_w, i32_w]
          rfl
        refine pure_ (i := 12) (N := some 70) (v := ?_) (a' := ?_) #[true, false, true, false, false, true, false, true, false, false, true, false, true, false, false, false, false, false, false, false, false] rfl rfl (any_of HT_.out (by kernel_rfl)) (fun _ _ _ h => h) (Or.inl ⟨by rfl, ?_⟩) ?_ ?_
        rotate_left
        · intro w'
          go_simp
          with_reducible rfl
        rotate_left
        · simp only [Act.put, List.setIfInBounds_toArray, List.set_cons_zero, List.set_cons_succ, i64_w, i32_w]
          rfl
        refine take_ (i := 1) (N := some 59) (v := ?_) (a' := ?_) #[true, true, true, false, false, true, false, true, false, false, true, false, true, false, false, false, false, false, false, false, false] rfl rfl (take_ofW HT_.out HW_.out (by kernel_rfl)) (fun _ _ _ h => h) (Or.inl ⟨by rfl, ?_⟩) hHeld ?_ ?_
        rotate_left
        · rintro w' ⟨s0, s1, s2⟩
          go_simp
          with_reducible rfl
        rotate_left
        · simp only [Act.put, List.setIfInBounds_toArray, List.set_cons_zero, List.set_cons_succ, i64_w, i32_w]
          rfl
        refine take_ (i := 6) (N := some 64) (v := ?_) (a' := ?_) #[true, true, true, false, false, true, true, true, false, false, true, false, true, false, false, false, false, false, false, false, false] rfl rfl (take_ofW HT_.out HW_.out (by kernel_rfl)) (fun _ _ _ h => h) (Or.inl ⟨by rfl, ?_⟩) hHeld ?_ ?_
        rotate_left
        · rintro w' ⟨s0, s1, s2⟩
          go_simp
          with_reducible rfl
        rotate_left
        · simp only [Act.put, List.setIfInBounds_toArray, List.set_cons_zero, List.set_cons_succ, i64_w, i32_w]
          rfl
        refine take_ (i := 11) (N := some 69) (v := ?_) (a' := ?_) #[true, true, true, false, false, true, true, true, false, false, true, true, true, false, false, false, false, false, false, false, false] rfl rfl (take_ofW HT_.out HW_.out (by kernel_rfl)) (fun _ _ _ h => h) (Or.inl ⟨by rfl, ?_⟩) hHeld ?_ ?_
        rotate_left
        · rintro w' ⟨s0, s1, s2⟩
          go_simp
          with_reducible rfl
        rotate_left
        · simp only [Act.put, List.setIfInBounds_toArray, List.set_cons_zero, List.set_cons_succ, i64_w, i32_w]
          rfl
        refine join_ (σ := Value × Value × Value × Value × Value) 6 #[true, true, true, true, true, true, true, true, true, true, true, true, true, true, false, true, false, false, false, false, false] (fun s_ => [(61, s_.1), (62, s_.2.1), (66, s_.2.2.1), (67, s_.2.2.2.1), (71, s_.2.2.2.2), (73, .pointer (some ⟨gc, 3, none⟩))]) (fun s_ w' => (w'.cell? ⟨gc, 3, none⟩ = some Bc ∧ w'.cell? ⟨gf, 3, none⟩ = some Bf ∧ w'.cell? ⟨gy, 3, none⟩ = some By) ∧ RS w w' gc gf gy a2 Bc Bf By (rmk (s_.2.1, xs ++ [sv]) (s_.2.2.2.1, xs ++ [sv]) (By, xs) (s_.1, [sv]) (s_.2.2.1, [sv]) (s_.2.2.2.2, [sv]))) ?_ ?_
        rotate_left
        · intro hJ3_4_8_9_13
          refine join_ (σ := Value × Value × Value × Value) 7 #[true, true, true, true, true, true, true, true, true, true, true, true, true, false, false, true, false, false, false, false, false] (fun s_ => [(61, s_.1), (62, s_.2.1), (66, s_.2.2.1), (67, s_.2.2.2), (73, .pointer (some ⟨gc, 3, none⟩))]) (fun s_ w' => (w'.cell? ⟨gc, 3, none⟩ = some Bc ∧ w'.cell? ⟨gf, 3, none⟩ = some Bf ∧ w'.cell? ⟨gy, 3, none⟩ = some By) ∧ RS w w' gc gf gy a2 Bc Bf By (rmk (s_.2.1, xs ++ [sv]) (s_.2.2.2, xs ++ [sv]) (By, xs) (s_.1, [sv]) (s_.2.2.1, [sv]) rnil)) ?_ ?_
          rotate_left
          · intro hJ3_4_8_9
            refine join_ (σ := Value × Value × Value × Value) 7 #[true, true, true, true, true, true, true, true, true, false, true, true, true, true, false, true, false, false, false, false, false] (fun s_ => [(61, s_.1), (62, s_.2.1), (66, s_.2.2.1), (71, s_.2.2.2), (73, .pointer (some ⟨gc, 3, none⟩))]) (fun s_ w' => (w'.cell? ⟨gc, 3, none⟩ = some Bc ∧ w'.cell? ⟨gf, 3, none⟩ = some Bf ∧ w'.cell? ⟨gy, 3, none⟩ = some By) ∧ RS w w' gc gf gy a2 Bc Bf By (rmk (s_.2.1, xs ++ [sv]) (Bf, xs) (By, xs) (s_.1, [sv]) (s_.2.2.1, [sv]) (s_.2.2.2, [sv]))) ?_ ?_
            rotate_left
            · intro hJ3_4_8_13
              refine join_ (σ := Value × Value × Value) 8 #[true, true, true, true, true, true, true, true, true, false, true, true, true, false, false, true, false, false, false, false, false] (fun s_ => [(61, s_.1), (62, s_.2.1), (66, s_.2.2), (73, .pointer (some ⟨gc, 3, none⟩))]) (fun s_ w' => (w'.cell? ⟨gc, 3, none⟩ = some Bc ∧ w'.cell? ⟨gf, 3, none⟩ = some Bf ∧ w'.cell? ⟨gy, 3, none⟩ = some By) ∧ RS w w' gc gf gy a2 Bc Bf By (rmk (s_.2.1, xs ++ [sv]) (Bf, xs) (By, xs) (s_.1, [sv]) (s_.2.2, [sv]) rnil)) ?_ ?_
              rotate_left
              · intro hJ3_4_8
                refine join_ (σ := Value × Value × Value) 8 #[true, true, true, true, true, true, true, true, false, false, true, true, true, true, false, true, false, false, false, false, false] (fun s_ => [(61, s_.1), (62, s_.2.1), (71, s_.2.2), (73, .pointer (some ⟨gc, 3, none⟩))]) (fun s_ w' => (w'.cell? ⟨gc, 3, none⟩ = some Bc ∧ w'.cell? ⟨gf, 3, none⟩ = some Bf ∧ w'.cell? ⟨gy, 3, none⟩ = some By) ∧ RS w w' gc gf gy a2 Bc Bf By (rmk (s_.2.1, xs ++ [sv]) (Bf, xs) (By, xs) (s_.1, [sv]) rnil (s_.2.2, [sv]))) ?_ ?_
                rotate_left
                · intro hJ3_4_13
                  refine join_ (σ := Value × Value × Value) 9 #[true, true, true, true, false, true, true, true, true, false, true, true, true, true, false, false, false, false, false, false, false] (fun s_ => [(61, s_.1), (66, s_.2.1), (71, s_.2.2)]) (fun s_ w' => (w'.cell? ⟨gc, 3, none⟩ = some Bc ∧ w'.cell? ⟨gf, 3, none⟩ = some Bf ∧ w'.cell? ⟨gy, 3, none⟩ = some By) ∧ RS w w' gc gf gy a2 Bc Bf By (rmk (Bc, xs) (Bf, xs) (By, xs) (s_.1, [sv]) (s_.2.1, [sv]) (s_.2.2, [sv]))) ?_ ?_
                  rotate_left
                  · intro hJ3_8_13
                    refine join_ (σ := Value × Value) 9 #[true, true, true, true, true, true, true, true, false, false, true, true, true, false, false, true, false, false, false, false, false] (fun s_ => [(61, s_.1), (62, s_.2), (73, .pointer (some ⟨gc, 3, none⟩))]) (fun s_ w' => (w'.cell? ⟨gc, 3, none⟩ = some Bc ∧ w'.cell? ⟨gf, 3, none⟩ = some Bf ∧ w'.cell? ⟨gy, 3, none⟩ = some By) ∧ RS w w' gc gf gy a2 Bc Bf By (rmk (s_.2, xs ++ [sv]) (Bf, xs) (By, xs) (s_.1, [sv]) rnil rnil)) ?_ ?_
                    rotate_left
                    · intro hJ3_4
                      refine join_ (σ := Value × Value) 10 #[true, true, true, true, false, true, true, true, true, false, true, true, true, false, false, false, false, false, false, false, false] (fun s_ => [(61, s_.1), (66, s_.2)]) (fun s_ w' => (w'.cell? ⟨gc, 3, none⟩ = some Bc ∧ w'.cell? ⟨gf, 3, none⟩ = some Bf ∧ w'.cell? ⟨gy, 3, none⟩ = some By) ∧ RS w w' gc gf gy a2 Bc Bf By (rmk (Bc, xs) (Bf, xs) (By, xs) (s_.1, [sv]) (s_.2, [sv]) rnil)) ?_ ?_
                      rotate_left
                      · intro hJ3_8
                        refine join_ (σ := Value × Value) 10 #[true, true, true, true, false, true, true, true, false, false, true, true, true, true, false, false, false, false, false, false, false] (fun s_ => [(61, s_.1), (71, s_.2)]) (fun s_ w' => (w'.cell? ⟨gc, 3, none⟩ = some Bc ∧ w'.cell? ⟨gf, 3, none⟩ = some Bf ∧ w'.cell? ⟨gy, 3, none⟩ = some By) ∧ RS w w' gc gf gy a2 Bc Bf By (rmk (Bc, xs) (Bf, xs) (By, xs) (s_.1, [sv]) rnil (s_.2, [sv]))) ?_ ?_
                        rotate_left
                        · intro hJ3_13
                          refine join_ (σ := Value × Value) 10 #[true, true, true, false, false, true, true, true, true, false, true, true, true, true, false, false, false, false, false, false, false] (fun s_ => [(66, s_.1), (71, s_.2)]) (fun s_ w' => (w'.cell? ⟨gc, 3, none⟩ = some Bc ∧ w'.cell? ⟨gf, 3, none⟩ = some Bf ∧ w'.cell? ⟨gy, 3, none⟩ = some By) ∧ RS w w' gc gf gy a2 Bc Bf By (rmk (Bc, xs) (Bf, xs) (By, xs) rnil (s_.1, [sv]) (s_.2, [sv]))) ?_ ?_
                          rotate_left
                          · intro hJ8_13
                            refine join_ (σ := Value) 11 #[true, true, true, true, false, true, true, true, false, false, true, true, true, false, false, false, false, false, false, false, false] (fun s_ => [(61, s_)]) (fun s_ w' => (w'.cell? ⟨gc, 3, none⟩ = some Bc ∧ w'.cell? ⟨gf, 3, none⟩ = some Bf ∧ w'.cell? ⟨gy, 3, none⟩ = some By) ∧ RS w w' gc gf gy a2 Bc Bf By (rmk (Bc, xs) (Bf, xs) (By, xs) (s_, [sv]) rnil rnil)) ?_ ?_
                            rotate_left
                            · intro hJ3
                              refine join_ (σ := Value) 11 #[true, true, true, false, false, true, true, true, true, false, true, true, true, false, false, false, false, false, false, false, false] (fun s_ => [(66, s_)]) (fun s_ w' => (w'.cell? ⟨gc, 3, none⟩ = some Bc ∧ w'.cell? ⟨gf, 3, none⟩ = some Bf ∧ w'.cell? ⟨gy, 3, none⟩ = some By) ∧ RS w w' gc gf gy a2 Bc Bf By (rmk (Bc, xs) (Bf, xs) (By, xs) rnil (s_, [sv]) rnil)) ?_ ?_
                              rotate_left
                              · intro hJ8
                                refine join_ (σ := Value) 11 #[true, true, true, false, false, true, true, true, false, false, true, true, true, true, false, false, false, false, false, false, false] (fun s_ => [(71, s_)]) (fun s_ w' => (w'.cell? ⟨gc, 3, none⟩ = some Bc ∧ w'.cell? ⟨gf, 3, none⟩ = some Bf ∧ w'.cell? ⟨gy, 3, none⟩ = some By) ∧ RS w w' gc gf gy a2 Bc Bf By (rmk (Bc, xs) (Bf, xs) (By, xs) rnil rnil (s_, [sv]))) ?_ ?_
                                rotate_left
                                · intro hJ13
                                  refine three_ (i := 3) (j := 8) (k := 13) (Ni := some 61) (Nj := some 66) (Nk := some 71) #[true, true, true, true, false, true, true, true, false, false, true, true, true, false, false, false, false, false, false, false, false] #[true, true, true, false, false, true, true, true, true, false, true, true, true, false, false, false, false, false, false, false, false] #[true, true, true, false, false, true, true, true, false, false, true, true, true, true, false, false, false, false, false, false, false] rfl rfl rfl rfl rfl rfl (three_of HT_.out (by kernel_rfl)) (by decide) (by decide) (by decide) (fun K hK => ?_) (fun K hK => ?_) (fun K hK => ?_)
                                  · skip
                                    refine Kd.R_lit_step Kd.string _ 9 ?hg (N := 61) ?hd (xs := ([sv] : List ByteArray)) (inner := [.string sv]) (ok := fun _ => True) (okp := fun _ => True) ?hr ?hp (fun _ hk => hk) trivial (Below.refl _ _) (Nat.le_refl _) (by simp) ?_
                                    (case hd => rfl)
                                    (case hg => rfl)
                                    (case hr => first | (go_simp; done) | (go_simp; rfl))
                                    (case hp => exact (Reps.one (show Kd.M Kd.string _ _ _ sv [.string sv] from rfl) (Reps.none _ _)))
                                    intro L0 wm_3 ho hb hg_ hnew_
                                    have n1_ := Aside0.mk (rs_eq (rs_lit HI.out 3 ho hb hnew_) (rup3 _ _ _ _ _ _ _))
                                    clear hg_ hnew_ ho hb HI
                                    have HI := n1_
                                    clear n1_
                                    refine hK.out _ _ ⟨(rs_cells HI.out).1, (rs_cells HI.out).2.1, (rs_cells HI.out).2.2⟩ (fun hHeld => ?_)
                                    clear hK K
                                    refine norm_ (a' := ?_) ?_ ?_
                                    rotate_left
                                    · show Act.put _ (some 61) _ = _
                                      simp only [Act.put, List.setIfInBounds_toArray, List.set_cons_zero, List.set_cons_succ, i64_w, i32_w]
                                      rfl
                                    exact norm_ (by first | (simp only [putAll, Act.put, List.setIfInBounds_toArray, List.set_cons_zero, List.set_cons_succ]; done) | (simp only [putAll, Act.put, List.setIfInBounds_toArray, List.set_cons_zero, List.set_cons_succ]; rfl)) (hJ3 L0 _ ⟨rs_cells HI.out, HI.out⟩)
                                  · skip
                                    refine Kd.R_lit_step Kd.string _ 9 ?hg (N := 66) ?hd (xs := ([sv] : List ByteArray)) (inner := [.string sv]) (ok := fun _ => True) (okp := fun _ => True) ?hr ?hp (fun _ hk => hk) trivial (Below.refl _ _) (Nat.le_refl _) (by simp) ?_
                                    (case hd => rfl)
                                    (case hg => rfl)
                                    (case hr => first | (go_simp; done) | (go_simp; rfl))
                                    (case hp => exact (Reps.one (show Kd.M Kd.string _ _ _ sv [.string sv] from rfl) (Reps.none _ _)))
                                    intro L1 wm_8 ho hb hg_ hnew_
                                    have n1_ := Aside0.mk (rs_eq (rs_lit HI.out 4 ho hb hnew_) (rup4 _ _ _ _ _ _ _))
                                    clear hg_ hnew_ ho hb HI
                                    have HI := n1_
                                    clear n1_
                                    refine hK.out _ _ ⟨(rs_cells HI.out).1, (rs_cells HI.out).2.1, (rs_cells HI.out).2.2⟩ (fun hHeld => ?_)
                                    clear hK K
                                    refine norm_ (a' := ?_) ?_ ?_
                                    rotate_left
                                    · show Act.put _ (some 66) _ = _
                                      simp only [Act.put, List.setIfInBounds_toArray, List.set_cons_zero, List.set_cons_succ, i64_w, i32_w]
                                      rfl
                                    exact norm_ (by first | (simp only [putAll, Act.put, List.setIfInBounds_toArray, List.set_cons_zero, List.set_cons_succ]; done) | (simp only [putAll, Act.put, List.setIfInBounds_toArray, List.set_cons_zero, List.set_cons_succ]; rfl)) (hJ8 L1 _ ⟨rs_cells HI.out, HI.out⟩)
                                  · skip
                                    refine Kd.R_lit_step Kd.string _ 9 ?hg (N := 71) ?hd (xs := ([sv] : List ByteArray)) (inner := [.string sv]) (ok := fun _ => True) (okp := fun _ => True) ?hr ?hp (fun _ hk => hk) trivial (Below.refl _ _) (Nat.le_refl _) (by simp) ?_
                                    (case hd => rfl)
                                    (case hg => rfl)
                                    (case hr => first | (go_simp; done) | (go_simp; rfl))
                                    (case hp => exact (Reps.one (show Kd.M Kd.string _ _ _ sv [.string sv] from rfl) (Reps.none _ _)))
                                    intro L2 wm_13 ho hb hg_ hnew_
                                    have n1_ := Aside0.mk (rs_eq (rs_lit HI.out 5 ho hb hnew_) (rup5 _ _ _ _ _ _ _))
                                    clear hg_ hnew_ ho hb HI
                                    have HI := n1_
                                    clear n1_
                                    refine hK.out _ _ ⟨(rs_cells HI.out).1, (rs_cells HI.out).2.1, (rs_cells HI.out).2.2⟩ (fun hHeld => ?_)
                                    clear hK K
                                    refine norm_ (a' := ?_) ?_ ?_
                                    rotate_left
                                    · show Act.put _ (some 71) _ = _
                                      simp only [Act.put, List.setIfInBounds_toArray, List.set_cons_zero, List.set_cons_succ, i64_w, i32_w]
                                      rfl
                                    exact norm_ (by first | (simp only [putAll, Act.put, List.setIfInBounds_toArray, List.set_cons_zero, List.set_cons_succ]; done) | (simp only [putAll, Act.put, List.setIfInBounds_toArray, List.set_cons_zero, List.set_cons_succ]; rfl)) (hJ13 L2 _ ⟨rs_cells HI.out, HI.out⟩)
                                · skip
                                  clear HI
                                  rintro L2 wn13 ⟨hS_, hI_⟩
                                  have hHeld : wn13.cell? ⟨gc, 3, none⟩ = some Bc ∧ wn13.cell? ⟨gf, 3, none⟩ = some Bf ∧ wn13.cell? ⟨gy, 3, none⟩ = some By := hS_
                                  try dsimp only at hI_
                                  have HI := Aside0.mk hI_
                                  clear hI_ hS_
                                  refine norm_ (a' := ?_) ?_ ?_
                                  rotate_left
                                  · simp only [putAll, Act.put, List.setIfInBounds_toArray, List.set_cons_zero, List.set_cons_succ]
                                    rfl
                                  refine two_ (i := 3) (j := 8) (Ni := some 61) (Nj := some 66) #[true, true, true, true, false, true, true, true, false, false, true, true, true, true, false, false, false, false, false, false, false] #[true, true, true, false, false, true, true, true, true, false, true, true, true, true, false, false, false, false, false, false, false] rfl rfl rfl rfl (two_of HT_.out (by kernel_rfl)) (by decide) (by decide) (fun K hK => ?_) (fun K hK => ?_)
                                  · skip
                                    refine Kd.R_lit_step Kd.string _ 9 ?hg (N := 61) ?hd (xs := ([sv] : List ByteArray)) (inner := [.string sv]) (ok := fun _ => True) (okp := fun _ => True) ?hr ?hp (fun _ hk => hk) trivial (Below.refl _ _) (Nat.le_refl _) (by simp) ?_
                                    (case hd => rfl)
                                    (case hg => rfl)
                                    (case hr => first | (go_simp; done) | (go_simp; rfl))
                                    (case hp => exact (Reps.one (show Kd.M Kd.string _ _ _ sv [.string sv] from rfl) (Reps.none _ _)))
                                    intro L0 wm13_3 ho hb hg_ hnew_
                                    have n1_ := Aside0.mk (rs_eq (rs_lit HI.out 3 ho hb hnew_) (rup3 _ _ _ _ _ _ _))
                                    clear hg_ hnew_ ho hb HI
                                    have HI := n1_
                                    clear n1_
                                    refine hK.out _ _ ⟨(rs_cells HI.out).1, (rs_cells HI.out).2.1, (rs_cells HI.out).2.2⟩ (fun hHeld => ?_)
                                    clear hK K
                                    refine norm_ (a' := ?_) ?_ ?_
                                    rotate_left
                                    · show Act.put _ (some 61) _ = _
                                      simp only [Act.put, List.setIfInBounds_toArray, List.set_cons_zero, List.set_cons_succ, i64_w, i32_w]
                                      rfl
                                    exact norm_ (by first | (simp only [putAll, Act.put, List.setIfInBounds_toArray, List.set_cons_zero, List.set_cons_succ]; done) | (simp only [putAll, Act.put, List.setIfInBounds_toArray, List.set_cons_zero, List.set_cons_succ]; rfl)) (hJ3_13 (L0, L2) _ ⟨rs_cells HI.out, HI.out⟩)
                                  · skip
                                    refine Kd.R_lit_step Kd.string _ 9 ?hg (N := 66) ?hd (xs := ([sv] : List ByteArray)) (inner := [.string sv]) (ok := fun _ => True) (okp := fun _ => True) ?hr ?hp (fun _ hk => hk) trivial (Below.refl _ _) (Nat.le_refl _) (by simp) ?_
                                    (case hd => rfl)
                                    (case hg => rfl)
                                    (case hr => first | (go_simp; done) | (go_simp; rfl))
                                    (case hp => exact (Reps.one (show Kd.M Kd.string _ _ _ sv [.string sv] from rfl) (Reps.none _ _)))
                                    intro L1 wm13_8 ho hb hg_ hnew_
                                    have n1_ := Aside0.mk (rs_eq (rs_lit HI.out 4 ho hb hnew_) (rup4 _ _ _ _ _ _ _))
                                    clear hg_ hnew_ ho hb HI
                                    have HI := n1_
                                    clear n1_
                                    refine hK.out _ _ ⟨(rs_cells HI.out).1, (rs_cells HI.out).2.1, (rs_cells HI.out).2.2⟩ (fun hHeld => ?_)
                                    clear hK K
                                    refine norm_ (a' := ?_) ?_ ?_
                                    rotate_left
                                    · show Act.put _ (some 66) _ = _
                                      simp only [Act.put, List.setIfInBounds_toArray, List.set_cons_zero, List.set_cons_succ, i64_w, i32_w]
                                      rfl
                                    exact norm_ (by first | (simp only [putAll, Act.put, List.setIfInBounds_toArray, List.set_cons_zero, List.set_cons_succ]; done) | (simp only [putAll, Act.put, List.setIfInBounds_toArray, List.set_cons_zero, List.set_cons_succ]; rfl)) (hJ8_13 (L1, L2) _ ⟨rs_cells HI.out, HI.out⟩)
                              · skip
                                clear HI
                                rintro L1 wn8 ⟨hS_, hI_⟩
                                have hHeld : wn8.cell? ⟨gc, 3, none⟩ = some Bc ∧ wn8.cell? ⟨gf, 3, none⟩ = some Bf ∧ wn8.cell? ⟨gy, 3, none⟩ = some By := hS_
                                try dsimp only at hI_
                                have HI := Aside0.mk hI_
                                clear hI_ hS_
                                refine norm_ (a' := ?_) ?_ ?_
                                rotate_left
                                · simp only [putAll, Act.put, List.setIfInBounds_toArray, List.set_cons_zero, List.set_cons_succ]
                                  rfl
                                refine two_ (i := 3) (j := 13) (Ni := some 61) (Nj := some 71) #[true, true, true, true, false, true, true, true, true, false, true, true, true, false, false, false, false, false, false, false, false] #[true, true, true, false, false, true, true, true, true, false, true, true, true, true, false, false, false, false, false, false, false] rfl rfl rfl rfl (two_of HT_.out (by kernel_rfl)) (by decide) (by decide) (fun K hK => ?_) (fun K hK => ?_)
                                · skip
                                  refine Kd.R_lit_step Kd.string _ 9 ?hg (N := 61) ?hd (xs := ([sv] : List ByteArray)) (inner := [.string sv]) (ok := fun _ => True) (okp := fun _ => True) ?hr ?hp (fun _ hk => hk) trivial (Below.refl _ _) (Nat.le_refl _) (by simp) ?_
                                  (case hd => rfl)
                                  (case hg => rfl)
                                  (case hr => first | (go_simp; done) | (go_simp; rfl))
                                  (case hp => exact (Reps.one (show Kd.M Kd.string _ _ _ sv [.string sv] from rfl) (Reps.none _ _)))
                                  intro L0 wm8_3 ho hb hg_ hnew_
                                  have n1_ := Aside0.mk (rs_eq (rs_lit HI.out 3 ho hb hnew_) (rup3 _ _ _ _ _ _ _))
                                  clear hg_ hnew_ ho hb HI
                                  have HI := n1_
                                  clear n1_
                                  refine hK.out _ _ ⟨(rs_cells HI.out).1, (rs_cells HI.out).2.1, (rs_cells HI.out).2.2⟩ (fun hHeld => ?_)
                                  clear hK K
                                  refine norm_ (a' := ?_) ?_ ?_
                                  rotate_left
                                  · show Act.put _ (some 61) _ = _
                                    simp only [Act.put, List.setIfInBounds_toArray, List.set_cons_zero, List.set_cons_succ, i64_w, i32_w]
                                    rfl
                                  exact norm_ (by first | (simp only [putAll, Act.put, List.setIfInBounds_toArray, List.set_cons_zero, List.set_cons_succ]; done) | (simp only [putAll, Act.put, List.setIfInBounds_toArray, List.set_cons_zero, List.set_cons_succ]; rfl)) (hJ3_8 (L0, L1) _ ⟨rs_cells HI.out, HI.out⟩)
                                · skip
                                  refine Kd.R_lit_step Kd.string _ 9 ?hg (N := 71) ?hd (xs := ([sv] : List ByteArray)) (inner := [.string sv]) (ok := fun _ => True) (okp := fun _ => True) ?hr ?hp (fun _ hk => hk) trivial (Below.refl _ _) (Nat.le_refl _) (by simp) ?_
                                  (case hd => rfl)
                                  (case hg => rfl)
                                  (case hr => first | (go_simp; done) | (go_simp; rfl))
                                  (case hp => exact (Reps.one (show Kd.M Kd.string _ _ _ sv [.string sv] from rfl) (Reps.none _ _)))
                                  intro L2 wm8_13 ho hb hg_ hnew_
                                  have n1_ := Aside0.mk (rs_eq (rs_lit HI.out 5 ho hb hnew_) (rup5 _ _ _ _ _ _ _))
                                  clear hg_ hnew_ ho hb HI
                                  have HI := n1_
                                  clear n1_
                                  refine hK.out _ _ ⟨(rs_cells HI.out).1, (rs_cells HI.out).2.1, (rs_cells HI.out).2.2⟩ (fun hHeld => ?_)
                                  clear hK K
                                  refine norm_ (a' := ?_) ?_ ?_
                                  rotate_left
                                  · show Act.put _ (some 71) _ = _
                                    simp only [Act.put, List.setIfInBounds_toArray, List.set_cons_zero, List.set_cons_succ, i64_w, i32_w]
                                    rfl
                                  exact norm_ (by first | (simp only [putAll, Act.put, List.setIfInBounds_toArray, List.set_cons_zero, List.set_cons_succ]; done) | (simp only [putAll, Act.put, List.setIfInBounds_toArray, List.set_cons_zero, List.set_cons_succ]; rfl)) (hJ8_13 (L1, L2) _ ⟨rs_cells HI.out, HI.out⟩)
                            · skip
                              clear HI
                              rintro L0 wn3 ⟨hS_, hI_⟩
                              have hHeld : wn3.cell? ⟨gc, 3, none⟩ = some Bc ∧ wn3.cell? ⟨gf, 3, none⟩ = some Bf ∧ wn3.cell? ⟨gy, 3, none⟩ = some By := hS_
                              try dsimp only at hI_
                              have HI := Aside0.mk hI_
                              clear hI_ hS_
                              refine norm_ (a' := ?_) ?_ ?_
                              rotate_left
                              · simp only [putAll, Act.put, List.setIfInBounds_toArray, List.set_cons_zero, List.set_cons_succ]
                                rfl
                              refine three_ (i := 4) (j := 8) (k := 13) (Ni := some 62) (Nj := some 66) (Nk := some 71) #[true, true, true, true, true, true, true, true, false, false, true, true, true, false, false, false, false, false, false, false, false] #[true, true, true, true, false, true, true, true, true, false, true, true, true, false, false, false, false, false, false, false, false] #[true, true, true, true, false, true, true, true, false, false, true, true, true, true, false, false, false, false, false, false, false] rfl rfl rfl rfl rfl rfl (three_of HT_.out (by kernel_rfl)) (by decide) (by decide) (by decide) (fun K hK => ?_) (fun K hK => ?_) (fun K hK => ?_)
                              · skip
                                obtain ⟨AL_, cL_, eL_⟩ := Kd.R_slice (HI.out.rows.1 3)
                                replace eL_ : L0 = .slice AL_ 1 cL_ := eL_
                                subst eL_
                                refine Kd.R_append_rows_step Kd.string (w0 := w) w.heap.size (by rfl) (.tmp 59) (.tmp 61) 22 9 (.string ⟨#[]⟩) 16 rfl Try.underlying22 info9 rfl (by decide) (by omega) Bc xs [sv] _ _ _ (fun _ => True) (fun _ => False) rfl rfl ?aO ?aR (fun _ _ h => h) (fun _ h => h.elim) (fun _ _ => trivial) ?aB ?aS ?aL ?_
                                (case aO => exact HI.out.rows.1 0)
                                (case aR => exact (Kd.R_reads' (HI.out.rows.1 3)).2.2)
                                (case aB => exact HI.out.below)
                                (case aS => exact HI.out.below.size)
                                (case aL => have h_ := HXL.out; omega)
                                intro V0 wm3_4 ho hb hg hat
                                have n1_ := Aside0.mk (rs_eq (rs_app HI.out 0 ho hb hg hat) (rup0 _ _ _ _ _ _ _))
                                clear hg hat ho hb HI
                                have HI := n1_
                                clear n1_
                                refine hK.out _ _ ⟨(rs_cells HI.out).1, (rs_cells HI.out).2.1, (rs_cells HI.out).2.2⟩ (fun hHeld => ?_)
                                clear hK K
                                refine norm_ (a' := ?_) ?_ ?_
                                rotate_left
                                · show Act.put _ (some 62) _ = _
                                  simp only [Act.put, List.setIfInBounds_toArray, List.set_cons_zero, List.set_cons_succ, i64_w, i32_w]
                                  rfl
                                refine pure_ (i := 15) (N := some 73) (v := ?_) (a' := ?_) #[true, true, true, true, true, true, true, true, false, false, true, true, true, false, false, true, false, false, false, false, false] rfl rfl (any_of HT_.out (by kernel_rfl)) (fun _ _ _ h => h) (Or.inl ⟨by rfl, ?_⟩) ?_ ?_
                                rotate_left
                                · intro w'
                                  go_simp
                                  with_reducible rfl
                                rotate_left
                                · simp only [Act.put, List.setIfInBounds_toArray, List.set_cons_zero, List.set_cons_succ, i64_w, i32_w]
                                  rfl
                                exact norm_ (by first | (simp only [putAll, Act.put, List.setIfInBounds_toArray, List.set_cons_zero, List.set_cons_succ]; done) | (simp only [putAll, Act.put, List.setIfInBounds_toArray, List.set_cons_zero, List.set_cons_succ]; rfl)) (hJ3_4 (.slice AL_ 1 cL_, V0) _ ⟨rs_cells HI.out, HI.out⟩)
                              · skip
                                refine Kd.R_lit_step Kd.string _ 9 ?hg (N := 66) ?hd (xs := ([sv] : List ByteArray)) (inner := [.string sv]) (ok := fun _ => True) (okp := fun _ => True) ?hr ?hp (fun _ hk => hk) trivial (Below.refl _ _) (Nat.le_refl _) (by simp) ?_
                                (case hd => rfl)
                                (case hg => rfl)
                                (case hr => first | (go_simp; done) | (go_simp; rfl))
                                (case hp => exact (Reps.one (show Kd.M Kd.string _ _ _ sv [.string sv] from rfl) (Reps.none _ _)))
                                intro L1 wm3_8 ho hb hg_ hnew_
                                have n1_ := Aside0.mk (rs_eq (rs_lit HI.out 4 ho hb hnew_) (rup4 _ _ _ _ _ _ _))
                                clear hg_ hnew_ ho hb HI
                                have HI := n1_
                                clear n1_
                                refine hK.out _ _ ⟨(rs_cells HI.out).1, (rs_cells HI.out).2.1, (rs_cells HI.out).2.2⟩ (fun hHeld => ?_)
                                clear hK K
                                refine norm_ (a' := ?_) ?_ ?_
                                rotate_left
                                · show Act.put _ (some 66) _ = _
                                  simp only [Act.put, List.setIfInBounds_toArray, List.set_cons_zero, List.set_cons_succ, i64_w, i32_w]
                                  rfl
                                exact norm_ (by first | (simp only [putAll, Act.put, List.setIfInBounds_toArray, List.set_cons_zero, List.set_cons_succ]; done) | (simp only [putAll, Act.put, List.setIfInBounds_toArray, List.set_cons_zero, List.set_cons_succ]; rfl)) (hJ3_8 (L0, L1) _ ⟨rs_cells HI.out, HI.out⟩)
                              · skip
                                refine Kd.R_lit_step Kd.string _ 9 ?hg (N := 71) ?hd (xs := ([sv] : List ByteArray)) (inner := [.string sv]) (ok := fun _ => True) (okp := fun _ => True) ?hr ?hp (fun _ hk => hk) trivial (Below.refl _ _) (Nat.le_refl _) (by simp) ?_
                                (case hd => rfl)
                                (case hg => rfl)
                                (case hr => first | (go_simp; done) | (go_simp; rfl))
                                (case hp => exact (Reps.one (show Kd.M Kd.string _ _ _ sv [.string sv] from rfl) (Reps.none _ _)))
                                intro L2 wm3_13 ho hb hg_ hnew_
                                have n1_ := Aside0.mk (rs_eq (rs_lit HI.out 5 ho hb hnew_) (rup5 _ _ _ _ _ _ _))
                                clear hg_ hnew_ ho hb HI
                                have HI := n1_
                                clear n1_
                                refine hK.out _ _ ⟨(rs_cells HI.out).1, (rs_cells HI.out).2.1, (rs_cells HI.out).2.2⟩ (fun hHeld => ?_)
                                clear hK K
                                refine norm_ (a' := ?_) ?_ ?_
                                rotate_left
                                · show Act.put _ (some 71) _ = _
                                  simp only [Act.put, List.setIfInBounds_toArray, List.set_cons_zero, List.set_cons_succ, i64_w, i32_w]
                                  rfl
                                exact norm_ (by first | (simp only [putAll, Act.put, List.setIfInBounds_toArray, List.set_cons_zero, List.set_cons_succ]; done) | (simp only [putAll, Act.put, List.setIfInBounds_toArray, List.set_cons_zero, List.set_cons_succ]; rfl)) (hJ3_13 (L0, L2) _ ⟨rs_cells HI.out, HI.out⟩)
                          · skip
                            clear HI
                            rintro ⟨L1, L2⟩ wn813 ⟨hS_, hI_⟩
                            have hHeld : wn813.cell? ⟨gc, 3, none⟩ = some Bc ∧ wn813.cell? ⟨gf, 3, none⟩ = some Bf ∧ wn813.cell? ⟨gy, 3, none⟩ = some By := hS_
                            try dsimp only at hI_
                            have HI := Aside0.mk hI_
                            clear hI_ hS_
                            refine norm_ (a' := ?_) ?_ ?_
                            rotate_left
                            · simp only [putAll, Act.put, List.setIfInBounds_toArray, List.set_cons_zero, List.set_cons_succ]
                              rfl
                            refine one_ (i := 3) (N := some 61) #[true, true, true, true, false, true, true, true, true, false, true, true, true, true, false, false, false, false, false, false, false] rfl rfl (one_of HT_.out (by kernel_rfl)) (by decide) (fun K hK => ?_)
                            refine Kd.R_lit_step Kd.string _ 9 ?hg (N := 61) ?hd (xs := ([sv] : List ByteArray)) (inner := [.string sv]) (ok := fun _ => True) (okp := fun _ => True) ?hr ?hp (fun _ hk => hk) trivial (Below.refl _ _) (Nat.le_refl _) (by simp) ?_
                            (case hd => rfl)
                            (case hg => rfl)
                            (case hr => first | (go_simp; done) | (go_simp; rfl))
                            (case hp => exact (Reps.one (show Kd.M Kd.string _ _ _ sv [.string sv] from rfl) (Reps.none _ _)))
                            intro L0 wm813_3 ho hb hg_ hnew_
                            have n1_ := Aside0.mk (rs_eq (rs_lit HI.out 3 ho hb hnew_) (rup3 _ _ _ _ _ _ _))
                            clear hg_ hnew_ ho hb HI
                            have HI := n1_
                            clear n1_
                            refine hK.out _ _ ⟨(rs_cells HI.out).1, (rs_cells HI.out).2.1, (rs_cells HI.out).2.2⟩ (fun hHeld => ?_)
                            clear hK K
                            refine norm_ (a' := ?_) ?_ ?_
                            rotate_left
                            · show Act.put _ (some 61) _ = _
                              simp only [Act.put, List.setIfInBounds_toArray, List.set_cons_zero, List.set_cons_succ, i64_w, i32_w]
                              rfl
                            exact norm_ (by first | (simp only [putAll, Act.put, List.setIfInBounds_toArray, List.set_cons_zero, List.set_cons_succ]; done) | (simp only [putAll, Act.put, List.setIfInBounds_toArray, List.set_cons_zero, List.set_cons_succ]; rfl)) (hJ3_8_13 (L0, L1, L2) _ ⟨rs_cells HI.out, HI.out⟩)
                        · skip
                          clear HI
                          rintro ⟨L0, L2⟩ wn313 ⟨hS_, hI_⟩
                          have hHeld : wn313.cell? ⟨gc, 3, none⟩ = some Bc ∧ wn313.cell? ⟨gf, 3, none⟩ = some Bf ∧ wn313.cell? ⟨gy, 3, none⟩ = some By := hS_
                          try dsimp only at hI_
                          have HI := Aside0.mk hI_
                          clear hI_ hS_
                          refine norm_ (a' := ?_) ?_ ?_
                          rotate_left
                          · simp only [putAll, Act.put, List.setIfInBounds_toArray, List.set_cons_zero, List.set_cons_succ]
                            rfl
                          refine two_ (i := 4) (j := 8) (Ni := some 62) (Nj := some 66) #[true, true, true, true, true, true, true, true, false, false, true, true, true, true, false, false, false, false, false, false, false] #[true, true, true, true, false, true, true, true, true, false, true, true, true, true, false, false, false, false, false, false, false] rfl rfl rfl rfl (two_of HT_.out (by kernel_rfl)) (by decide) (by decide) (fun K hK => ?_) (fun K hK => ?_)
                          · skip
                            obtain ⟨AL_, cL_, eL_⟩ := Kd.R_slice (HI.out.rows.1 3)
                            replace eL_ : L0 = .slice AL_ 1 cL_ := eL_
                            subst eL_
                            refine Kd.R_append_rows_step Kd.string (w0 := w) w.heap.size (by rfl) (.tmp 59) (.tmp 61) 22 9 (.string ⟨#[]⟩) 16 rfl Try.underlying22 info9 rfl (by decide) (by omega) Bc xs [sv] _ _ _ (fun _ => True) (fun _ => False) rfl rfl ?aO ?aR (fun _ _ h => h) (fun _ h => h.elim) (fun _ _ => trivial) ?aB ?aS ?aL ?_
                            (case aO => exact HI.out.rows.1 0)
                            (case aR => exact (Kd.R_reads' (HI.out.rows.1 3)).2.2)
                            (case aB => exact HI.out.below)
                            (case aS => exact HI.out.below.size)
                            (case aL => have h_ := HXL.out; omega)
                            intro V0 wm313_4 ho hb hg hat
                            have n1_ := Aside0.mk (rs_eq (rs_app HI.out 0 ho hb hg hat) (rup0 _ _ _ _ _ _ _))
                            clear hg hat ho hb HI
                            have HI := n1_
                            clear n1_
                            refine hK.out _ _ ⟨(rs_cells HI.out).1, (rs_cells HI.out).2.1, (rs_cells HI.out).2.2⟩ (fun hHeld => ?_)
                            clear hK K
                            refine norm_ (a' := ?_) ?_ ?_
                            rotate_left
                            · show Act.put _ (some 62) _ = _
                              simp only [Act.put, List.setIfInBounds_toArray, List.set_cons_zero, List.set_cons_succ, i64_w, i32_w]
                              rfl
                            refine pure_ (i := 15) (N := some 73) (v := ?_) (a' := ?_) #[true, true, true, true, true, true, true, true, false, false, true, true, true, true, false, true, false, false, false, false, false] rfl rfl (any_of HT_.out (by kernel_rfl)) (fun _ _ _ h => h) (Or.inl ⟨by rfl, ?_⟩) ?_ ?_
                            rotate_left
                            · intro w'
                              go_simp
                              with_reducible rfl
                            rotate_left
                            · simp only [Act.put, List.setIfInBounds_toArray, List.set_cons_zero, List.set_cons_succ, i64_w, i32_w]
                              rfl
                            exact norm_ (by first | (simp only [putAll, Act.put, List.setIfInBounds_toArray, List.set_cons_zero, List.set_cons_succ]; done) | (simp only [putAll, Act.put, List.setIfInBounds_toArray, List.set_cons_zero, List.set_cons_succ]; rfl)) (hJ3_4_13 (.slice AL_ 1 cL_, V0, L2) _ ⟨rs_cells HI.out, HI.out⟩)
                          · skip
                            refine Kd.R_lit_step Kd.string _ 9 ?hg (N := 66) ?hd (xs := ([sv] : List ByteArray)) (inner := [.string sv]) (ok := fun _ => True) (okp := fun _ => True) ?hr ?hp (fun _ hk => hk) trivial (Below.refl _ _) (Nat.le_refl _) (by simp) ?_
                            (case hd => rfl)
                            (case hg => rfl)
                            (case hr => first | (go_simp; done) | (go_simp; rfl))
                            (case hp => exact (Reps.one (show Kd.M Kd.string _ _ _ sv [.string sv] from rfl) (Reps.none _ _)))
                            intro L1 wm313_8 ho hb hg_ hnew_
                            have n1_ := Aside0.mk (rs_eq (rs_lit HI.out 4 ho hb hnew_) (rup4 _ _ _ _ _ _ _))
                            clear hg_ hnew_ ho hb HI
                            have HI := n1_
                            clear n1_
                            refine hK.out _ _ ⟨(rs_cells HI.out).1, (rs_cells HI.out).2.1, (rs_cells HI.out).2.2⟩ (fun hHeld => ?_)
                            clear hK K
                            refine norm_ (a' := ?_) ?_ ?_
                            rotate_left
                            · show Act.put _ (some 66) _ = _
                              simp only [Act.put, List.setIfInBounds_toArray, List.set_cons_zero, List.set_cons_succ, i64_w, i32_w]
                              rfl
                            exact norm_ (by first | (simp only [putAll, Act.put, List.setIfInBounds_toArray, List.set_cons_zero, List.set_cons_succ]; done) | (simp only [putAll, Act.put, List.setIfInBounds_toArray, List.set_cons_zero, List.set_cons_succ]; rfl)) (hJ3_8_13 (L0, L1, L2) _ ⟨rs_cells HI.out, HI.out⟩)
                      · skip
                        clear HI
                        rintro ⟨L0, L1⟩ wn38 ⟨hS_, hI_⟩
                        have hHeld : wn38.cell? ⟨gc, 3, none⟩ = some Bc ∧ wn38.cell? ⟨gf, 3, none⟩ = some Bf ∧ wn38.cell? ⟨gy, 3, none⟩ = some By := hS_
                        try dsimp only at hI_
                        have HI := Aside0.mk hI_
                        clear hI_ hS_
                        refine norm_ (a' := ?_) ?_ ?_
                        rotate_left
                        · simp only [putAll, Act.put, List.setIfInBounds_toArray, List.set_cons_zero, List.set_cons_succ]
                          rfl
                        refine two_ (i := 4) (j := 13) (Ni := some 62) (Nj := some 71) #[true, true, true, true, true, true, true, true, true, false, true, true, true, false, false, false, false, false, false, false, false] #[true, true, true, true, false, true, true, true, true, false, true, true, true, true, false, false, false, false, false, false, false] rfl rfl rfl rfl (two_of HT_.out (by kernel_rfl)) (by decide) (by decide) (fun K hK => ?_) (fun K hK => ?_)
                        · skip
                          obtain ⟨AL_, cL_, eL_⟩ := Kd.R_slice (HI.out.rows.1 3)
                          replace eL_ : L0 = .slice AL_ 1 cL_ := eL_
                          subst eL_
                          refine Kd.R_append_rows_step Kd.string (w0 := w) w.heap.size (by rfl) (.tmp 59) (.tmp 61) 22 9 (.string ⟨#[]⟩) 16 rfl Try.underlying22 info9 rfl (by decide) (by omega) Bc xs [sv] _ _ _ (fun _ => True) (fun _ => False) rfl rfl ?aO ?aR (fun _ _ h => h) (fun _ h => h.elim) (fun _ _ => trivial) ?aB ?aS ?aL ?_
                          (case aO => exact HI.out.rows.1 0)
                          (case aR => exact (Kd.R_reads' (HI.out.rows.1 3)).2.2)
                          (case aB => exact HI.out.below)
                          (case aS => exact HI.out.below.size)
                          (case aL => have h_ := HXL.out; omega)
                          intro V0 wm38_4 ho hb hg hat
                          have n1_ := Aside0.mk (rs_eq (rs_app HI.out 0 ho hb hg hat) (rup0 _ _ _ _ _ _ _))
                          clear hg hat ho hb HI
                          have HI := n1_
                          clear n1_
                          refine hK.out _ _ ⟨(rs_cells HI.out).1, (rs_cells HI.out).2.1, (rs_cells HI.out).2.2⟩ (fun hHeld => ?_)
                          clear hK K
                          refine norm_ (a' := ?_) ?_ ?_
                          rotate_left
                          · show Act.put _ (some 62) _ = _
                            simp only [Act.put, List.setIfInBounds_toArray, List.set_cons_zero, List.set_cons_succ, i64_w, i32_w]
                            rfl
                          refine pure_ (i := 15) (N := some 73) (v := ?_) (a' := ?_) #[true, true, true, true, true, true, true, true, true, false, true, true, true, false, false, true, false, false, false, false, false] rfl rfl (any_of HT_.out (by kernel_rfl)) (fun _ _ _ h => h) (Or.inl ⟨by rfl, ?_⟩) ?_ ?_
                          rotate_left
                          · intro w'
                            go_simp
                            with_reducible rfl
                          rotate_left
                          · simp only [Act.put, List.setIfInBounds_toArray, List.set_cons_zero, List.set_cons_succ, i64_w, i32_w]
                            rfl
                          exact norm_ (by first | (simp only [putAll, Act.put, List.setIfInBounds_toArray, List.set_cons_zero, List.set_cons_succ]; done) | (simp only [putAll, Act.put, List.setIfInBounds_toArray, List.set_cons_zero, List.set_cons_succ]; rfl)) (hJ3_4_8 (.slice AL_ 1 cL_, V0, L1) _ ⟨rs_cells HI.out, HI.out⟩)
                        · skip
                          refine Kd.R_lit_step Kd.string _ 9 ?hg (N := 71) ?hd (xs := ([sv] : List ByteArray)) (inner := [.string sv]) (ok := fun _ => True) (okp := fun _ => True) ?hr ?hp (fun _ hk => hk) trivial (Below.refl _ _) (Nat.le_refl _) (by simp) ?_
                          (case hd => rfl)
                          (case hg => rfl)
                          (case hr => first | (go_simp; done) | (go_simp; rfl))
                          (case hp => exact (Reps.one (show Kd.M Kd.string _ _ _ sv [.string sv] from rfl) (Reps.none _ _)))
                          intro L2 wm38_13 ho hb hg_ hnew_
                          have n1_ := Aside0.mk (rs_eq (rs_lit HI.out 5 ho hb hnew_) (rup5 _ _ _ _ _ _ _))
                          clear hg_ hnew_ ho hb HI
                          have HI := n1_
                          clear n1_
                          refine hK.out _ _ ⟨(rs_cells HI.out).1, (rs_cells HI.out).2.1, (rs_cells HI.out).2.2⟩ (fun hHeld => ?_)
                          clear hK K
                          refine norm_ (a' := ?_) ?_ ?_
                          rotate_left
                          · show Act.put _ (some 71) _ = _
                            simp only [Act.put, List.setIfInBounds_toArray, List.set_cons_zero, List.set_cons_succ, i64_w, i32_w]
                            rfl
                          exact norm_ (by first | (simp only [putAll, Act.put, List.setIfInBounds_toArray, List.set_cons_zero, List.set_cons_succ]; done) | (simp only [putAll, Act.put, List.setIfInBounds_toArray, List.set_cons_zero, List.set_cons_succ]; rfl)) (hJ3_8_13 (L0, L1, L2) _ ⟨rs_cells HI.out, HI.out⟩)
                    · skip
                      clear HI
                      rintro ⟨L0, V0⟩ wn34 ⟨hS_, hI_⟩
                      have hHeld : wn34.cell? ⟨gc, 3, none⟩ = some Bc ∧ wn34.cell? ⟨gf, 3, none⟩ = some Bf ∧ wn34.cell? ⟨gy, 3, none⟩ = some By := hS_
                      try dsimp only at hI_
                      have HI := Aside0.mk hI_
                      clear hI_ hS_
                      refine norm_ (a' := ?_) ?_ ?_
                      rotate_left
                      · simp only [putAll, Act.put, List.setIfInBounds_toArray, List.set_cons_zero, List.set_cons_succ]
                        rfl
                      refine two_ (i := 8) (j := 13) (Ni := some 66) (Nj := some 71) #[true, true, true, true, true, true, true, true, true, false, true, true, true, false, false, true, false, false, false, false, false] #[true, true, true, true, true, true, true, true, false, false, true, true, true, true, false, true, false, false, false, false, false] rfl rfl rfl rfl (two_of HT_.out (by kernel_rfl)) (by decide) (by decide) (fun K hK => ?_) (fun K hK => ?_)
                      · skip
                        refine Kd.R_lit_step Kd.string _ 9 ?hg (N := 66) ?hd (xs := ([sv] : List ByteArray)) (inner := [.string sv]) (ok := fun _ => True) (okp := fun _ => True) ?hr ?hp (fun _ hk => hk) trivial (Below.refl _ _) (Nat.le_refl _) (by simp) ?_
                        (case hd => rfl)
                        (case hg => rfl)
                        (case hr => first | (go_simp; done) | (go_simp; rfl))
                        (case hp => exact (Reps.one (show Kd.M Kd.string _ _ _ sv [.string sv] from rfl) (Reps.none _ _)))
                        intro L1 wm34_8 ho hb hg_ hnew_
                        have n1_ := Aside0.mk (rs_eq (rs_lit HI.out 4 ho hb hnew_) (rup4 _ _ _ _ _ _ _))
                        clear hg_ hnew_ ho hb HI
                        have HI := n1_
                        clear n1_
                        refine hK.out _ _ ⟨(rs_cells HI.out).1, (rs_cells HI.out).2.1, (rs_cells HI.out).2.2⟩ (fun hHeld => ?_)
                        clear hK K
                        refine norm_ (a' := ?_) ?_ ?_
                        rotate_left
                        · show Act.put _ (some 66) _ = _
                          simp only [Act.put, List.setIfInBounds_toArray, List.set_cons_zero, List.set_cons_succ, i64_w, i32_w]
                          rfl
                        exact norm_ (by first | (simp only [putAll, Act.put, List.setIfInBounds_toArray, List.set_cons_zero, List.set_cons_succ]; done) | (simp only [putAll, Act.put, List.setIfInBounds_toArray, List.set_cons_zero, List.set_cons_succ]; rfl)) (hJ3_4_8 (L0, V0, L1) _ ⟨rs_cells HI.out, HI.out⟩)
                      · skip
                        refine Kd.R_lit_step Kd.string _ 9 ?hg (N := 71) ?hd (xs := ([sv] : List ByteArray)) (inner := [.string sv]) (ok := fun _ => True) (okp := fun _ => True) ?hr ?hp (fun _ hk => hk) trivial (Below.refl _ _) (Nat.le_refl _) (by simp) ?_
                        (case hd => rfl)
                        (case hg => rfl)
                        (case hr => first | (go_simp; done) | (go_simp; rfl))
                        (case hp => exact (Reps.one (show Kd.M Kd.string _ _ _ sv [.string sv] from rfl) (Reps.none _ _)))
                        intro L2 wm34_13 ho hb hg_ hnew_
                        have n1_ := Aside0.mk (rs_eq (rs_lit HI.out 5 ho hb hnew_) (rup5 _ _ _ _ _ _ _))
                        clear hg_ hnew_ ho hb HI
                        have HI := n1_
                        clear n1_
                        refine hK.out _ _ ⟨(rs_cells HI.out).1, (rs_cells HI.out).2.1, (rs_cells HI.out).2.2⟩ (fun hHeld => ?_)
                        clear hK K
                        refine norm_ (a' := ?_) ?_ ?_
                        rotate_left
                        · show Act.put _ (some 71) _ = _
                          simp only [Act.put, List.setIfInBounds_toArray, List.set_cons_zero, List.set_cons_succ, i64_w, i32_w]
                          rfl
                        exact norm_ (by first | (simp only [putAll, Act.put, List.setIfInBounds_toArray, List.set_cons_zero, List.set_cons_succ]; done) | (simp only [putAll, Act.put, List.setIfInBounds_toArray, List.set_cons_zero, List.set_cons_succ]; rfl)) (hJ3_4_13 (L0, V0, L2) _ ⟨rs_cells HI.out, HI.out⟩)
                  · skip
                    clear HI
                    rintro ⟨L0, L1, L2⟩ wn3813 ⟨hS_, hI_⟩
                    have hHeld : wn3813.cell? ⟨gc, 3, none⟩ = some Bc ∧ wn3813.cell? ⟨gf, 3, none⟩ = some Bf ∧ wn3813.cell? ⟨gy, 3, none⟩ = some By := hS_
                    try dsimp only at hI_
                    have HI := Aside0.mk hI_
                    clear hI_ hS_
                    refine norm_ (a' := ?_) ?_ ?_
                    rotate_left
                    · simp only [putAll, Act.put, List.setIfInBounds_toArray, List.set_cons_zero, List.set_cons_succ]
                      rfl
                    refine one_ (i := 4) (N := some 62) #[true, true, true, true, true, true, true, true, true, false, true, true, true, true, false, false, false, false, false, false, false] rfl rfl (one_of HT_.out (by kernel_rfl)) (by decide) (fun K hK => ?_)
                    obtain ⟨AL_, cL_, eL_⟩ := Kd.R_slice (HI.out.rows.1 3)
                    replace eL_ : L0 = .slice AL_ 1 cL_ := eL_
                    subst eL_
                    refine Kd.R_append_rows_step Kd.string (w0 := w) w.heap.size (by rfl) (.tmp 59) (.tmp 61) 22 9 (.string ⟨#[]⟩) 16 rfl Try.underlying22 info9 rfl (by decide) (by omega) Bc xs [sv] _ _ _ (fun _ => True) (fun _ => False) rfl rfl ?aO ?aR (fun _ _ h => h) (fun _ h => h.elim) (fun _ _ => trivial) ?aB ?aS ?aL ?_
                    (case aO => exact HI.out.rows.1 0)
                    (case aR => exact (Kd.R_reads' (HI.out.rows.1 3)).2.2)
                    (case aB => exact HI.out.below)
                    (case aS => exact HI.out.below.size)
                    (case aL => have h_ := HXL.out; omega)
                    intro V0 wm3813_4 ho hb hg hat
                    have n1_ := Aside0.mk (rs_eq (rs_app HI.out 0 ho hb hg hat) (rup0 _ _ _ _ _ _ _))
                    clear hg hat ho hb HI
                    have HI := n1_
                    clear n1_
                    refine hK.out _ _ ⟨(rs_cells HI.out).1, (rs_cells HI.out).2.1, (rs_cells HI.out).2.2⟩ (fun hHeld => ?_)
                    clear hK K
                    refine norm_ (a' := ?_) ?_ ?_
                    rotate_left
                    · show Act.put _ (some 62) _ = _
                      simp only [Act.put, List.setIfInBounds_toArray, List.set_cons_zero, List.set_cons_succ, i64_w, i32_w]
                      rfl
                    refine pure_ (i := 15) (N := some 73) (v := ?_) (a' := ?_) #[true, true, true, true, true, true, true, true, true, false, true, true, true, true, false, true, false, false, false, false, false] rfl rfl (any_of HT_.out (by kernel_rfl)) (fun _ _ _ h => h) (Or.inl ⟨by rfl, ?_⟩) ?_ ?_
                    rotate_left
                    · intro w'
                      go_simp
                      with_reducible rfl
                    rotate_left
                    · simp only [Act.put, List.setIfInBounds_toArray, List.set_cons_zero, List.set_cons_succ, i64_w, i32_w]
                      rfl
                    exact norm_ (by first | (simp only [putAll, Act.put, List.setIfInBounds_toArray, List.set_cons_zero, List.set_cons_succ]; done) | (simp only [putAll, Act.put, List.setIfInBounds_toArray, List.set_cons_zero, List.set_cons_succ]; rfl)) (hJ3_4_8_13 (.slice AL_ 1 cL_, V0, L1, L2) _ ⟨rs_cells HI.out, HI.out⟩)
                · skip
                  clear HI
                  rintro ⟨L0, V0, L2⟩ wn3413 ⟨hS_, hI_⟩
                  have hHeld : wn3413.cell? ⟨gc, 3, none⟩ = some Bc ∧ wn3413.cell? ⟨gf, 3, none⟩ = some Bf ∧ wn3413.cell? ⟨gy, 3, none⟩ = some By := hS_
                  try dsimp only at hI_
                  have HI := Aside0.mk hI_
                  clear hI_ hS_
                  refine norm_ (a' := ?_) ?_ ?_
                  rotate_left
                  · simp only [putAll, Act.put, List.setIfInBounds_toArray, List.set_cons_zero, List.set_cons_succ]
                    rfl
                  refine one_ (i := 8) (N := some 66) #[true, true, true, true, true, true, true, true, true, false, true, true, true, true, false, true, false, false, false, false, false] rfl rfl (one_of HT_.out (by kernel_rfl)) (by decide) (fun K hK => ?_)
                  refine Kd.R_lit_step Kd.string _ 9 ?hg (N := 66) ?hd (xs := ([sv] : List ByteArray)) (inner := [.string sv]) (ok := fun _ => True) (okp := fun _ => True) ?hr ?hp (fun _ hk => hk) trivial (Below.refl _ _) (Nat.le_refl _) (by simp) ?_
                  (case hd => rfl)
                  (case hg => rfl)
                  (case hr => first | (go_simp; done) | (go_simp; rfl))
                  (case hp => exact (Reps.one (show Kd.M Kd.string _ _ _ sv [.string sv] from rfl) (Reps.none _ _)))
                  intro L1 wm3413_8 ho hb hg_ hnew_
                  have n1_ := Aside0.mk (rs_eq (rs_lit HI.out 4 ho hb hnew_) (rup4 _ _ _ _ _ _ _))
                  clear hg_ hnew_ ho hb HI
                  have HI := n1_
                  clear n1_
                  refine hK.out _ _ ⟨(rs_cells HI.out).1, (rs_cells HI.out).2.1, (rs_cells HI.out).2.2⟩ (fun hHeld => ?_)
                  clear hK K
                  refine norm_ (a' := ?_) ?_ ?_
                  rotate_left
                  · show Act.put _ (some 66) _ = _
                    simp only [Act.put, List.setIfInBounds_toArray, List.set_cons_zero, List.set_cons_succ, i64_w, i32_w]
                    rfl
                  exact norm_ (by first | (simp only [putAll, Act.put, List.setIfInBounds_toArray, List.set_cons_zero, List.set_cons_succ]; done) | (simp only [putAll, Act.put, List.setIfInBounds_toArray, List.set_cons_zero, List.set_cons_succ]; rfl)) (hJ3_4_8_13 (L0, V0, L1, L2) _ ⟨rs_cells HI.out, HI.out⟩)
              · skip
                clear HI
                rintro ⟨L0, V0, L1⟩ wn348 ⟨hS_, hI_⟩
                have hHeld : wn348.cell? ⟨gc, 3, none⟩ = some Bc ∧ wn348.cell? ⟨gf, 3, none⟩ = some Bf ∧ wn348.cell? ⟨gy, 3, none⟩ = some By := hS_
                try dsimp only at hI_
                have HI := Aside0.mk hI_
                clear hI_ hS_
                refine norm_ (a' := ?_) ?_ ?_
                rotate_left
                · simp only [putAll, Act.put, List.setIfInBounds_toArray, List.set_cons_zero, List.set_cons_succ]
                  rfl
                refine two_ (i := 9) (j := 13) (Ni := some 67) (Nj := some 71) #[true, true, true, true, true, true, true, true, true, true, true, true, true, false, false, true, false, false, false, false, false] #[true, true, true, true, true, true, true, true, true, false, true, true, true, true, false, true, false, false, false, false, false] rfl rfl rfl rfl (two_of HT_.out (by kernel_rfl)) (by decide) (by decide) (fun K hK => ?_) (fun K hK => ?_)
                · skip
                  obtain ⟨AL_, cL_, eL_⟩ := Kd.R_slice (HI.out.rows.1 4)
                  replace eL_ : L1 = .slice AL_ 1 cL_ := eL_
                  subst eL_
                  refine Kd.R_append_rows_step Kd.string (w0 := w) w.heap.size (by rfl) (.tmp 64) (.tmp 66) 22 9 (.string ⟨#[]⟩) 16 rfl Try.underlying22 info9 rfl (by decide) (by omega) Bf xs [sv] _ _ _ (fun _ => True) (fun _ => False) rfl rfl ?aO ?aR (fun _ _ h => h) (fun _ h => h.elim) (fun _ _ => trivial) ?aB ?aS ?aL ?_
                  (case aO => exact HI.out.rows.1 1)
                  (case aR => exact (Kd.R_reads' (HI.out.rows.1 4)).2.2)
                  (case aB => exact HI.out.below)
                  (case aS => exact HI.out.below.size)
                  (case aL => have h_ := HXL.out; omega)
                  intro V1 wm348_9 ho hb hg hat
                  have n1_ := Aside0.mk (rs_eq (rs_app HI.out 1 ho hb hg hat) (rup1 _ _ _ _ _ _ _))
                  clear hg hat ho hb HI
                  have HI := n1_
                  clear n1_
                  refine hK.out _ _ ⟨(rs_cells HI.out).1, (rs_cells HI.out).2.1, (rs_cells HI.out).2.2⟩ (fun hHeld => ?_)
                  clear hK K
                  refine norm_ (a' := ?_) ?_ ?_
                  rotate_left
                  · show Act.put _ (some 67) _ = _
                    simp only [Act.put, List.setIfInBounds_toArray, List.set_cons_zero, List.set_cons_succ, i64_w, i32_w]
                    rfl
                  exact norm_ (by first | (simp only [putAll, Act.put, List.setIfInBounds_toArray, List.set_cons_zero, List.set_cons_succ]; done) | (simp only [putAll, Act.put, List.setIfInBounds_toArray, List.set_cons_zero, List.set_cons_succ]; rfl)) (hJ3_4_8_9 (L0, V0, .slice AL_ 1 cL_, V1) _ ⟨rs_cells HI.out, HI.out⟩)
                · skip
                  refine Kd.R_lit_step Kd.string _ 9 ?hg (N := 71) ?hd (xs := ([sv] : List ByteArray)) (inner := [.string sv]) (ok := fun _ => True) (okp := fun _ => True) ?hr ?hp (fun _ hk => hk) trivial (Below.refl _ _) (Nat.le_refl _) (by simp) ?_
                  (case hd => rfl)
                  (case hg => rfl)
                  (case hr => first | (go_simp; done) | (go_simp; rfl))
                  (case hp => exact (Reps.one (show Kd.M Kd.string _ _ _ sv [.string sv] from rfl) (Reps.none _ _)))
                  intro L2 wm348_13 ho hb hg_ hnew_
                  have n1_ := Aside0.mk (rs_eq (rs_lit HI.out 5 ho hb hnew_) (rup5 _ _ _ _ _ _ _))
                  clear hg_ hnew_ ho hb HI
                  have HI := n1_
                  clear n1_
                  refine hK.out _ _ ⟨(rs_cells HI.out).1, (rs_cells HI.out).2.1, (rs_cells HI.out).2.2⟩ (fun hHeld => ?_)
                  clear hK K
                  refine norm_ (a' := ?_) ?_ ?_
                  rotate_left
                  · show Act.put _ (some 71) _ = _
                    simp only [Act.put, List.setIfInBounds_toArray, List.set_cons_zero, List.set_cons_succ, i64_w, i32_w]
                    rfl
                  exact norm_ (by first | (simp only [putAll, Act.put, List.setIfInBounds_toArray, List.set_cons_zero, List.set_cons_succ]; done) | (simp only [putAll, Act.put, List.setIfInBounds_toArray, List.set_cons_zero, List.set_cons_succ]; rfl)) (hJ3_4_8_13 (L0, V0, L1, L2) _ ⟨rs_cells HI.out, HI.out⟩)
            · skip
              clear HI
              rintro ⟨L0, V0, L1, L2⟩ wn34813 ⟨hS_, hI_⟩
              have hHeld : wn34813.cell? ⟨gc, 3, none⟩ = some Bc ∧ wn34813.cell? ⟨gf, 3, none⟩ = some Bf ∧ wn34813.cell? ⟨gy, 3, none⟩ = some By := hS_
              try dsimp only at hI_
              have HI := Aside0.mk hI_
              clear hI_ hS_
              refine norm_ (a' := ?_) ?_ ?_
              rotate_left
              · simp only [putAll, Act.put, List.setIfInBounds_toArray, List.set_cons_zero, List.set_cons_succ]
                rfl
              refine one_ (i := 9) (N := some 67) #[true, true, true, true, true, true, true, true, true, true, true, true, true, true, false, true, false, false, false, false, false] rfl rfl (one_of HT_.out (by kernel_rfl)) (by decide) (fun K hK => ?_)
              obtain ⟨AL_, cL_, eL_⟩ := Kd.R_slice (HI.out.rows.1 4)
              replace eL_ : L1 = .slice AL_ 1 cL_ := eL_
              subst eL_
              refine Kd.R_append_rows_step Kd.string (w0 := w) w.heap.size (by rfl) (.tmp 64) (.tmp 66) 22 9 (.string ⟨#[]⟩) 16 rfl Try.underlying22 info9 rfl (by decide) (by omega) Bf xs [sv] _ _ _ (fun _ => True) (fun _ => False) rfl rfl ?aO ?aR (fun _ _ h => h) (fun _ h => h.elim) (fun _ _ => trivial) ?aB ?aS ?aL ?_
              (case aO => exact HI.out.rows.1 1)
              (case aR => exact (Kd.R_reads' (HI.out.rows.1 4)).2.2)
              (case aB => exact HI.out.below)
              (case aS => exact HI.out.below.size)
              (case aL => have h_ := HXL.out; omega)
              intro V1 wm34813_9 ho hb hg hat
              have n1_ := Aside0.mk (rs_eq (rs_app HI.out 1 ho hb hg hat) (rup1 _ _ _ _ _ _ _))
              clear hg hat ho hb HI
              have HI := n1_
              clear n1_
              refine hK.out _ _ ⟨(rs_cells HI.out).1, (rs_cells HI.out).2.1, (rs_cells HI.out).2.2⟩ (fun hHeld => ?_)
              clear hK K
              refine norm_ (a' := ?_) ?_ ?_
              rotate_left
              · show Act.put _ (some 67) _ = _
                simp only [Act.put, List.setIfInBounds_toArray, List.set_cons_zero, List.set_cons_succ, i64_w, i32_w]
                rfl
              exact norm_ (by first | (simp only [putAll, Act.put, List.setIfInBounds_toArray, List.set_cons_zero, List.set_cons_succ]; done) | (simp only [putAll, Act.put, List.setIfInBounds_toArray, List.set_cons_zero, List.set_cons_succ]; rfl)) (hJ3_4_8_9_13 (L0, V0, .slice AL_ 1 cL_, V1, L2) _ ⟨rs_cells HI.out, HI.out⟩)
          · skip
            clear HI
            rintro ⟨L0, V0, L1, V1⟩ wn3489 ⟨hS_, hI_⟩
            have hHeld : wn3489.cell? ⟨gc, 3, none⟩ = some Bc ∧ wn3489.cell? ⟨gf, 3, none⟩ = some Bf ∧ wn3489.cell? ⟨gy, 3, none⟩ = some By := hS_
            try dsimp only at hI_
            have HI := Aside0.mk hI_
            clear hI_ hS_
            refine norm_ (a' := ?_) ?_ ?_
            rotate_left
            · simp only [putAll, Act.put, List.setIfInBounds_toArray, List.set_cons_zero, List.set_cons_succ]
              rfl
            refine one_ (i := 13) (N := some 71) #[true, true, true, true, true, true, true, true, true, true, true, true, true, true, false, true, false, false, false, false, false] rfl rfl (one_of HT_.out (by kernel_rfl)) (by decide) (fun K hK => ?_)
            refine Kd.R_lit_step Kd.string _ 9 ?hg (N := 71) ?hd (xs := ([sv] : List ByteArray)) (inner := [.string sv]) (ok := fun _ => True) (okp := fun _ => True) ?hr ?hp (fun _ hk => hk) trivial (Below.refl _ _) (Nat.le_refl _) (by simp) ?_
            (case hd => rfl)
            (case hg => rfl)
            (case hr => first | (go_simp; done) | (go_simp; rfl))
            (case hp => exact (Reps.one (show Kd.M Kd.string _ _ _ sv [.string sv] from rfl) (Reps.none _ _)))
            intro L2 wm3489_13 ho hb hg_ hnew_
            have n1_ := Aside0.mk (rs_eq (rs_lit HI.out 5 ho hb hnew_) (rup5 _ _ _ _ _ _ _))
            clear hg_ hnew_ ho hb HI
            have HI := n1_
            clear n1_
            refine hK.out _ _ ⟨(rs_cells HI.out).1, (rs_cells HI.out).2.1, (rs_cells HI.out).2.2⟩ (fun hHeld => ?_)
            clear hK K
            refine norm_ (a' := ?_) ?_ ?_
            rotate_left
            · show Act.put _ (some 71) _ = _
              simp only [Act.put, List.setIfInBounds_toArray, List.set_cons_zero, List.set_cons_succ, i64_w, i32_w]
              rfl
            exact norm_ (by first | (simp only [putAll, Act.put, List.setIfInBounds_toArray, List.set_cons_zero, List.set_cons_succ]; done) | (simp only [putAll, Act.put, List.setIfInBounds_toArray, List.set_cons_zero, List.set_cons_succ]; rfl)) (hJ3_4_8_9_13 (L0, V0, L1, V1, L2) _ ⟨rs_cells HI.out, HI.out⟩)
        clear HI
        rintro ⟨L0, V0, L1, V1, L2⟩ wn348913 ⟨hS_, hI_⟩
        have hHeld : wn348913.cell? ⟨gc, 3, none⟩ = some Bc ∧ wn348913.cell? ⟨gf, 3, none⟩ = some Bf ∧ wn348913.cell? ⟨gy, 3, none⟩ = some By := hS_
        try dsimp only at hI_
        have HI := Aside0.mk hI_
        clear hI_ hS_
        refine norm_ (a' := ?_) ?_ ?_
        rotate_left
        · simp only [putAll, Act.put, List.setIfInBounds_toArray, List.set_cons_zero, List.set_cons_succ]
          rfl
        refine one_ (i := 14) (N := some 72) #[true, true, true, true, true, true, true, true, true, true, true, true, true, true, true, true, false, false, false, false, false] rfl rfl (one_of HT_.out (by kernel_rfl)) (by decide) (fun K hK => ?_)
        obtain ⟨AL_, cL_, eL_⟩ := Kd.R_slice (HI.out.rows.1 5)
        replace eL_ : L2 = .slice AL_ 1 cL_ := eL_
        subst eL_
        refine Kd.R_append_rows_step Kd.string (w0 := w) w.heap.size (by rfl) (.tmp 69) (.tmp 71) 22 9 (.string ⟨#[]⟩) 16 rfl Try.underlying22 info9 rfl (by decide) (by omega) By xs [sv] _ _ _ (fun _ => True) (fun _ => False) rfl rfl ?aO ?aR (fun _ _ h => h) (fun _ h => h.elim) (fun _ _ => trivial) ?aB ?aS ?aL ?_
        (case aO => exact HI.out.rows.1 2)
        (case aR => exact (Kd.R_reads' (HI.out.rows.1 5)).2.2)
        (case aB => exact HI.out.below)
        (case aS => exact HI.out.below.size)
        (case aL => have h_ := HXL.out; omega)
        intro V2 wm348913_14 ho hb hg hat
        have n1_ := Aside0.mk (rs_eq (rs_app HI.out 2 ho hb hg hat) (rup2 _ _ _ _ _ _ _))
        clear hg hat ho hb HI
        have HI := n1_
        clear n1_
        refine hK.out _ _ ⟨(rs_cells HI.out).1, (rs_cells HI.out).2.1, (rs_cells HI.out).2.2⟩ (fun hHeld => ?_)
        clear hK K
        refine norm_ (a' := ?_) ?_ ?_
        rotate_left
        · show Act.put _ (some 72) _ = _
          simp only [Act.put, List.setIfInBounds_toArray, List.set_cons_zero, List.set_cons_succ, i64_w, i32_w]
          rfl
        refine last_ (i := 16) (N := none) #[true, true, true, true, true, true, true, true, true, true, true, true, true, true, true, true, true, false, false, false, false] rfl rfl (one_of HT_.out (by kernel_rfl)) (by decide) (fun K hK => ?_)
        obtain ⟨AV0, cV0, eV_⟩ := Kd.R_slice (HI.out.rows.1 0)
        replace eV_ : V0 = .slice AV0 (xs ++ [sv]).length cV0 := eV_
        rw [HLX.out] at eV_
        subst eV_
        have hs_ := (rs_cells HI.out).1
        have hf_ := (rs_frozen HI.out).1
        refine skip_ (w1 := ?_) (by rfl) rfl ?_ ?_
        rotate_left
        · go_simp
          rfl
        clear hs_ hf_
        have n1_ := Aside0.mk (rs_setc HI.out (.slice AV0 lx cV0))
        clear HI
        have HI := n1_
        clear n1_
        refine hK.out _ _ ?_
        clear hK K
        refine pure_ (i := 17) (N := some 74) (v := ?_) (a' := ?_) #[true, true, true, true, true, true, true, true, true, true, true, true, true, true, true, true, true, true, false, false, false] rfl rfl (any_of HT_.out (by kernel_rfl)) (fun _ _ _ h => h) (Or.inl ⟨by rfl, ?_⟩) ?_ ?_
        rotate_left
        · intro w'
          go_simp
          with_reducible rfl
        rotate_left
        · simp only [Act.put, List.setIfInBounds_toArray, List.set_cons_zero, List.set_cons_succ, i64_w, i32_w]
          rfl
        refine last_ (i := 18) (N := none) #[true, true, true, true, true, true, true, true, true, true, true, true, true, true, true, true, true, true, true, false, false] rfl rfl (one_of HT_.out (by kernel_rfl)) (by decide) (fun K hK => ?_)
        obtain ⟨AV1, cV1, eV_⟩ := Kd.R_slice (HI.out.rows.1 1)
        replace eV_ : V1 = .slice AV1 (xs ++ [sv]).length cV1 := eV_
        rw [HLX.out] at eV_
        subst eV_
        have hs_ := (rs_cells HI.out).2.1
        have hf_ := (rs_frozen HI.out).2.1
        refine skip_ (w1 := ?_) (by rfl) rfl ?_ ?_
        rotate_left
        · go_simp
          rfl
        clear hs_ hf_
        have n1_ := Aside0.mk (rs_setf HI.out (.slice AV1 lx cV1))
        clear HI
        have HI := n1_
        clear n1_
        refine hK.out _ _ ?_
        clear hK K
        refine pure_ (i := 19) (N := some 75) (v := ?_) (a' := ?_) #[true, true, true, true, true, true, true, true, true, true, true, true, true, true, true, true, true, true, true, true, false] rfl rfl (any_of HT_.out (by kernel_rfl)) (fun _ _ _ h => h) (Or.inl ⟨by rfl, ?_⟩) ?_ ?_
        rotate_left
        · intro w'
          go_simp
          with_reducible rfl
        rotate_left
        · simp only [Act.put, List.setIfInBounds_toArray, List.set_cons_zero, List.set_cons_succ, i64_w, i32_w]
          rfl
        refine last_ (i := 20) (N := none) #[true, true, true, true, true, true, true, true, true, true, true, true, true, true, true, true, true, true, true, true, true] rfl rfl (one_of HT_.out (by kernel_rfl)) (by decide) (fun K hK => ?_)
        obtain ⟨AV2, cV2, eV_⟩ := Kd.R_slice (HI.out.rows.1 2)
        replace eV_ : V2 = .slice AV2 (xs ++ [sv]).length cV2 := eV_
        rw [HLX.out] at eV_
        subst eV_
        have hs_ := (rs_cells HI.out).2.2
        have hf_ := (rs_frozen HI.out).2.2
        refine skip_ (w1 := ?_) (by rfl) rfl ?_ ?_
        rotate_left
        · go_simp
          rfl
        clear hs_ hf_
        have n1_ := Aside0.mk (rs_sety HI.out (.slice AV2 lx cV2))
        clear HI
        have HI := n1_
        clear n1_
        refine hK.out _ _ ?_
        clear hK K
        refine done_ (done_of HT_.out (by kernel_rfl)) ?_

        have n1_ := Aside0.mk (rs_eq (rs_drop (rs_eq (rs_drop (rs_eq (rs_drop HI.out 3) (rup3 _ _ _ _ _ _ _)) 4) (rup4 _ _ _ _ _ _ _)) 5) (rup5 _ _ _ _ _ _ _))
        rw [← HXS.out] at n1_
        clear HI
        have HI := n1_
        clear n1_
        go_wp2
        go_roundg k1
        case measure => omega
        case rel => exact ⟨i + 1, by go_num, ⟨by have h_ := HJ.out; omega, by have h_ := HJ.out; omega⟩, _, _, _, HI⟩
    · have hik : k = i := by have h_ := HJ.out; omega
      subst hik
      clear hlt HJ
      obtain ⟨xs, hxs⟩ : ∃ x_, rsy k = x_ := ⟨_, rfl⟩
      have hlk : xs.length = k := by rw [← hxs, rsy_len]
      rw [hxs] at HI HCS HFS HYS HSS HFW
      obtain ⟨Ac, c0, eC⟩ := Kd.R_slice (HI.out.rows.1 0)
      obtain ⟨Af, c1, eF⟩ := Kd.R_slice (HI.out.rows.1 1)
      obtain ⟨Ay, c2, eY⟩ := Kd.R_slice (HI.out.rows.1 2)
      replace eC : Bc = .slice Ac xs.length c0 := eC
      replace eF : Bf = .slice Af xs.length c1 := eF
      replace eY : By = .slice Ay xs.length c2 := eY
      subst eC eF eY
      have HLK := Aside0.mk hlk
      clear hlk hxs
      as_aux_lemma =>
      go_upto_region 10 with (fail)
      have hrd_ := Kd.R_reads' (A := Ac) (n := xs.length) (c := c0) (xs := xs) (HI.out.rows.1 0)
      have HC := Aside0.mk hrd_.2.2
      have HL := Aside0.mk hrd_.2.1
      clear hrd_
      obtain ⟨cz0, cz1, cz2, cz3, cz4, cz5, cz6, cz7, cz8, cz9, cz10, cz11, cz12, cz13, cz14, cz15⟩ := rd_cells HI.out.bc
      go_upto_region 11 with (go_at_call 11; (with_reducible refine (rd_sig 400 (⟨#[99, 121, 99, 108, 105, 99]⟩ : ByteArray) 1 xs n S true HC.out HL.out HCS.out).mono ?_); rintro e w10 ⟨rfl, hb⟩; have n1_ := Aside0.mk (rs_step HI.out hb); clear HI; have HI := n1_; clear n1_ hb HC HL)
      clear cz0 cz1 cz2 cz3 cz4 cz5 cz6 cz7 cz8 cz9 cz10 cz11 cz12 cz13 cz14 cz15
      as_aux_lemma =>
      have hrd_ := Kd.R_reads' (A := Af) (n := xs.length) (c := c1) (xs := xs) (HI.out.rows.1 1)
      have HC := Aside0.mk hrd_.2.2
      have HL := Aside0.mk hrd_.2.1
      clear hrd_
      obtain ⟨cz0, cz1, cz2, cz3, cz4, cz5, cz6, cz7, cz8, cz9, cz10, cz11, cz12, cz13, cz14, cz15⟩ := rd_cells HI.out.bf
      go_upto_region 12 with (go_at_call 11; (with_reducible refine (rd_sig 400 (⟨#[102, 105, 120, 101, 100]⟩ : ByteArray) a2 xs n SF isb HC.out HL.out HFS.out).mono ?_); rintro e w11 ⟨rfl, hb⟩; have n1_ := Aside0.mk (rs_step HI.out hb); clear HI; have HI := n1_; clear n1_ hb HC HL)
      clear cz0 cz1 cz2 cz3 cz4 cz5 cz6 cz7 cz8 cz9 cz10 cz11 cz12 cz13 cz14 cz15
      as_aux_lemma =>
      have hrd_ := Kd.R_reads' (A := Ay) (n := xs.length) (c := c2) (xs := xs) (HI.out.rows.1 2)
      have HC := Aside0.mk hrd_.2.2
      have HL := Aside0.mk hrd_.2.1
      clear hrd_
      obtain ⟨cz0, cz1, cz2, cz3, cz4, cz5, cz6, cz7, cz8, cz9, cz10, cz11, cz12, cz13, cz14, cz15⟩ := rd_cells HI.out.by_
      go_upto_region 13 with (go_at_call 11; (with_reducible refine (rd_sig 400 (⟨#[115, 121, 109, 98, 111, 108, 105, 99]⟩ : ByteArray) 1 xs n sy may HC.out HL.out HYS.out).mono ?_); rintro e w12 ⟨rfl, hb⟩; have n1_ := Aside0.mk (rs_step HI.out hb); clear HI; have HI := n1_; clear n1_ hb HC HL)
      clear cz0 cz1 cz2 cz3 cz4 cz5 cz6 cz7 cz8 cz9 cz10 cz11 cz12 cz13 cz14 cz15
      as_aux_lemma =>
      have hb0 := HRD.out
      go_upto_region 14 with (go_at_call 15; (with_reducible refine (fleuronalike_Round.calls _ _ _ _ HRD.out).mono ?_); rintro e w14 ⟨rfl, hd_⟩; have hb := hd_.below; have n1_ := Aside0.mk (rs_step HI.out hb); clear HI; have HI := n1_; clear n1_ hb hd_)
      clear hb0
      go_cut [136] (fun v136 wx => v136 = .bool false ∧ Aside0 (RS w wx gc gf gy a2 (.slice Ac xs.length c0) (.slice Af xs.length c1) (.slice Ay xs.length c2) (rmk (.slice Ac xs.length c0, xs) (.slice Af xs.length c1, xs) (.slice Ay xs.length c2, xs) rnil rnil rnil)))
      case first =>
        have hC := (Kd.R_reads' (A := Ac) (n := xs.length) (c := c0) (xs := xs) (HI.out.rows.1 0)).2.2
        have hF := (Kd.R_reads' (A := Af) (n := xs.length) (c := c1) (xs := xs) (HI.out.rows.1 1)).2.2
        have hc3 := (rs_cells HI.out).1
        have hf3 := (rs_cells HI.out).2.1
        have qA : at_ < (xs.length : Int) := by rw [HLK.out]; exact hat1
        obtain ⟨adc, eA, hel⟩ := Kd.at_string hC at_ hat0 qA
        subst eA
        rw [HSS.out] at hel
        rcases HFW.out with ⟨e1, e2, e3, e4⟩ | ⟨e1, e2⟩ | ⟨e1, e2, e3⟩
        · have qF : n - a2 < (xs.length : Int) := by rw [HLK.out]; omega
          have pF : 0 ≤ n - a2 := by omega
          obtain ⟨adf, eF, hef⟩ := Kd.at_string hF (n - a2) pF qF
          subst eF
          rw [e4] at hef
          subst e1
          have t1 : decide (a2 ≤ n) = true := decide_eq_true e2
          have t2 : decide (n < a2 + (k : Int)) = true := decide_eq_true e3
          clear hC hF HFW e2 e3 e4
          go_wp2
          go_meet
          case rel => exact ⟨rfl, HI⟩
        · subst e1
          have t1 : decide (a2 ≤ n) = false := decide_eq_false (by omega)
          clear hC hF HFW e2
          go_wp2
          go_meet
          case rel => exact ⟨rfl, HI⟩
        · subst e1
          have t1 : decide (a2 ≤ n) = true := decide_eq_true e2
          have t2 : decide (n < a2 + (k : Int)) = false := decide_eq_false (by omega)
          clear hC hF HFW e2 e3
          go_wp2
          go_meet
          case rel => exact ⟨rfl, HI⟩
      case rest =>
        clear HI
        obtain ⟨rfl, HI⟩ := hcut
        as_aux_lemma =>
        go_upto_region 16 with (fail)
        obtain ⟨T, hT⟩ : ∃ T_ : Int, (n + (k : Int) - 1) / (k : Int) = T_ := ⟨_, rfl⟩
        rw [hT] at HYW
        have hT0 : 1 ≤ n → 0 ≤ T := fun h1 => by rw [← hT]; exact Int.ediv_nonneg (by omega) (by omega)
        have hT1 : 1 ≤ n → T ≤ n + (k : Int) - 1 := fun h1 => by rw [← hT]; exact Int.ediv_le_self _ (by omega)
        rcases HYW.out with ⟨e1, e2, e3⟩ | ⟨e1, e2, e3, e4⟩ | ⟨e1, e2, e3, e4, e5⟩
        · have t1 : decide (n < 1) = true := decide_eq_true e3
          subst e1 e2
          clear HYW e3 hT hT0 hT1
          go_wp2_with (go_at_call 10; (with_reducible refine (fleuronlaw9_awake.calls true _ rfl rfl).mono ?_); rintro e w30 ⟨rfl, hb⟩; have n1_ := Aside0.mk (rs_step HI.out hb); clear HI; have HI := n1_; clear n1_ hb)
          go_ret
          exact ⟨rfl, HI.out.below⟩
        · have t1 : decide (n < 1) = false := decide_eq_false (by omega)
          have t3 : decide (60 < T) = true := decide_eq_true e4
          have hTd : Int.tdiv (n + (k : Int) - 1) (k : Int) = T := by rw [← hT]; exact Int.tdiv_eq_ediv_of_nonneg (by omega)
          have hTw : wrap64 T = T := by have h0_ := hT0 e3; have h1_ := hT1 e3; unfold wrap64; omega
          subst e1 e2
          clear HYW e4 hT0 hT1
          go_wp2_with (go_at_call 10; (with_reducible refine (fleuronlaw9_awake.calls true _ rfl rfl).mono ?_); rintro e w30 ⟨rfl, hb⟩; have n1_ := Aside0.mk (rs_step HI.out hb); clear HI; have HI := n1_; clear n1_ hb)
          go_ret
          exact ⟨rfl, HI.out.below⟩
        · have t1 : decide (n < 1) = false := decide_eq_false (by omega)
          have t3 : decide (60 < T) = false := decide_eq_false (by omega)
          have hTd : Int.tdiv (n + (k : Int) - 1) (k : Int) = T := by rw [← hT]; exact Int.tdiv_eq_ediv_of_nonneg (by omega)
          have hz : sy.size ≤ 60 := by omega
          have HEX := Aside0.mk e5
          subst e1
          obtain rfl := e4
          have t4 : decide (60 < (sy.size : Int)) = false := t3
          clear HYW e3 e5 t3 hT0 hT1
          go_wp2
          go_loopg [19] (sy.size + 1) (fun kq v19 w' => ∃ (i : Nat), v19 = .int .i64 (i : Int) ∧ Aside0 (i + kq = sy.size + 1 ∧ i ≤ sy.size) ∧ Aside0 (RS w w' gc gf gy a2 (.slice Ac xs.length c0) (.slice Af xs.length c1) (.slice Ay xs.length c2) (rmk (.slice Ac xs.length c0, xs) (.slice Af xs.length c1, xs) (.slice Ay xs.length c2, xs) rnil rnil rnil)))
          case atStart => exact ⟨0, rfl, ⟨by omega, by omega⟩, HI⟩
          case round =>
            clear HI
            obtain ⟨i, rfl, HJ, HI⟩ := hrel
            by_cases hlt : i < sy.size
            · have l1 : (i : Int) < (sy.size : Int) := by omega
              have l2 : (0 : Int) ≤ (i : Int) := by omega
              have l3 : (sy.size : Int) ≤ 60 := by omega
              cases gk with
              | zero => exact absurd HJ.out.1 (by have h_ := HJ.out; omega)
              | succ k1 =>
                have hC := (Kd.R_reads' (A := Ac) (n := xs.length) (c := c0) (xs := xs) (HI.out.rows.1 0)).2.2
                have hc3 := (rs_cells HI.out).1
                have qA : at_ < (xs.length : Int) := by rw [HLK.out]; exact hat1
                obtain ⟨adc, eA, hel⟩ := Kd.at_string hC at_ hat0 qA
                subst eA
                rw [HSS.out] at hel
                have hsub := HEX.out i hlt
                clear hC
                have hcut := rd_cut sy i hlt
                go_upto_region 23 with (fail)
                have hw1 : IntKind.i64.wrap ((i : Int) + 1) = (i : Int) + 1 := by rw [i64_w]; unfold wrap64; omega
                go_quiet (fail)
                have n1_ := Aside0.mk (rs_step HI.out (pw_below_drewN (Below.refl _ _) nq))
                clear HI
                have HI := n1_
                clear n1_ hw1 hcut hc3 hel
                go_wp2
                go_roundg k1
                case measure => omega
                case rel => exact ⟨i + 1, by go_num, ⟨by have h_ := HJ.out; omega, by have h_ := HJ.out; omega⟩, HI⟩
            · have his : i = sy.size := by have h_ := HJ.out; omega
              have l1 : decide ((i : Int) < (sy.size : Int)) = false := decide_eq_false (by omega)
              clear hlt HEX
              go_wp2_with (go_at_call 10; (with_reducible refine (fleuronlaw9_awake.calls true _ rfl rfl).mono ?_); rintro e w30 ⟨rfl, hb⟩; have n1_ := Aside0.mk (rs_step HI.out hb); clear HI; have HI := n1_; clear n1_ hb)
              go_ret
              exact ⟨rfl, HI.out.below⟩
set_option maxHeartbeats 20000000 in
set_option maxRecDepth 100000 in
theorem rd_out (a0 a1 a2 : Int) (w : World) (h : (a0 < 1) ∨ (¬ a0 < 1 ∧ a0 > 30) ∨ (¬ a0 < 1 ∧ ¬ a0 > 30 ∧ a1 < -2147483648) ∨ (¬ a0 < 1 ∧ ¬ a0 > 30 ∧ ¬ a1 < -2147483648 ∧ a1 ≥ 2147483648) ∨ (¬ a0 < 1 ∧ ¬ a0 > 30 ∧ ¬ a1 < -2147483648 ∧ ¬ a1 ≥ 2147483648 ∧ a2 < -1000) ∨ (¬ a0 < 1 ∧ ¬ a0 > 30 ∧ ¬ a1 < -2147483648 ∧ ¬ a1 ≥ 2147483648 ∧ ¬ a2 < -1000 ∧ a2 > 1000)) :
    Calls Try.prog 6 #[.int .i64 a0, .int .i64 a1, .int .i64 a2] w fun e w' => e = .returned (.bool true) ∧ Below w.heap.size w w' := by
  have HB := Aside0.mk (Below.refl w.heap.size w)
  rcases h with k0 | ⟨k0, k1⟩ | ⟨k0, k1, k2⟩ | ⟨k0, k1, k2, k3⟩ | ⟨k0, k1, k2, k3, k4⟩ | ⟨k0, k1, k2, k3, k4, k5⟩
  all_goals
    go_enter Try.func6, Try.ntmps6
    go_wp2_with (go_at_call 10; (with_reducible refine (fleuronlaw9_awake.calls true _ rfl rfl).mono ?_); rintro e w30 ⟨rfl, hb⟩; have n1_ := Aside0.mk (below_step HB.out hb); clear HB; have HB := n1_; clear n1_ hb)
    go_ret
    exact ⟨rfl, HB.out⟩
def fleuronlaw9_SystemRound.f (a0 a1 a2 : Int) : Option Bool := some true
theorem fleuronlaw9_SystemRound.calls (a0 a1 a2 : Int) (r : Bool) (w : World) (h : fleuronlaw9_SystemRound.f a0 a1 a2 = some r) (ht0_ : r = true) :
    Calls Try.prog 6 #[.int .i64 a0, .int .i64 a1, .int .i64 a2] w fun e w' => e = .returned (.bool r) ∧ Below w.heap.size w w' := by
  subst ht0_
  by_cases hin : 1 ≤ a0 ∧ a0 ≤ 30 ∧ -2147483648 ≤ a1 ∧ a1 < 2147483648 ∧ -1000 ≤ a2 ∧ a2 ≤ 1000
  · obtain ⟨p1, q1, p2, q2, p3, q3⟩ := hin
    obtain ⟨k, rfl⟩ := Int.eq_ofNat_of_zero_le (show 0 ≤ a0 by omega)
    have h1 : 1 ≤ k := by omega
    have h2 : k ≤ 30 := by omega
    obtain ⟨b1, b2⟩ := rat_bd k h1 h2 a1
    have hR := Aside0.mk (rp_round k h1 a1)
    have hC := Aside0.mk (rp_cyc k h1 h2 a1 p2 q2)
    have hF := rp_fix k h1 h2 a1 a2 p2 q2 p3 q3
    have hY := rp_sym k h1 h2 a1 p2 q2
    obtain ⟨SF, isb, hF2, hFW⟩ : ∃ (SF : ByteArray) (isb : Bool), Aside0 (system_Signs.f 400 (⟨#[]⟩ : ByteArray) (⟨#[102, 105, 120, 101, 100]⟩ : ByteArray) a2 (rsy k) ([] : List Int) (⟨#[]⟩ : ByteArray) (⟨#[]⟩ : ByteArray) (⟨#[]⟩ : ByteArray) (⟨#[]⟩ : ByteArray) true ([] : List S41) 0 (⟨#[]⟩ : ByteArray) (⟨#[]⟩ : ByteArray) (⟨#[]⟩ : ByteArray) 0 a1 = some (SF, isb)) ∧ Aside0 ((isb = true ∧ a2 ≤ a1 ∧ a1 < a2 + (k : Int) ∧ rdOf ByteArray.empty (rsy k) (a1 - a2) = SF) ∨ (isb = false ∧ a1 < a2) ∨ (isb = false ∧ a2 ≤ a1 ∧ a2 + (k : Int) ≤ a1)) := by
      by_cases g : a2 ≤ a1 ∧ a1 < a2 + (k : Int)
      · rw [if_pos g] at hF; exact ⟨_, _, ⟨hF⟩, ⟨.inl ⟨rfl, g.1, g.2, rfl⟩⟩⟩
      · rw [if_neg g] at hF
        refine ⟨_, _, ⟨hF⟩, ⟨.inr ?_⟩⟩
        by_cases g1 : a1 < a2
        · exact .inl ⟨rfl, g1⟩
        · exact .inr ⟨rfl, by omega, by omega⟩
    obtain ⟨sy, may, hY2, hYW⟩ : ∃ (sy : ByteArray) (may : Bool), Aside0 (system_Signs.f 400 (⟨#[]⟩ : ByteArray) (⟨#[115, 121, 109, 98, 111, 108, 105, 99]⟩ : ByteArray) 1 (rsy k) ([] : List Int) (⟨#[]⟩ : ByteArray) (⟨#[]⟩ : ByteArray) (⟨#[]⟩ : ByteArray) (⟨#[]⟩ : ByteArray) true ([] : List S41) 0 (⟨#[]⟩ : ByteArray) (⟨#[]⟩ : ByteArray) (⟨#[]⟩ : ByteArray) 0 a1 = some (sy, may)) ∧ Aside0 ((may = false ∧ sy = (⟨#[]⟩ : ByteArray) ∧ a1 < 1) ∨ (may = false ∧ sy = (⟨#[]⟩ : ByteArray) ∧ 1 ≤ a1 ∧ 60 < (a1 + (k : Int) - 1) / (k : Int)) ∨ (may = true ∧ 1 ≤ a1 ∧ (a1 + (k : Int) - 1) / (k : Int) ≤ 60 ∧ (sy.size : Int) = (a1 + (k : Int) - 1) / (k : Int) ∧ ∀ i, i < sy.size → (sy.extract i (i + 1)).toList = (rdOf ByteArray.empty (rsy k) (rat k a1)).toList)) := by
      by_cases g1 : a1 < 1
      · rw [if_pos g1] at hY; exact ⟨_, _, ⟨hY⟩, ⟨.inl ⟨rfl, rfl, g1⟩⟩⟩
      · rw [if_neg g1] at hY
        by_cases g2 : 60 < (a1 + (k : Int) - 1) / (k : Int)
        · rw [if_pos g2] at hY; exact ⟨_, _, ⟨hY⟩, ⟨.inr (.inl ⟨rfl, rfl, by omega, g2⟩)⟩⟩
        · rw [if_neg g2, ← rat_pos k h1 h2 a1 (by omega)] at hY
          obtain ⟨z1, z2⟩ := rp_rep k h1 (rat k a1) b1 b2 ((a1 + (k : Int) - 1) / (k : Int)).toNat
          obtain ⟨d1, d2⟩ := rp_div k h1 a1 (by omega)
          exact ⟨_, _, ⟨hY⟩, ⟨.inr (.inr ⟨rfl, by omega, by omega, by rw [z1]; omega, fun i hi => z2 i (by rw [z1] at hi; exact hi)⟩)⟩⟩
    exact rd_main k a1 a2 w h1 h2 p2 q2 p3 q3 (rat k a1) (rdOf ByteArray.empty (rsy k) (rat k a1)) SF sy isb may b1 b2 hR ⟨rfl⟩ hC hF2 hY2 hFW hYW
  · by_cases k0 : a0 < 1
    · exact rd_out a0 a1 a2 w (.inl k0)
    by_cases k1 : a0 > 30
    · exact rd_out a0 a1 a2 w (.inr (.inl ⟨k0, k1⟩))
    by_cases k2 : a1 < -2147483648
    · exact rd_out a0 a1 a2 w (.inr (.inr (.inl ⟨k0, k1, k2⟩)))
    by_cases k3 : a1 ≥ 2147483648
    · exact rd_out a0 a1 a2 w (.inr (.inr (.inr (.inl ⟨k0, k1, k2, k3⟩))))
    by_cases k4 : a2 < -1000
    · exact rd_out a0 a1 a2 w (.inr (.inr (.inr (.inr (.inl ⟨k0, k1, k2, k3, k4⟩)))))
    by_cases k5 : a2 > 1000
    · exact rd_out a0 a1 a2 w (.inr (.inr (.inr (.inr (.inr ⟨k0, k1, k2, k3, k4, k5⟩)))))
    exact absurd ⟨by omega, by omega, by omega, by omega, by omega, by omega⟩ hin

end

/-- THE ONE PURE STATEMENT of fleuronlaw9_SystemRound: yours. -/
def fleuronlaw9_SystemRound.Pure : Prop := ∀ (a0 : Int) (a1 : Int) (a2 : Int), (Lit.int .i64 a0).wf = true → (Lit.int .i64 a1).wf = true → (Lit.int .i64 a2).wf = true → fleuronlaw9_SystemRound.f a0 a1 a2 = some true
theorem fleuronlaw9_SystemRound.walk (P : fleuronlaw9_SystemRound.Pure) (a0 : Int) (a1 : Int) (a2 : Int) (w : World) (w0 : (Lit.int .i64 a0).wf = true) (w1 : (Lit.int .i64 a1).wf = true) (w2 : (Lit.int .i64 a2).wf = true) :
    Calls Try.prog 6 #[.int .i64 a0, .int .i64 a1, .int .i64 a2] w fun e w' => e = .returned (.bool true) ∧ Below w.heap.size w w' := by
  have h := P a0 a1 a2 w0 w1 w2
  refine (fleuronlaw9_SystemRound.calls a0 a1 a2 true w h rfl).mono ?_
  rintro e w' ⟨rfl, hd⟩
  exact ⟨rfl, hd⟩

end Go.Proofs.Ytalegejfellbdaa.Print
