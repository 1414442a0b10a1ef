/- Written by a program of this session out of the translation, with contracts given by hand beside. -/
import Derived.Test.YtalegejfellbdaaProg
import Derived.Below
import Derived.Deep.Draws
import Derived.Deep.AppendLies
import Derived.Maps.AppendAt
import Derived.OwnWalk
import Derived.Laws.BytesArg
import Derived.Laws.MakeOwn
import Derived.Laws.OwnMore
import Derived.Deep.OwnRows
import Derived.Tactics
import Derived.Lib.ConvBytes
import Derived.Laws.Slices
import Derived.WalkKit
import Derived.KernelRfl
import Derived.RowKit3
import Derived.Deep.LoopGhost
import Derived.Deep.QuietTactic
import Derived.BigQuiet
import Derived.WideLaws
import Derived.Deep.DeepCutAuto
import Derived.Deep.CutBlock
import Derived.Deep.RegionHeld3
import Derived.Laws.Rows
import Derived.Lib.AppendStr
import Derived.ArgAppend
import Derived.Laws.IdiomCopy
import Derived.OrdersHeld
import Derived.Laws.BitsLemmas
import Derived.RowKit
import Derived.Shelf.Strings.BuilderK
import Derived.Shelf.Strings.Repeat
import Derived.Lib.Hide
import Derived.Lib.SliceRun
import Derived.RangeFuncNested
import Derived.RangeFuncBound
import Derived.RangeFuncCalls
import Derived.RangeFuncLeaves
import Derived.Shelf.Abstract
import Derived.Shelf.RegionOpen
import Derived.OwnWalkIn
import Derived.TacticsInMore
import Derived.LoopNIn
import Derived.LoopIn
import Derived.Outline
import Derived.Test.YtalegejfellbdaaWWords
import Derived.Test.YtalegejfellbdaaWLast
import Derived.Test.YtalegejfellbdaaWTab
import Derived.Test.YtalegejfellbdaaWFour
import Derived.Test.YtalegejfellbdaaWQPut
import Derived.Test.YtalegejfellbdaaWApart
import Derived.Test.YtalegejfellbdaaWArr
import Derived.Test.YtalegejfellbdaaWZeros
import Derived.Test.YtalegejfellbdaaWFoot
import Derived.Test.YtalegejfellbdaaWKept
import Derived.Test.YtalegejfellbdaaWShare
import Derived.Test.YtalegejfellbdaaWN
import Derived.Test.YtalegejfellbdaaWFootNe
import Derived.Test.YtalegejfellbdaaWAt
import Derived.Test.YtalegejfellbdaaWEqStruct
import Derived.Test.YtalegejfellbdaaWRepsOne
import Derived.Test.YtalegejfellbdaaWInv
import Derived.Test.YtalegejfellbdaaWInvWords
import Derived.Test.YtalegejfellbdaaWGuard
import Derived.Test.YtalegejfellbdaaWNEv
import Derived.Test.YtalegejfellbdaaWMore
namespace Go.Proofs.Ytalegejfellbdaa.Print
open Go.RowKit Go.Proofs.YtalegejfellbdaaW.PrintWords Go.Proofs.YtalegejfellbdaaW.PrintLast Go.Proofs.YtalegejfellbdaaW.PrintMore
attribute [local go_sem] max2_int min2_int max_two min_two max_three min_three max_four min_four   -- for this text's walks alone
set_option linter.unusedVariables false
set_option linter.unusedSimpArgs false



def errW : Option Int → Value
  | none => .nilIface
  | some c => .iface 0 (.int .i64 c)
theorem errW_none : errW none = .nilIface := rfl
theorem errW_some (c : Int) : errW (some c) = .iface 0 (.int .i64 c) := rfl

theorem info3 : (Try.prog.info? 3).map (fun i => (i.zero, i.size, i.bytes)) = some (some (.int .i64 0), 1, 8) := by kernel_rfl
theorem info5 : (Try.prog.info? 5).map (fun i => (i.zero, i.size, i.bytes)) = some (some (.int .u8 0), 1, 1) := by kernel_rfl
theorem info9 : (Try.prog.info? 9).map (fun i => (i.zero, i.size, i.bytes)) = some (some (.string ⟨#[]⟩), 1, 16) := by kernel_rfl
-- the values' own types
/-! #### struct type 41 -/
structure S41 where
  f0 : Int
  f1 : Int
def z41 : S41 := ⟨(0 : Int), (0 : Int)⟩
def k41 : Kd S41 := Kd.iso (Kd.pair (Kd.int .i64) (Kd.int .i64)) (fun x : S41 => (x.f0, x.f1))
theorem k41_open {w : World} {x : S41} {cs : List Value} (h : k41.K w x cs) : cs = [.int .i64 x.f0, .int .i64 x.f1] := by
  obtain ⟨_, _, rfl, rfl, rfl⟩ := h
  exact rfl
theorem k41_openM {w : World} {base : Nat} {ok : Nat → Prop} {x : S41} {cs : List Value} (h : k41.M w base ok x cs) : cs = [.int .i64 x.f0, .int .i64 x.f1] := by
  obtain ⟨_, _, rfl, rfl, rfl⟩ := h
  exact rfl
theorem k41_mk (w : World) (x : S41)  : k41.K w x [.int .i64 x.f0, .int .i64 x.f1] := ⟨[.int .i64 x.f0], [.int .i64 x.f1], rfl, rfl, rfl⟩
theorem k41_mkM (w : World) (base : Nat) (ok : Nat → Prop) (x : S41)  : k41.M w base ok x [.int .i64 x.f0, .int .i64 x.f1] := ⟨[.int .i64 x.f0], [.int .i64 x.f1], rfl, rfl, rfl⟩
def rd_T41 (xs : List S41) (i : Int) : S41 := xs.getD i.toNat z41
theorem at_T41 {w : World} {A : Option Addr} {n : Nat} {xs : List S41} (h : Kd.C k41 w A n xs) (i : Int) (h0 : 0 ≤ i) (h1 : i < n) : ∃ ad , A = some ad ∧ w.cell? (ad.add (i.toNat * 2)) = some (.int .i64 (rd_T41 xs i).f0) ∧ w.cell? ⟨(ad.add (i.toNat * 2)).block, (ad.add (i.toNat * 2)).off + 1, none⟩ = some (.int .i64 (rd_T41 xs i).f1) := by
  obtain ⟨ad, c, e, _, hK, hc0⟩ := Kd.C_get h z41 i h0 h1
  have hc : ∀ j u, c[j]? = some u → w.cell? (ad.add (i.toNat * 2 + j)) = some u := hc0
  obtain rfl := k41_open hK
  exact ⟨ad, e, hc 0 _ rfl, by rw [← add_field _ _ 1 (by omega)]; exact hc 1 _ rfl⟩

def rd_L3 (xs : List (List ByteArray)) (i : Int) : (List ByteArray) := xs.getD i.toNat ([] : List ByteArray)
theorem at_L3 {w : World} {A : Option Addr} {n : Nat} {xs : List (List ByteArray)} (h : Kd.C (Kd.slice 9 Kd.string) w A n xs) (i : Int) (h0 : 0 ≤ i) (h1 : i < n) : ∃ ad A0 c0, A = some ad ∧ w.cell? (ad.add i.toNat) = some (.slice A0 (rd_L3 xs i).length c0) ∧ (rd_L3 xs i).length ≤ c0 ∧ Kd.string.C w A0 (rd_L3 xs i).length (rd_L3 xs i) := by
  obtain ⟨ad, c, e, _, hK, hc0⟩ := Kd.C_get h ([] : List ByteArray) i h0 h1
  have hc : ∀ j u, c[j]? = some u → w.cell? (ad.add (i.toNat * 1 + j)) = some u := hc0
  obtain ⟨A0, c0, rfl, l0, g0⟩ := hK
  exact ⟨ad, A0, c0, e, by have hq := hc 0 _ rfl; rwa [Nat.mul_one, Nat.add_zero] at hq, l0, g0⟩

def rd_L5 (xs : List (List S41)) (i : Int) : (List S41) := xs.getD i.toNat ([] : List S41)
theorem at_L5 {w : World} {A : Option Addr} {n : Nat} {xs : List (List S41)} (h : Kd.C (Kd.slice 41 k41) w A n xs) (i : Int) (h0 : 0 ≤ i) (h1 : i < n) : ∃ ad A0 c0, A = some ad ∧ w.cell? (ad.add i.toNat) = some (.slice A0 (rd_L5 xs i).length c0) ∧ (rd_L5 xs i).length ≤ c0 ∧ k41.C w A0 (rd_L5 xs i).length (rd_L5 xs i) := by
  obtain ⟨ad, c, e, _, hK, hc0⟩ := Kd.C_get h ([] : List S41) i h0 h1
  have hc : ∀ j u, c[j]? = some u → w.cell? (ad.add (i.toNat * 1 + j)) = some u := hc0
  obtain ⟨A0, c0, rfl, l0, g0⟩ := hK
  exact ⟨ad, A0, c0, e, by have hq := hc 0 _ rfl; rwa [Nat.mul_one, Nat.add_zero] at hq, l0, g0⟩

def rd_L6 (xs : List (List Int)) (i : Int) : (List Int) := xs.getD i.toNat ([] : List Int)
theorem at_L6 {w : World} {A : Option Addr} {n : Nat} {xs : List (List Int)} (h : Kd.C (Kd.slice 3 (Kd.int .i64)) w A n xs) (i : Int) (h0 : 0 ≤ i) (h1 : i < n) : ∃ ad A0 c0, A = some ad ∧ w.cell? (ad.add i.toNat) = some (.slice A0 (rd_L6 xs i).length c0) ∧ (rd_L6 xs i).length ≤ c0 ∧ (Kd.int .i64).C w A0 (rd_L6 xs i).length (rd_L6 xs i) := by
  obtain ⟨ad, c, e, _, hK, hc0⟩ := Kd.C_get h ([] : List Int) i h0 h1
  have hc : ∀ j u, c[j]? = some u → w.cell? (ad.add (i.toNat * 1 + j)) = some u := hc0
  obtain ⟨A0, c0, rfl, l0, g0⟩ := hK
  exact ⟨ad, A0, c0, e, by have hq := hc 0 _ rfl; rwa [Nat.mul_one, Nat.add_zero] at hq, l0, g0⟩

/-! #### struct type 24 -/
structure S24 where
  f0 : ByteArray
  f1 : ByteArray
def z24 : S24 := ⟨(⟨#[]⟩ : ByteArray), (⟨#[]⟩ : ByteArray)⟩
def k24 : Kd S24 := Kd.iso (Kd.pair Kd.string Kd.string) (fun x : S24 => (x.f0, x.f1))
theorem k24_open {w : World} {x : S24} {cs : List Value} (h : k24.K w x cs) : cs = [.string x.f0, .string x.f1] := by
  obtain ⟨_, _, rfl, rfl, rfl⟩ := h
  exact rfl
theorem k24_openM {w : World} {base : Nat} {ok : Nat → Prop} {x : S24} {cs : List Value} (h : k24.M w base ok x cs) : cs = [.string x.f0, .string x.f1] := by
  obtain ⟨_, _, rfl, rfl, rfl⟩ := h
  exact rfl
theorem k24_mk (w : World) (x : S24)  : k24.K w x [.string x.f0, .string x.f1] := ⟨[.string x.f0], [.string x.f1], rfl, rfl, rfl⟩
theorem k24_mkM (w : World) (base : Nat) (ok : Nat → Prop) (x : S24)  : k24.M w base ok x [.string x.f0, .string x.f1] := ⟨[.string x.f0], [.string x.f1], rfl, rfl, rfl⟩
def rd_T24 (xs : List S24) (i : Int) : S24 := xs.getD i.toNat z24
theorem at_T24 {w : World} {A : Option Addr} {n : Nat} {xs : List S24} (h : Kd.C k24 w A n xs) (i : Int) (h0 : 0 ≤ i) (h1 : i < n) : ∃ ad , A = some ad ∧ w.cell? (ad.add (i.toNat * 2)) = some (.string (rd_T24 xs i).f0) ∧ w.cell? ⟨(ad.add (i.toNat * 2)).block, (ad.add (i.toNat * 2)).off + 1, none⟩ = some (.string (rd_T24 xs i).f1) := by
  obtain ⟨ad, c, e, _, hK, hc0⟩ := Kd.C_get h z24 i h0 h1
  have hc : ∀ j u, c[j]? = some u → w.cell? (ad.add (i.toNat * 2 + j)) = some u := hc0
  obtain rfl := k24_open hK
  exact ⟨ad, e, hc 0 _ rfl, by rw [← add_field _ _ 1 (by omega)]; exact hc 1 _ rfl⟩

/-! #### struct type 27 -/
structure S27 where
  f0 : ByteArray
  f1 : ByteArray
  f2 : Int
  f3 : (List ByteArray)
  f4 : (List Int)
  f5 : S24
  f6 : ByteArray
  f7 : ByteArray
  f8 : Bool
  f9 : (List S41)
  f10 : Int
  f11 : ByteArray
  f12 : ByteArray
  f13 : ByteArray
  f14 : Int
def z27 : S27 := ⟨(⟨#[]⟩ : ByteArray), (⟨#[]⟩ : ByteArray), (0 : Int), ([] : List ByteArray), ([] : List Int), z24, (⟨#[]⟩ : ByteArray), (⟨#[]⟩ : ByteArray), false, ([] : List S41), (0 : Int), (⟨#[]⟩ : ByteArray), (⟨#[]⟩ : ByteArray), (⟨#[]⟩ : ByteArray), (0 : Int)⟩
def k27 : Kd S27 := Kd.iso (Kd.pair Kd.string (Kd.pair Kd.string (Kd.pair (Kd.int .i64) (Kd.pair (Kd.slice 9 Kd.string) (Kd.pair (Kd.slice 3 (Kd.int .i64)) (Kd.pair k24 (Kd.pair Kd.string (Kd.pair Kd.string (Kd.pair Kd.bool (Kd.pair (Kd.slice 41 k41) (Kd.pair (Kd.int .i64) (Kd.pair Kd.string (Kd.pair Kd.string (Kd.pair Kd.string (Kd.int .i64))))))))))))))) (fun x : S27 => (x.f0, x.f1, x.f2, x.f3, x.f4, x.f5, x.f6, x.f7, x.f8, x.f9, x.f10, x.f11, x.f12, x.f13, x.f14))
theorem k27_open {w : World} {x : S27} {cs : List Value} (h : k27.K w x cs) : ∃ A3 c3 A4 c4 A10 c10, cs = [.string x.f0, .string x.f1, .int .i64 x.f2, .slice A3 x.f3.length c3, .slice A4 x.f4.length c4, .string x.f5.f0, .string x.f5.f1, .string x.f6, .string x.f7, .bool x.f8, .slice A10 x.f9.length c10, .int .i64 x.f10, .string x.f11, .string x.f12, .string x.f13, .int .i64 x.f14] ∧ x.f3.length ≤ c3 ∧ Kd.string.C w A3 x.f3.length x.f3 ∧ x.f4.length ≤ c4 ∧ (Kd.int .i64).C w A4 x.f4.length x.f4 ∧ x.f9.length ≤ c10 ∧ k41.C w A10 x.f9.length x.f9 := by
  obtain ⟨_, _, rfl, rfl, ⟨_, _, rfl, rfl, ⟨_, _, rfl, rfl, ⟨_, _, rfl, ⟨A3, c3, rfl, l3, g3⟩, ⟨_, _, rfl, ⟨A4, c4, rfl, l4, g4⟩, ⟨_, _, rfl, s5, ⟨_, _, rfl, rfl, ⟨_, _, rfl, rfl, ⟨_, _, rfl, rfl, ⟨_, _, rfl, ⟨A10, c10, rfl, l10, g10⟩, ⟨_, _, rfl, rfl, ⟨_, _, rfl, rfl, ⟨_, _, rfl, rfl, ⟨_, _, rfl, rfl, rfl⟩⟩⟩⟩⟩⟩⟩⟩⟩⟩⟩⟩⟩⟩ := h
  obtain rfl := k24_open s5
  exact ⟨A3, c3, A4, c4, A10, c10, rfl, l3, g3, l4, g4, l10, g10⟩
theorem k27_openM {w : World} {base : Nat} {ok : Nat → Prop} {x : S27} {cs : List Value} (h : k27.M w base ok x cs) : ∃ v3 v4 v10, cs = [.string x.f0, .string x.f1, .int .i64 x.f2, v3, v4, .string x.f5.f0, .string x.f5.f1, .string x.f6, .string x.f7, .bool x.f8, v10, .int .i64 x.f10, .string x.f11, .string x.f12, .string x.f13, .int .i64 x.f14] ∧ Kd.string.R 9 w base ok v3 x.f3 ∧ (Kd.int .i64).R 3 w base ok v4 x.f4 ∧ k41.R 41 w base ok v10 x.f9 := by
  obtain ⟨_, _, rfl, rfl, ⟨_, _, rfl, rfl, ⟨_, _, rfl, rfl, ⟨_, _, rfl, ⟨v3, rfl, g3⟩, ⟨_, _, rfl, ⟨v4, rfl, g4⟩, ⟨_, _, rfl, s5, ⟨_, _, rfl, rfl, ⟨_, _, rfl, rfl, ⟨_, _, rfl, rfl, ⟨_, _, rfl, ⟨v10, rfl, g10⟩, ⟨_, _, rfl, rfl, ⟨_, _, rfl, rfl, ⟨_, _, rfl, rfl, ⟨_, _, rfl, rfl, rfl⟩⟩⟩⟩⟩⟩⟩⟩⟩⟩⟩⟩⟩⟩ := h
  obtain rfl := k24_openM s5
  exact ⟨v3, v4, v10, rfl, g3, g4, g10⟩
theorem k27_mk (w : World) (x : S27) {A3 : Option Addr} {c3 : Nat} (l3 : x.f3.length ≤ c3) (g3 : Kd.string.C w A3 x.f3.length x.f3) {A4 : Option Addr} {c4 : Nat} (l4 : x.f4.length ≤ c4) (g4 : (Kd.int .i64).C w A4 x.f4.length x.f4) {A10 : Option Addr} {c10 : Nat} (l10 : x.f9.length ≤ c10) (g10 : k41.C w A10 x.f9.length x.f9) : k27.K w x [.string x.f0, .string x.f1, .int .i64 x.f2, .slice A3 x.f3.length c3, .slice A4 x.f4.length c4, .string x.f5.f0, .string x.f5.f1, .string x.f6, .string x.f7, .bool x.f8, .slice A10 x.f9.length c10, .int .i64 x.f10, .string x.f11, .string x.f12, .string x.f13, .int .i64 x.f14] := ⟨[.string x.f0], [.string x.f1, .int .i64 x.f2, .slice A3 x.f3.length c3, .slice A4 x.f4.length c4, .string x.f5.f0, .string x.f5.f1, .string x.f6, .string x.f7, .bool x.f8, .slice A10 x.f9.length c10, .int .i64 x.f10, .string x.f11, .string x.f12, .string x.f13, .int .i64 x.f14], rfl, rfl, ⟨[.string x.f1], [.int .i64 x.f2, .slice A3 x.f3.length c3, .slice A4 x.f4.length c4, .string x.f5.f0, .string x.f5.f1, .string x.f6, .string x.f7, .bool x.f8, .slice A10 x.f9.length c10, .int .i64 x.f10, .string x.f11, .string x.f12, .string x.f13, .int .i64 x.f14], rfl, rfl, ⟨[.int .i64 x.f2], [.slice A3 x.f3.length c3, .slice A4 x.f4.length c4, .string x.f5.f0, .string x.f5.f1, .string x.f6, .string x.f7, .bool x.f8, .slice A10 x.f9.length c10, .int .i64 x.f10, .string x.f11, .string x.f12, .string x.f13, .int .i64 x.f14], rfl, rfl, ⟨[.slice A3 x.f3.length c3], [.slice A4 x.f4.length c4, .string x.f5.f0, .string x.f5.f1, .string x.f6, .string x.f7, .bool x.f8, .slice A10 x.f9.length c10, .int .i64 x.f10, .string x.f11, .string x.f12, .string x.f13, .int .i64 x.f14], rfl, ⟨A3, c3, rfl, l3, g3⟩, ⟨[.slice A4 x.f4.length c4], [.string x.f5.f0, .string x.f5.f1, .string x.f6, .string x.f7, .bool x.f8, .slice A10 x.f9.length c10, .int .i64 x.f10, .string x.f11, .string x.f12, .string x.f13, .int .i64 x.f14], rfl, ⟨A4, c4, rfl, l4, g4⟩, ⟨[.string x.f5.f0, .string x.f5.f1], [.string x.f6, .string x.f7, .bool x.f8, .slice A10 x.f9.length c10, .int .i64 x.f10, .string x.f11, .string x.f12, .string x.f13, .int .i64 x.f14], rfl, (k24_mk w x.f5 ), ⟨[.string x.f6], [.string x.f7, .bool x.f8, .slice A10 x.f9.length c10, .int .i64 x.f10, .string x.f11, .string x.f12, .string x.f13, .int .i64 x.f14], rfl, rfl, ⟨[.string x.f7], [.bool x.f8, .slice A10 x.f9.length c10, .int .i64 x.f10, .string x.f11, .string x.f12, .string x.f13, .int .i64 x.f14], rfl, rfl, ⟨[.bool x.f8], [.slice A10 x.f9.length c10, .int .i64 x.f10, .string x.f11, .string x.f12, .string x.f13, .int .i64 x.f14], rfl, rfl, ⟨[.slice A10 x.f9.length c10], [.int .i64 x.f10, .string x.f11, .string x.f12, .string x.f13, .int .i64 x.f14], rfl, ⟨A10, c10, rfl, l10, g10⟩, ⟨[.int .i64 x.f10], [.string x.f11, .string x.f12, .string x.f13, .int .i64 x.f14], rfl, rfl, ⟨[.string x.f11], [.string x.f12, .string x.f13, .int .i64 x.f14], rfl, rfl, ⟨[.string x.f12], [.string x.f13, .int .i64 x.f14], rfl, rfl, ⟨[.string x.f13], [.int .i64 x.f14], rfl, rfl, rfl⟩⟩⟩⟩⟩⟩⟩⟩⟩⟩⟩⟩⟩⟩
theorem k27_mkM (w : World) (base : Nat) (ok : Nat → Prop) (x : S27) {v3 : Value} (g3 : Kd.string.R 9 w base ok v3 x.f3) {v4 : Value} (g4 : (Kd.int .i64).R 3 w base ok v4 x.f4) {v10 : Value} (g10 : k41.R 41 w base ok v10 x.f9) : k27.M w base ok x [.string x.f0, .string x.f1, .int .i64 x.f2, v3, v4, .string x.f5.f0, .string x.f5.f1, .string x.f6, .string x.f7, .bool x.f8, v10, .int .i64 x.f10, .string x.f11, .string x.f12, .string x.f13, .int .i64 x.f14] := ⟨[.string x.f0], [.string x.f1, .int .i64 x.f2, v3, v4, .string x.f5.f0, .string x.f5.f1, .string x.f6, .string x.f7, .bool x.f8, v10, .int .i64 x.f10, .string x.f11, .string x.f12, .string x.f13, .int .i64 x.f14], rfl, rfl, ⟨[.string x.f1], [.int .i64 x.f2, v3, v4, .string x.f5.f0, .string x.f5.f1, .string x.f6, .string x.f7, .bool x.f8, v10, .int .i64 x.f10, .string x.f11, .string x.f12, .string x.f13, .int .i64 x.f14], rfl, rfl, ⟨[.int .i64 x.f2], [v3, v4, .string x.f5.f0, .string x.f5.f1, .string x.f6, .string x.f7, .bool x.f8, v10, .int .i64 x.f10, .string x.f11, .string x.f12, .string x.f13, .int .i64 x.f14], rfl, rfl, ⟨[v3], [v4, .string x.f5.f0, .string x.f5.f1, .string x.f6, .string x.f7, .bool x.f8, v10, .int .i64 x.f10, .string x.f11, .string x.f12, .string x.f13, .int .i64 x.f14], rfl, ⟨v3, rfl, g3⟩, ⟨[v4], [.string x.f5.f0, .string x.f5.f1, .string x.f6, .string x.f7, .bool x.f8, v10, .int .i64 x.f10, .string x.f11, .string x.f12, .string x.f13, .int .i64 x.f14], rfl, ⟨v4, rfl, g4⟩, ⟨[.string x.f5.f0, .string x.f5.f1], [.string x.f6, .string x.f7, .bool x.f8, v10, .int .i64 x.f10, .string x.f11, .string x.f12, .string x.f13, .int .i64 x.f14], rfl, (k24_mkM w base ok x.f5 ), ⟨[.string x.f6], [.string x.f7, .bool x.f8, v10, .int .i64 x.f10, .string x.f11, .string x.f12, .string x.f13, .int .i64 x.f14], rfl, rfl, ⟨[.string x.f7], [.bool x.f8, v10, .int .i64 x.f10, .string x.f11, .string x.f12, .string x.f13, .int .i64 x.f14], rfl, rfl, ⟨[.bool x.f8], [v10, .int .i64 x.f10, .string x.f11, .string x.f12, .string x.f13, .int .i64 x.f14], rfl, rfl, ⟨[v10], [.int .i64 x.f10, .string x.f11, .string x.f12, .string x.f13, .int .i64 x.f14], rfl, ⟨v10, rfl, g10⟩, ⟨[.int .i64 x.f10], [.string x.f11, .string x.f12, .string x.f13, .int .i64 x.f14], rfl, rfl, ⟨[.string x.f11], [.string x.f12, .string x.f13, .int .i64 x.f14], rfl, rfl, ⟨[.string x.f12], [.string x.f13, .int .i64 x.f14], rfl, rfl, ⟨[.string x.f13], [.int .i64 x.f14], rfl, rfl, rfl⟩⟩⟩⟩⟩⟩⟩⟩⟩⟩⟩⟩⟩⟩
def rd_T27 (xs : List S27) (i : Int) : S27 := xs.getD i.toNat z27
theorem at_T27 {w : World} {A : Option Addr} {n : Nat} {xs : List S27} (h : Kd.C k27 w A n xs) (i : Int) (h0 : 0 ≤ i) (h1 : i < n) : ∃ ad A3 c3 A4 c4 A10 c10, A = some ad ∧ w.cell? (ad.add (i.toNat * 16)) = some (.string (rd_T27 xs i).f0) ∧ w.cell? ⟨(ad.add (i.toNat * 16)).block, (ad.add (i.toNat * 16)).off + 1, none⟩ = some (.string (rd_T27 xs i).f1) ∧ w.cell? ⟨(ad.add (i.toNat * 16)).block, (ad.add (i.toNat * 16)).off + 2, none⟩ = some (.int .i64 (rd_T27 xs i).f2) ∧ w.cell? ⟨(ad.add (i.toNat * 16)).block, (ad.add (i.toNat * 16)).off + 3, none⟩ = some (.slice A3 (rd_T27 xs i).f3.length c3) ∧ w.cell? ⟨(ad.add (i.toNat * 16)).block, (ad.add (i.toNat * 16)).off + 4, none⟩ = some (.slice A4 (rd_T27 xs i).f4.length c4) ∧ w.cell? ⟨(ad.add (i.toNat * 16)).block, (ad.add (i.toNat * 16)).off + 5, none⟩ = some (.string (rd_T27 xs i).f5.f0) ∧ w.cell? ⟨(ad.add (i.toNat * 16)).block, (ad.add (i.toNat * 16)).off + 6, none⟩ = some (.string (rd_T27 xs i).f5.f1) ∧ w.cell? ⟨(ad.add (i.toNat * 16)).block, (ad.add (i.toNat * 16)).off + 7, none⟩ = some (.string (rd_T27 xs i).f6) ∧ w.cell? ⟨(ad.add (i.toNat * 16)).block, (ad.add (i.toNat * 16)).off + 8, none⟩ = some (.string (rd_T27 xs i).f7) ∧ w.cell? ⟨(ad.add (i.toNat * 16)).block, (ad.add (i.toNat * 16)).off + 9, none⟩ = some (.bool (rd_T27 xs i).f8) ∧ w.cell? ⟨(ad.add (i.toNat * 16)).block, (ad.add (i.toNat * 16)).off + 10, none⟩ = some (.slice A10 (rd_T27 xs i).f9.length c10) ∧ w.cell? ⟨(ad.add (i.toNat * 16)).block, (ad.add (i.toNat * 16)).off + 11, none⟩ = some (.int .i64 (rd_T27 xs i).f10) ∧ w.cell? ⟨(ad.add (i.toNat * 16)).block, (ad.add (i.toNat * 16)).off + 12, none⟩ = some (.string (rd_T27 xs i).f11) ∧ w.cell? ⟨(ad.add (i.toNat * 16)).block, (ad.add (i.toNat * 16)).off + 13, none⟩ = some (.string (rd_T27 xs i).f12) ∧ w.cell? ⟨(ad.add (i.toNat * 16)).block, (ad.add (i.toNat * 16)).off + 14, none⟩ = some (.string (rd_T27 xs i).f13) ∧ w.cell? ⟨(ad.add (i.toNat * 16)).block, (ad.add (i.toNat * 16)).off + 15, none⟩ = some (.int .i64 (rd_T27 xs i).f14) ∧ (rd_T27 xs i).f3.length ≤ c3 ∧ Kd.string.C w A3 (rd_T27 xs i).f3.length (rd_T27 xs i).f3 ∧ (rd_T27 xs i).f4.length ≤ c4 ∧ (Kd.int .i64).C w A4 (rd_T27 xs i).f4.length (rd_T27 xs i).f4 ∧ (rd_T27 xs i).f9.length ≤ c10 ∧ k41.C w A10 (rd_T27 xs i).f9.length (rd_T27 xs i).f9 := by
  obtain ⟨ad, c, e, _, hK, hc0⟩ := Kd.C_get h z27 i h0 h1
  have hc : ∀ j u, c[j]? = some u → w.cell? (ad.add (i.toNat * 16 + j)) = some u := hc0
  obtain ⟨A3, c3, A4, c4, A10, c10, rfl, l3, g3, l4, g4, l10, g10⟩ := k27_open hK
  exact ⟨ad, A3, c3, A4, c4, A10, c10, e, hc 0 _ rfl, by rw [← add_field _ _ 1 (by omega)]; exact hc 1 _ rfl, by rw [← add_field _ _ 2 (by omega)]; exact hc 2 _ rfl, by rw [← add_field _ _ 3 (by omega)]; exact hc 3 _ rfl, by rw [← add_field _ _ 4 (by omega)]; exact hc 4 _ rfl, by rw [← add_field _ _ 5 (by omega)]; exact hc 5 _ rfl, by rw [← add_field _ _ 6 (by omega)]; exact hc 6 _ rfl, by rw [← add_field _ _ 7 (by omega)]; exact hc 7 _ rfl, by rw [← add_field _ _ 8 (by omega)]; exact hc 8 _ rfl, by rw [← add_field _ _ 9 (by omega)]; exact hc 9 _ rfl, by rw [← add_field _ _ 10 (by omega)]; exact hc 10 _ rfl, by rw [← add_field _ _ 11 (by omega)]; exact hc 11 _ rfl, by rw [← add_field _ _ 12 (by omega)]; exact hc 12 _ rfl, by rw [← add_field _ _ 13 (by omega)]; exact hc 13 _ rfl, by rw [← add_field _ _ 14 (by omega)]; exact hc 14 _ rfl, by rw [← add_field _ _ 15 (by omega)]; exact hc 15 _ rfl, l3, g3, l4, g4, l10, g10⟩

/-! The shelf's contracts at this program (written by the kit's lay-shelf.mjs and lay-plain.mjs and my shelf.py, mkbuild.py). -/
def shl_lays166_ren : Go.Shelf.Ren := ⟨fun | 166 => 31 | 240 => 43 | 276 => 46 | n => n, fun | 0 => 0 | 3 => 3 | 4 => 4 | 9 => 9 | 20 => 20 | 37 => 32 | 70 => 55 | 72 => 57 | 75 => 60 | 164 => 80 | 80 => 64 | 5 => 5 | n => n, fun | n => n⟩
open Go.Shelf in
theorem shl_lays166 : Go.Proofs.Lays.n166 Try.prog shl_lays166_ren := {
  mixed := by kernel_rfl
  f166 := Try.func31.trans (congrArg some (by kernel_rfl))
  f240 := Try.func43.trans (congrArg some (by kernel_rfl))
  f276 := Try.func46.trans (congrArg some (by kernel_rfl))
  t0 := Try.underlying0
  a0 := Try.isAgg0
  z0 := Try.sizeOf0
  v0 := Try.zeroValue0
  t3 := Try.underlying3
  a3 := Try.isAgg3
  z3 := Try.sizeOf3
  v3 := Try.zeroValue3
  t4 := Try.underlying4
  a4 := Try.isAgg4
  z4 := Try.sizeOf4
  v4 := Try.zeroValue4
  t9 := Try.underlying9
  a9 := Try.isAgg9
  z9 := Try.sizeOf9
  v9 := Try.zeroValue9
  t20 := Try.underlying20
  a20 := Try.isAgg20
  z20 := Try.sizeOf20
  v20 := Try.zeroValue20
  t37 := Try.underlying32
  a37 := Try.isAgg32
  z37 := Try.sizeOf32
  v37 := Try.zeroValue32
  t70 := Try.underlying55
  a70 := Try.isAgg55
  z70 := Try.sizeOf55
  v70 := Try.zeroValue55
  t72 := Try.underlying57
  a72 := Try.isAgg57
  z72 := Try.sizeOf57
  v72 := Try.zeroValue57
  t75 := Try.underlying60
  a75 := Try.isAgg60
  z75 := Try.sizeOf60
  v75 := Try.zeroValue60
  t164 := Try.underlying80
  a164 := Try.isAgg80
  z164 := Try.sizeOf80
  v164 := Try.zeroValue80 }
open Go.Shelf in
theorem shl_Builder_Extra_166 : Builder.Extra Try.prog shl_lays166_ren := {
  sizeBuilder := by kernel_rfl
  liesBuilder := by kernel_rfl
  t5 := Try.underlying5
  a5 := Try.isAgg5
  z5 := Try.sizeOf5
  v5 := Try.zeroValue5
  infoByte := by kernel_rfl
  cellsByte := by kernel_rfl
  sizeByte := by kernel_rfl
  neB5 := by decide }
theorem shl_Builder_WriteString_k (B b : Nat) (bs : List Value) (s : ByteArray) (w : World) (h : Lib.IsBuilderF 57 5 B b bs w) (hlen : bs.length + s.size ≤ 140737488355328) (hBw : B ≤ w.heap.size) :
    Calls Try.prog 31 #[.pointer (some ⟨b, 0, none⟩), .string s] w fun e w' => e = .returned (.tuple #[.int .i64 s.size, .nilIface]) ∧ (Lib.BuilderAtF 57 5 B b (.pointer (some ⟨b, 0, none⟩)) (bs ++ Lib.strCells s) w' ∧ Below B w w' ∧ Lib.OthersKept 5 (some b) w w') := Any.Builder_WriteString_k shl_lays166 shl_Builder_Extra_166 B b bs s w h hlen hBw
def shl_lays169_ren : Go.Shelf.Ren := ⟨fun | 169 => 33 | n => n, fun | 70 => 55 | 9 => 9 | 0 => 0 | 72 => 57 | 37 => 32 | 127 => 78 | 3 => 3 | 5 => 5 | n => n, fun | n => n⟩
open Go.Shelf in
theorem shl_lays169 : Go.Proofs.Lays.n169 Try.prog shl_lays169_ren := {
  mixed := by kernel_rfl
  f169 := Try.func33.trans (congrArg some (by kernel_rfl))
  t0 := Try.underlying0
  a0 := Try.isAgg0
  z0 := Try.sizeOf0
  v0 := Try.zeroValue0
  t3 := Try.underlying3
  a3 := Try.isAgg3
  z3 := Try.sizeOf3
  v3 := Try.zeroValue3
  t9 := Try.underlying9
  a9 := Try.isAgg9
  z9 := Try.sizeOf9
  v9 := Try.zeroValue9
  t37 := Try.underlying32
  a37 := Try.isAgg32
  z37 := Try.sizeOf32
  v37 := Try.zeroValue32
  t70 := Try.underlying55
  a70 := Try.isAgg55
  z70 := Try.sizeOf55
  v70 := Try.zeroValue55
  t72 := Try.underlying57
  a72 := Try.isAgg57
  z72 := Try.sizeOf57
  v72 := Try.zeroValue57
  t127 := Try.underlying78
  a127 := Try.isAgg78
  z127 := Try.sizeOf78
  v127 := Try.zeroValue78 }
open Go.Shelf in
theorem shl_Builder_Extra_169 : Builder.Extra Try.prog shl_lays169_ren := {
  sizeBuilder := by kernel_rfl
  liesBuilder := by kernel_rfl
  t5 := Try.underlying5
  a5 := Try.isAgg5
  z5 := Try.sizeOf5
  v5 := Try.zeroValue5
  infoByte := by kernel_rfl
  cellsByte := by kernel_rfl
  sizeByte := by kernel_rfl
  neB5 := by decide }
theorem shl_Builder_String_any_k (B b : Nat) (l : List UInt8) (w : World) (h : Lib.IsBuilderF 57 5 B b (Lib.byteCells l) w) (hBw : B ≤ w.heap.size) :
    Calls Try.prog 33 #[.pointer (some ⟨b, 0, none⟩)] w fun e w' => e = .returned (.string ⟨l.toArray⟩) ∧ (Lib.IsBuilderF 57 5 B b (Lib.byteCells l) w' ∧ Below B w w' ∧ Lib.OthersKept 5 (some b) w w') := Any.Builder_String_any_k shl_lays169 shl_Builder_Extra_169 B b l w h hBw
def shl_lays105_ren : Go.Shelf.Ren := ⟨fun | 105 => 18 | 212 => 28 | 99 => 29 | 165 => 30 | 166 => 31 | 170 => 32 | 169 => 33 | 263 => 40 | 264 => 41 | 206 => 42 | 240 => 43 | 241 => 44 | 276 => 46 | 277 => 47 | n => n, fun | 9 => 9 | 3 => 3 | 4 => 4 | 20 => 20 | 0 => 0 | 46 => 51 | 109 => 52 | 5 => 5 | 72 => 57 | 76 => 61 | 51 => 73 | 146 => 74 | 53 => 43 | 148 => 76 | 70 => 55 | 37 => 32 | 75 => 60 | 127 => 78 | 164 => 80 | 80 => 64 | n => n, fun | n => n⟩
open Go.Shelf in
theorem shl_lays105 : Go.Proofs.Lays.n105 Try.prog shl_lays105_ren := {
  mixed := by kernel_rfl
  f99 := Try.func29.trans (congrArg some (by kernel_rfl))
  f105 := Try.func18.trans (congrArg some (by kernel_rfl))
  f165 := Try.func30.trans (congrArg some (by kernel_rfl))
  f166 := Try.func31.trans (congrArg some (by kernel_rfl))
  f169 := Try.func33.trans (congrArg some (by kernel_rfl))
  f170 := Try.func32.trans (congrArg some (by kernel_rfl))
  f206 := Try.func42.trans (congrArg some (by kernel_rfl))
  f212 := Try.func28.trans (congrArg some (by kernel_rfl))
  f240 := Try.func43.trans (congrArg some (by kernel_rfl))
  f241 := Try.func44.trans (congrArg some (by kernel_rfl))
  f263 := Try.func40.trans (congrArg some (by kernel_rfl))
  f264 := Try.func41.trans (congrArg some (by kernel_rfl))
  f276 := Try.func46.trans (congrArg some (by kernel_rfl))
  f277 := Try.func47.trans (congrArg some (by kernel_rfl))
  t0 := Try.underlying0
  a0 := Try.isAgg0
  z0 := Try.sizeOf0
  v0 := Try.zeroValue0
  t3 := Try.underlying3
  a3 := Try.isAgg3
  z3 := Try.sizeOf3
  v3 := Try.zeroValue3
  t4 := Try.underlying4
  a4 := Try.isAgg4
  z4 := Try.sizeOf4
  v4 := Try.zeroValue4
  t5 := Try.underlying5
  a5 := Try.isAgg5
  z5 := Try.sizeOf5
  v5 := Try.zeroValue5
  t9 := Try.underlying9
  a9 := Try.isAgg9
  z9 := Try.sizeOf9
  v9 := Try.zeroValue9
  t20 := Try.underlying20
  a20 := Try.isAgg20
  z20 := Try.sizeOf20
  v20 := Try.zeroValue20
  t37 := Try.underlying32
  a37 := Try.isAgg32
  z37 := Try.sizeOf32
  v37 := Try.zeroValue32
  t46 := Try.underlying51
  a46 := Try.isAgg51
  z46 := Try.sizeOf51
  v46 := Try.zeroValue51
  t51 := Try.underlying73
  a51 := Try.isAgg73
  z51 := Try.sizeOf73
  v51 := Try.zeroValue73
  t53 := Try.underlying43
  a53 := Try.isAgg43
  z53 := Try.sizeOf43
  v53 := Try.zeroValue43
  t70 := Try.underlying55
  a70 := Try.isAgg55
  z70 := Try.sizeOf55
  v70 := Try.zeroValue55
  t72 := Try.underlying57
  a72 := Try.isAgg57
  z72 := Try.sizeOf57
  v72 := Try.zeroValue57
  t75 := Try.underlying60
  a75 := Try.isAgg60
  z75 := Try.sizeOf60
  v75 := Try.zeroValue60
  t76 := Try.underlying61
  a76 := Try.isAgg61
  z76 := Try.sizeOf61
  v76 := Try.zeroValue61
  t109 := Try.underlying52
  a109 := Try.isAgg52
  z109 := Try.sizeOf52
  v109 := Try.zeroValue52
  t127 := Try.underlying78
  a127 := Try.isAgg78
  z127 := Try.sizeOf78
  v127 := Try.zeroValue78
  t146 := Try.underlying74
  a146 := Try.isAgg74
  z146 := Try.sizeOf74
  v146 := Try.zeroValue74
  t148 := Try.underlying76
  a148 := Try.isAgg76
  z148 := Try.sizeOf76
  v148 := Try.zeroValue76
  t164 := Try.underlying80
  a164 := Try.isAgg80
  z164 := Try.sizeOf80
  v164 := Try.zeroValue80 }
open Go.Shelf in
theorem shl_Builder_Extra_105 : Builder.Extra Try.prog shl_lays105_ren := {
  sizeBuilder := by kernel_rfl
  liesBuilder := by kernel_rfl
  t5 := Try.underlying5
  a5 := Try.isAgg5
  z5 := Try.sizeOf5
  v5 := Try.zeroValue5
  infoByte := by kernel_rfl
  cellsByte := by kernel_rfl
  sizeByte := by kernel_rfl
  neB5 := by decide }
open Go.RowKit Go.Lib in
open Go.Shelf in
theorem shl_strings_Repeat (s : ByteArray) (c : Nat) (w : World) (hc : c ≤ 9223372036854775807) (hlen : s.size * c ≤ 140737488355328) :
    Calls Try.prog 18 #[.string s, .int .i64 c] w fun e w' => e = .returned (.string ⟨(Lib.repeatL s.data.toList c).toArray⟩) ∧ Below w.heap.size w w' := Any.strings_Repeat shl_lays105 shl_Builder_Extra_105 s c w hc hlen
end Go.Proofs.Ytalegejfellbdaa.Print
