/- Written by a program of this session out of the translation, with contracts given by hand beside. -/
import Derived.Test.YtejkbdlegnobcaaPrint0
import Derived.Test.YtejkbdlegnobcaaPrint10
namespace Go.Proofs.Ytejkbdlegnobcaa.Print
open Go.RowKit Go.Proofs.YtejkbdlegnobcaaW.PrintWords Go.Proofs.YtejkbdlegnobcaaW.PrintLast Go.Proofs.YtejkbdlegnobcaaW.PrintMore
attribute [local go_sem] max2_int min2_int max_two min_two max_three min_three max_four min_four   -- for this text's walks alone
set_option linter.unusedVariables false
set_option linter.unusedSimpArgs false

-- GIVEN BY HAND
/-! ### scope_find: function 25 -/
/-- The first place from k on whose counter has the name and the maker; none: -1. -/
def findAt (name : ByteArray) (of : Int) : List S38 → Nat → Int
  | [], _ => -1
  | x :: l, k => if sameKey name of x = true then (k : Int) else findAt name of l (k + 1)
theorem findAt_none (name : ByteArray) (of : Int) : ∀ (l : List S38) (k : Nat), (∀ x ∈ l, sameKey name of x = false) → findAt name of l k = -1
  | [], _, _ => rfl
  | x :: l, k, h => by rw [findAt, if_neg (by rw [h x (by simp)]; simp)]; exact findAt_none name of l (k + 1) (fun y hy => h y (by simp [hy]))
theorem findAt_some (name : ByteArray) (of : Int) : ∀ (l : List S38) (k m : Nat) (hm : m < l.length), sameKey name of l[m] = true → (∀ j (hj : j < m), sameKey name of (l[j]'(by omega)) = false) → findAt name of l k = ((k + m : Nat) : Int)
  | [], _, m, hm, _, _ => absurd hm (by simp)
  | x :: l, k, 0, _, h, _ => by rw [findAt, if_pos (by simpa using h)]; rfl
  | x :: l, k, m + 1, hm, h, hn => by
    rw [findAt, if_neg (by have := hn 0 (by omega); simp only [List.getElem_cons_zero] at this; rw [this]; simp)]
    rw [findAt_some name of l (k + 1) m (by simpa using hm) (by simpa using h) (fun j hj => by have := hn (j + 1) (by omega); simpa using this)]
    congr 1; omega
theorem rd_T38_nat (xs : List S38) (k : Nat) (h : k < xs.length) : rd_T38 xs (k : Int) = xs[k] := by
  simp [rd_T38, h]

def scope_find.f (l0 : List S38) (a1_0 : ByteArray) (a1_1 : Int) (a1_2 : Int) (a1_3 : Bool) : Option Int := some (findAt a1_0 a1_1 l0 0)

set_option maxHeartbeats 1000000 in
/-- find's closure: is the element of this name and maker? -/
theorem find1_any (x : S38) (name : ByteArray) (of a2 : Int) (a3 : Bool) (Bc : Nat) (w : World) (hb : Aside0 (w.heap[Bc]? = some (.cells #[.string name, .int .i64 of, .int .i64 a2, .bool a3] 38 (0, 0)))) :
    Calls Try.prog 30 #[.agg #[.string x.f0, .int .i64 x.f1, .int .i64 x.f2, .bool x.f3], .pointer (some ⟨Bc, 0, none⟩)] w fun e w' => e = .returned (.bool (sameKey name of x)) ∧ Below w.heap.size w w' := by
  have hu38 := Try.underlying38
  have hlt : Bc < w.heap.size := (Array.getElem?_eq_some_iff.1 hb.out).1
  have cN : w.cell? ⟨Bc, 0, none⟩ = some (.string name) := by simp [World.cell?, hb.out]
  have cO : w.cell? ⟨Bc, 1, none⟩ = some (.int .i64 of) := by simp [World.cell?, hb.out]
  by_cases hx : x.f0.toList = name.toList
  · have hb1 : (x.f0.toList == name.toList) = true := beq_iff_eq.mpr hx
    by_cases hy : x.f1 = of
    · have hb2 : (x.f1 == of) = true := beq_iff_eq.mpr hy
      have hv := Aside0.mk (show sameKey name of x = true by simp only [sameKey, hb1, hb2]; rfl)
      clear hx hy
      go_enter Try.func30, Try.ntmps30
      go_wp2
      go_ret
      exact ⟨by rw [hv.out]; rfl, (Below.refl _ w).alloc (Nat.le_refl _) _⟩
    · have hb2 : (x.f1 == of) = false := beq_eq_false_iff_ne.mpr hy
      have hv := Aside0.mk (show sameKey name of x = false by simp only [sameKey, hb1, hb2]; rfl)
      clear hx hy
      go_enter Try.func30, Try.ntmps30
      go_wp2
      go_ret
      exact ⟨by rw [hv.out]; rfl, (Below.refl _ w).alloc (Nat.le_refl _) _⟩
  · have hb1 : (x.f0.toList == name.toList) = false := beq_eq_false_iff_ne.mpr hx
    have hv := Aside0.mk (show sameKey name of x = false by simp only [sameKey, hb1]; rfl)
    clear hx
    go_enter Try.func30, Try.ntmps30
    go_wp2
    go_ret
    exact ⟨by rw [hv.out]; rfl, (Below.refl _ w).alloc (Nat.le_refl _) _⟩

set_option maxHeartbeats 1000000 in
/-- slices.IndexFunc at find's closure. -/
theorem index_any (A0 : Option Addr) (c0 : Nat) (xs : List S38) (name : ByteArray) (of a2 : Int) (a3 : Bool) (Bc : Nat) (w : World) (hr0 : Aside0 (Kd.C k38 w A0 xs.length xs)) (hb : Aside0 (w.heap[Bc]? = some (.cells #[.string name, .int .i64 of, .int .i64 a2, .bool a3] 38 (0, 0)))) :
    Calls Try.prog 29 #[.slice A0 xs.length c0, .func (.func 30) #[] #[.pointer (some ⟨Bc, 0, none⟩)]] w fun e w' => e = .returned (.int .i64 (findAt name of xs 0)) ∧ Below w.heap.size w w' := by
  have hm : xs.length ≤ 9223372036854775807 := hr0.out.2.1
  have HLT := Aside0.mk (Array.getElem?_eq_some_iff.1 hb.out).1
  go_enter Try.func29, Try.ntmps29
  go_wp2
  go_loopw [8] (fun i wr => ∃ k : Nat, k ≤ xs.length ∧ i = .int .i64 k ∧ Aside0 (∀ j (hj : j < k) (hx : j < xs.length), sameKey name of xs[j] = false) ∧ Aside0 (Below w.heap.size w wr)) (fun i _ => xs.length - (intOf i).toNat)
  case atStart => exact ⟨0, Nat.zero_le _, rfl, ⟨fun j hj => absurd hj (by omega)⟩, ⟨Below.refl _ _⟩⟩
  case round =>
    obtain ⟨k, hk, rfl, HN, HB⟩ := hrel
    by_cases hlt : k < xs.length
    · obtain ⟨ad, rfl, hx0, hx1, hx2, hx3⟩ := at_T38 hr0.out (k : Int) (by omega) (by omega)
      replace hx0 := (HB.out.cell (World.block_lt_of_cell? w _ hx0)).trans hx0
      replace hx1 := (HB.out.cell (World.block_lt_of_cell? w _ hx1)).trans hx1
      replace hx2 := (HB.out.cell (World.block_lt_of_cell? w _ hx2)).trans hx2
      replace hx3 := (HB.out.cell (World.block_lt_of_cell? w _ hx3)).trans hx3
      simp only [Int.toNat_natCast] at hx0 hx1 hx2 hx3
      have hbr : Aside0 (wr.heap[Bc]? = some (.cells #[.string name, .int .i64 of, .int .i64 a2, .bool a3] 38 (0, 0))) := ⟨(HB.out.block Bc HLT.out).trans hb.out⟩
      have hcl := find1_any (rd_T38 xs (k : Int)) name of a2 a3 Bc wr hbr
      have HCL := Lib.hid hcl
      clear hcl
      have hrd := Aside0.mk (rd_T38_nat xs k hlt)
      have BS := HB.out.size
      by_cases hs : sameKey name of (rd_T38 xs (k : Int)) = true
      · have HV := Aside0.mk (show findAt name of xs 0 = (k : Int) by
          have h1 := findAt_some name of xs 0 k hlt (by rw [← hrd.out]; exact hs) (fun j hj => HN.out j hj (by omega))
          simpa using h1)
        go_wp2_with (go_at_call 30; refine HCL.out.mono ?_; rintro e w' ⟨rfl, hb'⟩)
        go_ret
        exact ⟨by rw [HV.out]; rfl, HB.out.trans (hb'.mono BS)⟩
      · replace hs : sameKey name of (rd_T38 xs (k : Int)) = false := by simpa using hs
        go_wp2_with (go_at_call 30; refine HCL.out.mono ?_; rintro e w' ⟨rfl, hb'⟩)
        go_roundw
        case rel =>
          refine ⟨k + 1, by omega, by go_num, ⟨fun j hj hx => ?_⟩, ⟨HB.out.trans (hb'.mono BS)⟩⟩
          by_cases e : j = k
          · subst e; rw [← hrd.out]; exact hs
          · exact HN.out j (by omega) hx
        case measure => simp [intOf]; omega
    · have HV := Aside0.mk (show findAt name of xs 0 = -1 from findAt_none name of xs 0 (fun x hx => by
        obtain ⟨j, hj, rfl⟩ := List.getElem_of_mem hx
        exact HN.out j (by omega) hj))
      go_wp2
      go_ret
      exact ⟨by rw [HV.out]; rfl, HB.out⟩

set_option maxHeartbeats 1000000 in
theorem scope_find.calls (A0 : Option Addr) (c0 : Nat) (l0 : List (S38)) (a1_0 : ByteArray) (a1_1 : Int) (a1_2 : Int) (a1_3 : Bool) (r : Int) (w : World) (hr0 : Kd.C k38 w A0 l0.length l0) (hc0 : l0.length ≤ c0) (h : scope_find.f l0 a1_0 a1_1 a1_2 a1_3 = some r) :
    Calls Try.prog 25 #[.slice A0 l0.length c0, .agg #[.string a1_0, .int .i64 a1_1, .int .i64 a1_2, .bool a1_3]] w fun e w' => e = .returned (.int .i64 r) ∧ Below w.heap.size w w' := by
  obtain rfl : findAt a1_0 a1_1 l0 0 = r := Option.some.inj h
  clear h
  have hu38 := Try.underlying38
  have HR := Aside0.mk hr0
  clear hr0 hc0
  have hC : ∀ W : World, W = w.alloc (.cells #[.string a1_0, .int .i64 a1_1, .int .i64 a1_2, .bool a1_3] 38) → Calls Try.prog 29 #[.slice A0 l0.length c0, .func (.func 30) #[] #[.pointer (some ⟨w.heap.size, 0, none⟩)]] W fun e w' => e = .returned (.int .i64 (findAt a1_0 a1_1 l0 0)) ∧ Below W.heap.size W w' := by
    rintro W rfl
    exact index_any A0 c0 l0 a1_0 a1_1 a1_2 a1_3 w.heap.size _ ⟨Kd.C_alloc HR.out _⟩ ⟨World.alloc_heap_new w _⟩
  have HC := Lib.hid hC
  clear hC
  go_enter Try.func25, Try.ntmps25
  go_wp2_with (go_at_call 29; refine (HC.out _ rfl).mono ?_; rintro e w' ⟨rfl, hb'⟩)
  go_ret
  exact ⟨rfl, ((Below.refl _ w).alloc (Nat.le_refl _) _).trans (hb'.mono (by simp))⟩

end Go.Proofs.Ytejkbdlegnobcaa.Print
