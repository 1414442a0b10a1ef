/- SystemForms' row, by hand (mkformslaw.py). -/
import Derived.Test.YtalegejfellbdaaRows
import Derived.Test.YtalegejfellbdaaPrint26
import Derived.WalkKit
import Derived.ProofKit
import Derived.OpenShut
import Derived.ShutString
import Derived.ChangeOld
import Derived.Below
import Derived.SizedLaws
import Derived.ChangeArms
import Derived.ChangeSlices
import Derived.Test.YtalegejfellbdaaWSized
import Derived.Test.YtalegejfellbdaaWMore
namespace Go.Proofs.Ytalegejfellbdaa.systemForms
open Go.ChangeShapes Go.WideShapes Go.ChangeAt Go.RowKit
open Go.ChangeMaps (open_string shut_string)
open Go.Proofs.YtalegejfellbdaaW.PrintWords Go.Proofs.YtalegejfellbdaaW.PrintLast Go.Proofs.YtalegejfellbdaaW.PrintMore Go.Proofs.Ytalegejfellbdaa.Print
set_option linter.unusedVariables false
/-- What reads at a type tells a value of that kind (and W of it). -/
def Opens {α H : Type} (enc : TypeId × Value → H) (P : Program) (w : World) (d : Kd α) (t : TypeId) (W : α → Prop) : Prop :=
  ∀ base spare held fuel cs y, DataW.trod enc P w base spare held fuel t cs = some y → ∃ x, d.K w x cs ∧ W x
section
variable {H : Type} {enc : TypeId × Value → H} {P : Program} {w : World}
theorem opens_int {k : IntKind} {t : TypeId} (ht : P.underlying t = some (.int k)) : Opens enc P w (Kd.int k) t (fun x => (Lit.int k x).wf = true) := fun base spare held fuel cs y h => by
  obtain ⟨n, rfl, _, hw⟩ := DataW.trod_int ht h
  exact ⟨n, rfl, hw⟩
theorem opens_bool {t : TypeId} (ht : P.underlying t = some .bool) : Opens enc P w Kd.bool t (fun _ => True) := fun base spare held fuel cs y h => by
  obtain ⟨b, rfl, _⟩ := DataW.trod_bool ht h
  exact ⟨b, rfl, trivial⟩
theorem opens_string {t : TypeId} (ht : P.underlying t = some .string) : Opens enc P w Kd.string t (fun s => s.size ≤ maxLen) := fun base spare held fuel cs y h => by
  obtain ⟨s, rfl, _, hs⟩ := DataW.trod_string ht h
  exact ⟨s, rfl, hs⟩
theorem opens_imp {α : Type} {d : Kd α} {t : TypeId} {W W' : α → Prop} (h : Opens enc P w d t W) (hW : ∀ x, W x → W' x) : Opens enc P w d t W' := fun base spare held fuel cs y h1 => by
  obtain ⟨x, h2, h3⟩ := h base spare held fuel cs y h1
  exact ⟨x, h2, hW x h3⟩
/-- Many at once. -/
theorem opens_many {α : Type} (R : Nat → α → Prop) : ∀ n : Nat, (∀ i, i < n → ∃ x, R i x) → ∃ l : List α, l.length = n ∧ ∀ i x, l[i]? = some x → R i x
  | 0, _ => ⟨[], rfl, fun i x h => by simp at h⟩
  | n + 1, h => by
    obtain ⟨l, hl, hr⟩ := opens_many R n (fun i hi => h i (by omega))
    obtain ⟨x, hx⟩ := h n (by omega)
    refine ⟨l ++ [x], by simp [hl], fun i y hy => ?_⟩
    by_cases hi : i < n
    · rw [List.getElem?_append_left (by omega)] at hy
      exact hr i y hy
    · rw [List.getElem?_append_right (by omega)] at hy
      have : i = n := by
        have := (List.getElem?_eq_some_iff.1 hy).1
        simp at this; omega
      subst this
      rw [hl, Nat.sub_self] at hy
      simp at hy
      subst hy
      exact hx
theorem opens_slice {α : Type} {d : Kd α} {t e : TypeId} {W : α → Prop} (ht : P.underlying t = some (.slice e)) (hc : P.cellsOf e = d.sz) (h : Opens enc P w d e W) :
    Opens enc P w (Kd.slice e d) t (fun xs => xs.length ≤ maxLen ∧ ∀ x ∈ xs, W x) := fun base spare held fuel cs y hy => by
  rcases DataW.trod_slice ht hy with ⟨rfl, _⟩ | ⟨a, len, cap, elems, rest, n, _, rfl, _, _, hl, hm, hlen, hel, _, _⟩
  · exact ⟨[], ⟨none, 0, rfl, Nat.le_refl _, Kd.C_nil _ _⟩, by simp, by simp⟩
  · obtain ⟨xs, hx, hr⟩ := opens_many (fun i x => W x ∧ ∃ c, c.length = d.sz ∧ d.K w x c ∧ ∀ q u, c[q]? = some u → w.cell? (a.add (i * d.sz + q)) = some u) len (fun i hi => by
      have h1 := hel i hi
      obtain ⟨z, hz⟩ : ∃ z, elems[i]? = some z := ⟨_, List.getElem?_eq_getElem (by omega)⟩
      rw [hz, Option.bind_eq_some_iff] at h1
      obtain ⟨c, h2, h3⟩ := h1
      obtain ⟨x, h4, h5⟩ := h _ _ _ _ _ _ h3
      rw [hc] at h2
      have h6 := World.cells?_some h2
      refine ⟨x, h5, c, d.K_len h4, h4, fun q u hq => ?_⟩
      rw [← add_add]
      have hq2 := (List.getElem?_eq_some_iff.1 hq).1
      rw [h6.2.2 q (by rw [← h6.2.1]; exact hq2)]
      exact hq)
    subst hx
    refine ⟨xs, ⟨some a, cap, rfl, hl, rfl, by simp only [maxLen] at hm; omega, fun _ => ⟨a, rfl, fun j p hj => (hr j p hj).2⟩⟩, by omega, fun x hx => ?_⟩
    obtain ⟨i, hi⟩ := List.getElem?_of_mem hx
    exact (hr i x hi).1
/-- Two fields in line: the cells' first part, and what is left. -/
theorem kpair_of {α β : Type} {a : Kd α} {b : Kd β} {x : α} {y : β} {cs : List Value} (ha : a.K w x (cs.take a.sz)) (hb : b.K w y (cs.drop a.sz)) : (Kd.pair a b).K w (x, y) cs :=
  ⟨cs.take a.sz, cs.drop a.sz, (List.take_append_drop _ _).symm, ha, hb⟩
end
theorem own : ownKnob Try.prog.godebug = none := by kernel_rfl
theorem laidOut : laidOutB Try.prog = true := by kernel_rfl
theorem cz3 : Try.prog.cellsOf 3 = 1 := by kernel_rfl
theorem cz4 : Try.prog.cellsOf 4 = 1 := by kernel_rfl
theorem cz9 : Try.prog.cellsOf 9 = 1 := by kernel_rfl
theorem cz22 : Try.prog.cellsOf 22 = 1 := by kernel_rfl
theorem cz23 : Try.prog.cellsOf 23 = 1 := by kernel_rfl
theorem cz24 : Try.prog.cellsOf 24 = 2 := by kernel_rfl
theorem cz25 : Try.prog.cellsOf 25 = 1 := by kernel_rfl
theorem cz27 : Try.prog.cellsOf 27 = 16 := by kernel_rfl
theorem cz41 : Try.prog.cellsOf 41 = 2 := by kernel_rfl
section
variable {H : Type} {enc : TypeId × Value → H} {w : World}
theorem some_of {α : Type} {l : List α} {n i : Nat} (h : l.length = n) (hi : i < n) : ∃ x, l[i]? = some x := ⟨_, List.getElem?_eq_getElem (by omega)⟩
theorem opens_k24 : Opens enc Try.prog w k24 24 (fun _ => True) := fun base spare held fuel cs y h => by
  obtain ⟨xs, m, _, _, hl, hlen, hf⟩ := DataW.trod_array Try.underlying24 h
  rw [cz24] at hl
  match cs, hl with
  | [c0, c1], _ =>
    obtain ⟨x0, e0⟩ := some_of hlen (show 0 < 2 by omega)
    obtain ⟨x1, e1⟩ := some_of hlen (show 1 < 2 by omega)
    have h0 := hf 0 (by omega)
    have h1 := hf 1 (by omega)
    rw [e0, cz9] at h0
    rw [e1, cz9] at h1
    obtain ⟨s0, k0, _⟩ := opens_string Try.underlying9 _ _ _ _ _ _ h0
    obtain ⟨s1, k1, _⟩ := opens_string Try.underlying9 _ _ _ _ _ _ h1
    have k0' : [c0] = [.string s0] := k0
    have k1' : [c1] = [.string s1] := k1
    obtain ⟨rfl⟩ := List.cons.inj k0'
    obtain ⟨rfl⟩ := List.cons.inj k1'
    exact ⟨⟨s0, s1⟩, k24_mk w ⟨s0, s1⟩, trivial⟩
theorem opens_k41 : Opens enc Try.prog w k41 41 (fun _ => True) := fun base spare held fuel cs y h => by
  obtain ⟨xs, m, _, _, hl, hlen, hf⟩ := DataW.trod_array Try.underlying41 h
  rw [cz41] at hl
  match cs, hl with
  | [c0, c1], _ =>
    obtain ⟨x0, e0⟩ := some_of hlen (show 0 < 2 by omega)
    obtain ⟨x1, e1⟩ := some_of hlen (show 1 < 2 by omega)
    have h0 := hf 0 (by omega)
    have h1 := hf 1 (by omega)
    rw [e0, cz3] at h0
    rw [e1, cz3] at h1
    obtain ⟨s0, k0, _⟩ := opens_int Try.underlying3 _ _ _ _ _ _ h0
    obtain ⟨s1, k1, _⟩ := opens_int Try.underlying3 _ _ _ _ _ _ h1
    have k0' : [c0] = [.int .i64 s0] := k0
    have k1' : [c1] = [.int .i64 s1] := k1
    obtain ⟨rfl⟩ := List.cons.inj k0'
    obtain ⟨rfl⟩ := List.cons.inj k1'
    exact ⟨⟨s0, s1⟩, k41_mk w ⟨s0, s1⟩, trivial⟩
theorem opens_k27 (base : Nat) (spare : Nat → Bool) (held : Bool) (fuel : Nat) (cs : List Value) (y) (h : DataW.trod enc Try.prog w base spare held fuel 27 cs = some y) : ∃ x, k27.K w x cs := by
  obtain ⟨xs, m, _, _, hl, hlen, hf⟩ := DataW.trod_struct Try.underlying27 h
  rw [cz27] at hl
  have hlen' : xs.length = 15 := hlen
  match cs, hl with
  | [c0, c1, c2, c3, c4, c5, c6, c7, c8, c9, c10, c11, c12, c13, c14, c15], _ =>
    obtain ⟨y0, e0⟩ := some_of hlen' (show 0 < 15 by omega)
    have h0 : DataW.trod enc Try.prog w base spare held m 9 ((List.drop 0 [c0, c1, c2, c3, c4, c5, c6, c7, c8, c9, c10, c11, c12, c13, c14, c15]).take (Try.prog.cellsOf 9)) = xs[0]? := hf 0 _ rfl
    rw [e0, cz9] at h0
    obtain ⟨s0, k0, _⟩ := (opens_string Try.underlying9 : Opens enc Try.prog w _ 9 _) _ _ _ _ _ _ h0
    obtain ⟨y1, e1⟩ := some_of hlen' (show 1 < 15 by omega)
    have h1 : DataW.trod enc Try.prog w base spare held m 9 ((List.drop 1 [c0, c1, c2, c3, c4, c5, c6, c7, c8, c9, c10, c11, c12, c13, c14, c15]).take (Try.prog.cellsOf 9)) = xs[1]? := hf 1 _ rfl
    rw [e1, cz9] at h1
    obtain ⟨s1, k1, _⟩ := (opens_string Try.underlying9 : Opens enc Try.prog w _ 9 _) _ _ _ _ _ _ h1
    obtain ⟨y2, e2⟩ := some_of hlen' (show 2 < 15 by omega)
    have h2 : DataW.trod enc Try.prog w base spare held m 3 ((List.drop 2 [c0, c1, c2, c3, c4, c5, c6, c7, c8, c9, c10, c11, c12, c13, c14, c15]).take (Try.prog.cellsOf 3)) = xs[2]? := hf 2 _ rfl
    rw [e2, cz3] at h2
    obtain ⟨s2, k2, _⟩ := (opens_int Try.underlying3 : Opens enc Try.prog w _ 3 _) _ _ _ _ _ _ h2
    obtain ⟨y3, e3⟩ := some_of hlen' (show 3 < 15 by omega)
    have h3 : DataW.trod enc Try.prog w base spare held m 22 ((List.drop 3 [c0, c1, c2, c3, c4, c5, c6, c7, c8, c9, c10, c11, c12, c13, c14, c15]).take (Try.prog.cellsOf 22)) = xs[3]? := hf 3 _ rfl
    rw [e3, cz22] at h3
    obtain ⟨s3, k3, _⟩ := (opens_slice Try.underlying22 cz9 (opens_string Try.underlying9) : Opens enc Try.prog w _ 22 _) _ _ _ _ _ _ h3
    obtain ⟨y4, e4⟩ := some_of hlen' (show 4 < 15 by omega)
    have h4 : DataW.trod enc Try.prog w base spare held m 23 ((List.drop 4 [c0, c1, c2, c3, c4, c5, c6, c7, c8, c9, c10, c11, c12, c13, c14, c15]).take (Try.prog.cellsOf 23)) = xs[4]? := hf 4 _ rfl
    rw [e4, cz23] at h4
    obtain ⟨s4, k4, _⟩ := (opens_slice Try.underlying23 cz3 (opens_int Try.underlying3) : Opens enc Try.prog w _ 23 _) _ _ _ _ _ _ h4
    obtain ⟨y5, e5⟩ := some_of hlen' (show 5 < 15 by omega)
    have h5 : DataW.trod enc Try.prog w base spare held m 24 ((List.drop 5 [c0, c1, c2, c3, c4, c5, c6, c7, c8, c9, c10, c11, c12, c13, c14, c15]).take (Try.prog.cellsOf 24)) = xs[5]? := hf 5 _ rfl
    rw [e5, cz24] at h5
    obtain ⟨s5, k5, _⟩ := (opens_k24 : Opens enc Try.prog w _ 24 _) _ _ _ _ _ _ h5
    obtain ⟨y6, e6⟩ := some_of hlen' (show 6 < 15 by omega)
    have h6 : DataW.trod enc Try.prog w base spare held m 9 ((List.drop 7 [c0, c1, c2, c3, c4, c5, c6, c7, c8, c9, c10, c11, c12, c13, c14, c15]).take (Try.prog.cellsOf 9)) = xs[6]? := hf 6 _ rfl
    rw [e6, cz9] at h6
    obtain ⟨s6, k6, _⟩ := (opens_string Try.underlying9 : Opens enc Try.prog w _ 9 _) _ _ _ _ _ _ h6
    obtain ⟨y7, e7⟩ := some_of hlen' (show 7 < 15 by omega)
    have h7 : DataW.trod enc Try.prog w base spare held m 9 ((List.drop 8 [c0, c1, c2, c3, c4, c5, c6, c7, c8, c9, c10, c11, c12, c13, c14, c15]).take (Try.prog.cellsOf 9)) = xs[7]? := hf 7 _ rfl
    rw [e7, cz9] at h7
    obtain ⟨s7, k7, _⟩ := (opens_string Try.underlying9 : Opens enc Try.prog w _ 9 _) _ _ _ _ _ _ h7
    obtain ⟨y8, e8⟩ := some_of hlen' (show 8 < 15 by omega)
    have h8 : DataW.trod enc Try.prog w base spare held m 4 ((List.drop 9 [c0, c1, c2, c3, c4, c5, c6, c7, c8, c9, c10, c11, c12, c13, c14, c15]).take (Try.prog.cellsOf 4)) = xs[8]? := hf 8 _ rfl
    rw [e8, cz4] at h8
    obtain ⟨s8, k8, _⟩ := (opens_bool Try.underlying4 : Opens enc Try.prog w _ 4 _) _ _ _ _ _ _ h8
    obtain ⟨y9, e9⟩ := some_of hlen' (show 9 < 15 by omega)
    have h9 : DataW.trod enc Try.prog w base spare held m 25 ((List.drop 10 [c0, c1, c2, c3, c4, c5, c6, c7, c8, c9, c10, c11, c12, c13, c14, c15]).take (Try.prog.cellsOf 25)) = xs[9]? := hf 9 _ rfl
    rw [e9, cz25] at h9
    obtain ⟨s9, k9, _⟩ := (opens_slice Try.underlying25 cz41 opens_k41 : Opens enc Try.prog w _ 25 _) _ _ _ _ _ _ h9
    obtain ⟨y10, e10⟩ := some_of hlen' (show 10 < 15 by omega)
    have h10 : DataW.trod enc Try.prog w base spare held m 3 ((List.drop 11 [c0, c1, c2, c3, c4, c5, c6, c7, c8, c9, c10, c11, c12, c13, c14, c15]).take (Try.prog.cellsOf 3)) = xs[10]? := hf 10 _ rfl
    rw [e10, cz3] at h10
    obtain ⟨s10, k10, _⟩ := (opens_int Try.underlying3 : Opens enc Try.prog w _ 3 _) _ _ _ _ _ _ h10
    obtain ⟨y11, e11⟩ := some_of hlen' (show 11 < 15 by omega)
    have h11 : DataW.trod enc Try.prog w base spare held m 9 ((List.drop 12 [c0, c1, c2, c3, c4, c5, c6, c7, c8, c9, c10, c11, c12, c13, c14, c15]).take (Try.prog.cellsOf 9)) = xs[11]? := hf 11 _ rfl
    rw [e11, cz9] at h11
    obtain ⟨s11, k11, _⟩ := (opens_string Try.underlying9 : Opens enc Try.prog w _ 9 _) _ _ _ _ _ _ h11
    obtain ⟨y12, e12⟩ := some_of hlen' (show 12 < 15 by omega)
    have h12 : DataW.trod enc Try.prog w base spare held m 9 ((List.drop 13 [c0, c1, c2, c3, c4, c5, c6, c7, c8, c9, c10, c11, c12, c13, c14, c15]).take (Try.prog.cellsOf 9)) = xs[12]? := hf 12 _ rfl
    rw [e12, cz9] at h12
    obtain ⟨s12, k12, _⟩ := (opens_string Try.underlying9 : Opens enc Try.prog w _ 9 _) _ _ _ _ _ _ h12
    obtain ⟨y13, e13⟩ := some_of hlen' (show 13 < 15 by omega)
    have h13 : DataW.trod enc Try.prog w base spare held m 9 ((List.drop 14 [c0, c1, c2, c3, c4, c5, c6, c7, c8, c9, c10, c11, c12, c13, c14, c15]).take (Try.prog.cellsOf 9)) = xs[13]? := hf 13 _ rfl
    rw [e13, cz9] at h13
    obtain ⟨s13, k13, _⟩ := (opens_string Try.underlying9 : Opens enc Try.prog w _ 9 _) _ _ _ _ _ _ h13
    obtain ⟨y14, e14⟩ := some_of hlen' (show 14 < 15 by omega)
    have h14 : DataW.trod enc Try.prog w base spare held m 3 ((List.drop 15 [c0, c1, c2, c3, c4, c5, c6, c7, c8, c9, c10, c11, c12, c13, c14, c15]).take (Try.prog.cellsOf 3)) = xs[14]? := hf 14 _ rfl
    rw [e14, cz3] at h14
    obtain ⟨s14, k14, _⟩ := (opens_int Try.underlying3 : Opens enc Try.prog w _ 3 _) _ _ _ _ _ _ h14
    refine ⟨⟨s0, s1, s2, s3, s4, s5, s6, s7, s8, s9, s10, s11, s12, s13, s14⟩, ?_⟩
    exact ⟨[c0], [c1, c2, c3, c4, c5, c6, c7, c8, c9, c10, c11, c12, c13, c14, c15], rfl, k0, ⟨[c1], [c2, c3, c4, c5, c6, c7, c8, c9, c10, c11, c12, c13, c14, c15], rfl, k1, ⟨[c2], [c3, c4, c5, c6, c7, c8, c9, c10, c11, c12, c13, c14, c15], rfl, k2, ⟨[c3], [c4, c5, c6, c7, c8, c9, c10, c11, c12, c13, c14, c15], rfl, k3, ⟨[c4], [c5, c6, c7, c8, c9, c10, c11, c12, c13, c14, c15], rfl, k4, ⟨[c5, c6], [c7, c8, c9, c10, c11, c12, c13, c14, c15], rfl, k5, ⟨[c7], [c8, c9, c10, c11, c12, c13, c14, c15], rfl, k6, ⟨[c8], [c9, c10, c11, c12, c13, c14, c15], rfl, k7, ⟨[c9], [c10, c11, c12, c13, c14, c15], rfl, k8, ⟨[c10], [c11, c12, c13, c14, c15], rfl, k9, ⟨[c11], [c12, c13, c14, c15], rfl, k10, ⟨[c12], [c13, c14, c15], rfl, k11, ⟨[c13], [c14, c15], rfl, k12, ⟨[c14], [c15], rfl, k13, k14⟩⟩⟩⟩⟩⟩⟩⟩⟩⟩⟩⟩⟩⟩
end
set_option maxRecDepth 100000 in
theorem lifted (os : Os) (started : os.Started) (H : Type) (enc : TypeId × Value → H) :
    ReturnsInHanded {} Try.checked os 3 .any (Rows.systemFormsSpec.pre6 enc Try.prog Try.f3 Rows.systemFormsRow.domain false) (Rows.systemFormsSpec.post enc Try.prog Try.f3 false true false false) := by
  refine returnsInHanded_of_change_sized (C := Try.checked) own started (by kernel_rfl) Try.func3
    (ChangeSpec.witness6 (enc := enc) (C := Try.checked) false ⟨#[], #[.agg #[.string ⟨#[]⟩, .string ⟨#[]⟩, .int .i64 0, .slice none 0 0, .slice none 0 0, .string ⟨#[]⟩, .string ⟨#[]⟩, .string ⟨#[]⟩, .string ⟨#[]⟩, .bool false, .slice none 0 0, .int .i64 0, .string ⟨#[]⟩, .string ⟨#[]⟩, .string ⟨#[]⟩, .int .i64 0], .int .i64 0], []⟩ 8 (by kernel_rfl) (by kernel_rfl) (by kernel_rfl) (by kernel_rfl)) ?_
  intro W base args ds gs before hval0 hW hcnd hsz0 _
  have hval : ∀ (j : Nat) t v, Try.f3.params[j]? = some t → args[j]? = some v → Value.okWide Try.prog W .any base t v := hval0
  have hW' := hW
  obtain ⟨p, q, hA0, hV, rfl, hfz, hnd⟩ := hW
  have hA : DataW.TrodAll enc Try.prog W 0 (fun _ => true) true Try.f3.params.toList args.toList ds p := hA0
  rw [Try.params3] at hA hval
  obtain ⟨v0, vs0, d0, ds0, p0, q0, hargs, rfl, rfl, h0, r0⟩ := trodAll_cons hA
  obtain ⟨v1, vs1, d1, ds1, p1, q1, rfl, rfl, rfl, h1, r1⟩ := trodAll_cons r0
  obtain ⟨rfl, rfl, rfl⟩ := trodAll_nil r1
  obtain rfl : args = #[v0, v1] := by cases args; simp_all
  obtain ⟨rfl, rfl⟩ := trodVars_none hV
  obtain ⟨cs0, rfl, _⟩ := okWide_struct Try.underlying27 (hval 0 27 v0 rfl rfl)
  have k0 := h0
  have lt0 : ∀ x ∈ p0, x.block < W.heap.size := by obtain ⟨m, hm⟩ := k0; exact DataW.trod_lt m _ _ _ hm
  obtain ⟨fuel, hf⟩ := h0
  obtain ⟨x, hx⟩ := opens_k27 _ _ _ _ _ _ hf
  obtain ⟨A3, c3, A4, c4, A10, c10, hcs, l3, g3, l4, g4, l10, g10⟩ := k27_open hx
  obtain rfl : cs0 = _ := Array.ext' hcs
  obtain ⟨a1, rfl, rfl, rfl, w1⟩ := open_int Try.underlying3 (hval 1 3 v1 rfl rfl) h1
  clear hA0 hval0 hsz0
  refine (Print.fleuronlaw9_SystemForms.calls x.f0 x.f1 x.f2 A3 c3 x.f3 A4 c4 x.f4 x.f5.f0 x.f5.f1 x.f6 x.f7 x.f8 A10 c10 x.f9 x.f10 x.f11 x.f12 x.f13 x.f14 a1 W g3 l3 g4 l4 g10 l10).mono fun e W' ⟨he, bel⟩ => ?_
  subst he
  exact ⟨_, rfl, _, _, _, [], _, [], hW', trodAll_mk1 (shut_bool Try.underlying4 _), (trodAll_cons_mk (Below.trod laidOut (by kernel_rfl) (of_decide_eq_true (by kernel_rfl)) k0 bel lt0) (trodAll_cons_mk (shut_int Try.underlying3 w1) trodAll_mk0)), rfl, bel.frame _, fun h => by cases h⟩
theorem over : Rows.systemFormsRow.holds Try.pinned (OpenSpec.ofChange Rows.systemFormsSpec) :=
  OpenClaim.holds_of_wide 3 Try.f3 rfl rfl rfl rfl rfl rfl rfl ⟨rfl, rfl, rfl, rfl, rfl⟩ rfl rfl rfl rfl rfl (by kernel_rfl) Try.func3 (by kernel_rfl)
    (of_decide_eq_true (by kernel_rfl)) (by unfold Func.isWrapper; first | (rw [if_pos (by decide +kernel)]; kernel_rfl) | (rw [if_neg (by decide +kernel)]; exact ⟨rfl, rfl⟩))
    (fun os started H enc _ => lifted os started H enc)
theorem proved : Rows.SystemFormsSaid := over
#print axioms proved
end Go.Proofs.Ytalegejfellbdaa.systemForms
namespace Go.Proofs.Ytalegejfellbdaa
/-- The row, under a short name, for the claim. -/
theorem systemForms_holds : Rows.SystemFormsSaid := systemForms.proved
end Go.Proofs.Ytalegejfellbdaa
