/- The pure part of SystemRanges: for all four arguments the printed function of the law tells true with some number of rounds. No condition. -/
import Derived.Test.YtalegejfellbdaaPrint22
namespace Go.Proofs.Ytalegejfellbdaa.Pure
open Go.RowKit Go.Proofs.Ytalegejfellbdaa.Print Go.Proofs.YtalegejfellbdaaW.PrintWords Go.Proofs.YtalegejfellbdaaW.PrintLast
def sE : ByteArray := ⟨#[]⟩
/-- More rounds tell the same. -/
theorem may_more {k k' : Nat} (hk : k ≤ k') {a b : ByteArray} {c : Int} {l : List ByteArray} {ws : List Int} {e f g h : ByteArray} {au : Bool} {rs : List S41} {p : Int} {q r s : ByteArray} {t : Int} {x : Bool} (hm : system_May.f k a b c l ws e f g h au rs p q r s t = some x) : system_May.f k' a b c l ws e f g h au rs p q r s t = some x :=
  at_rounds (fun k => system_May.mono a b c l ws e f g h au rs p q r s t k) hk hm
theorem w64 {x : Nat} (h : x ≤ 9223372036854775807) : wrap64 (x : Int) = (x : Int) := by unfold wrap64; omega
/-- The systems' names. -/
def rgNames : List ByteArray := [(⟨#[99, 121, 99, 108, 105, 99]⟩ : ByteArray), (⟨#[110, 117, 109, 101, 114, 105, 99]⟩ : ByteArray), (⟨#[102, 105, 120, 101, 100]⟩ : ByteArray), (⟨#[97, 108, 112, 104, 97, 98, 101, 116, 105, 99]⟩ : ByteArray), (⟨#[115, 121, 109, 98, 111, 108, 105, 99]⟩ : ByteArray), (⟨#[97, 100, 100, 105, 116, 105, 118, 101]⟩ : ByteArray), (⟨#[101, 120, 116, 101, 110, 100, 115]⟩ : ByteArray)]
def rgName (i : Int) : ByteArray := rdOf ByteArray.empty rgNames i
/-- What is in a system's own range. -/
def rgAuto (i n : Int) : Bool := if i < 3 then true else if i < 5 then decide (n > 0) else if i = 5 then decide (n ≥ 0) else false
def rgUses (i n : Int) : Bool := if n < 0 then (if i = 1 then true else if i ≥ 3 then decide (i ≤ 5) else false) else false
theorem rgCases (i : Int) (h0 : 0 ≤ i) (h1 : i < 7) {P : Int → Prop} (p0 : P 0) (p1 : P 1) (p2 : P 2) (p3 : P 3) (p4 : P 4) (p5 : P 5) (p6 : P 6) : P i := by
  rcases (by omega : i = 0 ∨ i = 1 ∨ i = 2 ∨ i = 3 ∨ i = 4 ∨ i = 5 ∨ i = 6) with rfl | rfl | rfl | rfl | rfl | rfl | rfl <;> assumption
theorem rgL0 : (rgName 0).toList = ([99, 121, 99, 108, 105, 99] : List UInt8) := by decide +kernel
theorem rgL1 : (rgName 1).toList = ([110, 117, 109, 101, 114, 105, 99] : List UInt8) := by decide +kernel
theorem rgL2 : (rgName 2).toList = ([102, 105, 120, 101, 100] : List UInt8) := by decide +kernel
theorem rgL3 : (rgName 3).toList = ([97, 108, 112, 104, 97, 98, 101, 116, 105, 99] : List UInt8) := by decide +kernel
theorem rgL4 : (rgName 4).toList = ([115, 121, 109, 98, 111, 108, 105, 99] : List UInt8) := by decide +kernel
theorem rgL5 : (rgName 5).toList = ([97, 100, 100, 105, 116, 105, 118, 101] : List UInt8) := by decide +kernel
theorem rgL6 : (rgName 6).toList = ([101, 120, 116, 101, 110, 100, 115] : List UInt8) := by decide +kernel
/-- In's own answer, by the name's letters. -/
def rgInF (l : List UInt8) (n : Int) : Option Bool :=
    (if l = ([99, 121, 99, 108, 105, 99] : List UInt8) then some true
    else if l = ([110, 117, 109, 101, 114, 105, 99] : List UInt8) then some true
    else if l = ([102, 105, 120, 101, 100] : List UInt8) then some true
    else if l = ([97, 108, 112, 104, 97, 98, 101, 116, 105, 99] : List UInt8) then some (decide (n > 0))
    else if l = ([115, 121, 109, 98, 111, 108, 105, 99] : List UInt8) then some (decide (n > 0))
    else if l = ([97, 100, 100, 105, 116, 105, 118, 101] : List UInt8) then some (decide (n ≥ 0))
    else some false)
def rgUsesF (l : List UInt8) (n : Int) : Option Bool := if l = ([115, 121, 109, 98, 111, 108, 105, 99] : List UInt8) then (some (decide (n < 0))) else (if l = ([97, 108, 112, 104, 97, 98, 101, 116, 105, 99] : List UInt8) then (some (decide (n < 0))) else (if l = ([110, 117, 109, 101, 114, 105, 99] : List UInt8) then (some (decide (n < 0))) else (if l = ([97, 100, 100, 105, 116, 105, 118, 101] : List UInt8) then (some (decide (n < 0))) else (some false))))
theorem rg_inF (i n : Int) (h0 : 0 ≤ i) (h1 : i < 7) : rgInF (rgName i).toList n = some (rgAuto i n) :=
  rgCases i h0 h1 (P := fun i => rgInF (rgName i).toList n = some (rgAuto i n)) (by rw [rgL0]; rfl) (by rw [rgL1]; rfl) (by rw [rgL2]; rfl) (by rw [rgL3]; rfl) (by rw [rgL4]; rfl) (by rw [rgL5]; rfl) (by rw [rgL6]; rfl)
theorem rg_usesF (i n : Int) (h0 : 0 ≤ i) (h1 : i < 7) : rgUsesF (rgName i).toList n = some (rgUses i n) :=
  rgCases i h0 h1 (P := fun i => rgUsesF (rgName i).toList n = some (rgUses i n)) (by rw [rgL0]; unfold rgUses; by_cases h : n < 0; rw [if_pos h]; exact congrArg some (rfl); rw [if_neg h]; exact congrArg some (rfl)) (by rw [rgL1]; unfold rgUses; by_cases h : n < 0; rw [if_pos h]; exact congrArg some (decide_eq_true h); rw [if_neg h]; exact congrArg some (decide_eq_false h)) (by rw [rgL2]; unfold rgUses; by_cases h : n < 0; rw [if_pos h]; exact congrArg some (rfl); rw [if_neg h]; exact congrArg some (rfl)) (by rw [rgL3]; unfold rgUses; by_cases h : n < 0; rw [if_pos h]; exact congrArg some (decide_eq_true h); rw [if_neg h]; exact congrArg some (decide_eq_false h)) (by rw [rgL4]; unfold rgUses; by_cases h : n < 0; rw [if_pos h]; exact congrArg some (decide_eq_true h); rw [if_neg h]; exact congrArg some (decide_eq_false h)) (by rw [rgL5]; unfold rgUses; by_cases h : n < 0; rw [if_pos h]; exact congrArg some (decide_eq_true h); rw [if_neg h]; exact congrArg some (decide_eq_false h)) (by rw [rgL6]; unfold rgUses; by_cases h : n < 0; rw [if_pos h]; exact congrArg some (rfl); rw [if_neg h]; exact congrArg some (rfl))
theorem rg_in (i : Int) (h0 : 0 ≤ i) (h1 : i < 7) (n : Int) (auto : Bool) (rs : List S41) :
    system_In.f sE (rgName i) 1 [] [] sE sE sE sE auto rs 0 sE sE sE 0 n = some (if auto = true then rgAuto i n else rs.any (inB n)) := by
  cases auto with
  | false => rfl
  | true => exact rg_inF i n h0 h1
theorem rg_uses (i : Int) (h0 : 0 ≤ i) (h1 : i < 7) (n : Int) (auto : Bool) (rs : List S41) :
    system_Uses.f sE (rgName i) 1 [] [] sE sE sE sE auto rs 0 sE sE sE 0 n = some (rgUses i n) := rg_usesF i n h0 h1
theorem rg_end (i : Int) (h0 : 0 ≤ i) (h1 : i < 7) (n : Int) (auto : Bool) (rs : List S41) (x : Bool) (hx : x = if auto = true then rgAuto i n else rs.any (inB n)) (k : Nat) :
    fleuronlaw9_SystemRanges.j1 (k + 1) n i x sE (rgName i) 1 [] [] sE sE sE sE auto rs 0 sE sE sE 0 = some true := by
  have aw : fleuronlaw9_awake.f = some true := rfl
  rw [fleuronlaw9_SystemRanges.j1, rg_in i h0 h1, rg_uses i h0 h1, ← hx, aw]
  simp only [Option.bind_some]
  rw [if_pos (beq_self_eq_true x)]
  unfold rgUses
  by_cases hn : n < 0
  · rw [if_pos hn]
    by_cases h2 : i = 1
    · rw [if_pos h2, if_pos]; rw [if_pos hn, if_pos h2]; rfl
    · rw [if_neg h2]
      by_cases h3 : i ≥ 3
      · rw [if_pos h3, if_pos]; rw [if_pos hn, if_neg h2, if_pos h3]; exact beq_self_eq_true _
      · rw [if_neg h3, if_pos]; rw [if_pos hn, if_neg h2, if_neg h3]; rfl
  · rw [if_neg hn, if_pos]; rw [if_neg hn]; rfl
theorem rg_any (rs : List S41) (a b n : Int) : (rs ++ [(⟨a, b⟩ : S41)]).any (inB n) = (rs.any (inB n) || (decide (a ≤ n) && decide (n ≤ b))) := by simp [inB]
theorem rg_loop (i : Int) (h0 : 0 ≤ i) (h1 : i < 7) (n : Int) (auto : Bool) (l : List Int) (hl : (l.length : Int) ≤ 20) :
    ∀ (d k j : Nat) (x : Bool) (rs : List S41), j + d = 23 → d + 6 ≤ k → rs.length ≤ j → x = rs.any (inB n) →
      fleuronlaw9_SystemRanges.l0 k n l auto i x (j : Int) sE (rgName i) 1 [] [] sE sE sE sE auto rs 0 sE sE sE 0 = some true := by
  intro d
  induction d using Nat.strongRecOn with
  | ind d ih =>
  intro k j x rs hj hk hr hx
  obtain ⟨k, rfl⟩ : ∃ m, k = m + 2 := ⟨k - 2, by omega⟩
  by_cases hlt : (j : Int) + 1 < (l.length : Int)
  · have e1 : wrap64 ((j : Int) + 1) = (j : Int) + 1 := by unfold wrap64; omega
    have e2 : wrap64 ((j : Int) + 2) = ((j + 2 : Nat) : Int) := by unfold wrap64; omega
    have step : ∀ (x' : Bool), x' = (rs ++ [(⟨rd l (j : Int), rd l ((j : Int) + 1)⟩ : S41)]).any (inB n) →
        fleuronlaw9_SystemRanges.l0 (k + 1) n l auto i x' ((j + 2 : Nat) : Int) sE (rgName i) 1 [] [] sE sE sE sE auto (rs ++ [(⟨rd l (j : Int), rd l ((j : Int) + 1)⟩ : S41)]) 0 sE sE sE 0 = some true :=
      fun x' hx' => ih (d - 2) (by omega) (k + 1) (j + 2) x' _ (by omega) (by omega) (by rw [List.length_append, List.length_singleton]; omega) hx'
    rw [rg_any, ← hx] at step
    rw [fleuronlaw9_SystemRanges.l0, e1, if_pos hlt, if_pos (by omega), if_pos (by omega), if_pos (by omega), if_pos (by omega), e2]
    simp only [Option.bind_some]
    by_cases hb : x = true
    · rw [if_pos hb]
      exact step true (by rw [hb]; rfl)
    · rw [if_neg hb]
      have hb' : x = false := by simpa using hb
      by_cases hg : n ≥ rd l (j : Int)
      · rw [if_pos hg]
        exact step _ (by rw [hb', decide_eq_true (show rd l (j : Int) ≤ n from hg)]; rfl)
      · rw [if_neg hg]
        exact step _ (by rw [hb', decide_eq_false (show ¬ rd l (j : Int) ≤ n from hg)]; rfl)
  · have e1 : wrap64 ((j : Int) + 1) = (j : Int) + 1 := by unfold wrap64; omega
    rw [fleuronlaw9_SystemRanges.l0, e1, if_neg hlt]
    have j2 : ∀ y, y = rgAuto i n → auto = true → fleuronlaw9_SystemRanges.j1 (k + 1) n i y sE (rgName i) 1 [] [] sE sE sE sE auto rs 0 sE sE sE 0 = some true := by
      intro y hy ha
      exact rg_end i h0 h1 n auto rs y (by rw [if_pos ha]; exact hy) k
    by_cases ha : auto = true
    · rw [if_pos ha]
      by_cases c3 : i < 3
      · rw [if_pos c3]; exact j2 _ (by unfold rgAuto; rw [if_pos c3]) ha
      · rw [if_neg c3]
        by_cases c5 : i < 5
        · rw [if_pos c5]
          by_cases cn : n > 0
          · rw [if_pos cn]; exact j2 _ (by unfold rgAuto; rw [if_neg c3, if_pos c5, decide_eq_true cn]) ha
          · rw [if_neg cn, if_neg (by omega)]; exact j2 _ (by unfold rgAuto; rw [if_neg c3, if_pos c5, decide_eq_false cn]) ha
        · rw [if_neg c5]
          by_cases c6 : i = 5
          · rw [if_pos c6]; exact j2 _ (by unfold rgAuto; rw [if_neg c3, if_neg c5, if_pos c6]) ha
          · rw [if_neg c6]; exact j2 _ (by unfold rgAuto; rw [if_neg c3, if_neg c5, if_neg c6]) ha
    · rw [if_neg ha]
      exact rg_end i h0 h1 n auto rs x (by rw [if_neg ha]; exact hx) k
theorem rg_round (x : Int) : ∃ t, fleuronalike_Round.f x 7 = some t ∧ 0 ≤ t ∧ t < 7 := by
  refine ⟨Int.tmod (wrap64 ((Int.tmod x 7) + 7)) 7, by unfold fleuronalike_Round.f; rw [if_neg (by decide)], ?_⟩
  have h1 : -7 < Int.tmod x 7 ∧ Int.tmod x 7 < 7 := by
    by_cases hx : 0 ≤ x
    · rw [Int.tmod_eq_emod_of_nonneg hx]; omega
    · obtain ⟨y, rfl⟩ : ∃ y, x = -y := ⟨-x, by omega⟩
      rw [Int.neg_tmod, Int.tmod_eq_emod_of_nonneg (by omega)]; omega
  obtain ⟨t, ht⟩ : ∃ t, t = Int.tmod x 7 := ⟨_, rfl⟩
  rw [← ht] at h1 ⊢
  have e : wrap64 (t + 7) = t + 7 := by unfold wrap64; omega
  rw [e, Int.tmod_eq_emod_of_nonneg (by omega)]
  omega
theorem SystemRanges : fleuronlaw9_SystemRanges.Pure := by
  intro a0 a1 l2 a3 _ _ _ _ _
  refine ⟨60, ?_⟩
  unfold fleuronlaw9_SystemRanges.f
  by_cases h : (l2.length : Int) > 20
  · rw [if_pos h]; rfl
  · rw [if_neg h]
    obtain ⟨i, hr, h0, h1⟩ := rg_round a0
    simp only [Option.bind_some, hr]
    rw [if_pos h0, if_pos (by exact h1)]
    exact rg_loop i h0 h1 a1 a3 l2 (by omega) 23 60 0 false [] (by omega) (by omega) (by simp) rfl
end Go.Proofs.Ytalegejfellbdaa.Pure
