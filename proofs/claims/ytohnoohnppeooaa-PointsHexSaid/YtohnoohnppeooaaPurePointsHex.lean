/- The pure part of PointsHex. No condition. -/
import Derived.Test.YtohnoohnppeooaaPrint12
namespace Go.Proofs.Ytohnoohnppeooaa.Pure
open Go.RowKit Go.Proofs.Ytohnoohnppeooaa.Print Go.Proofs.YtohnoohnppeooaaW.PrintWords Go.Proofs.YtohnoohnppeooaaW.PrintLast

theorem bind_of {α β : Type} {x : Option α} {a : α} {f : α → Option β} {r : Option β} (h : x = some a) (h2 : f a = r) : x.bind f = r := by rw [h]; exact h2
theorem awake1 : fleuronlaw1_awake.f 20 = some true := by decide +kernel
theorem awakeK {k : Nat} (h : 20 ≤ k) : fleuronlaw1_awake.f k = some true := at_rounds (fun k => fleuronlaw1_awake.mono k) h awake1
theorem same_l0 (l : List Int) (hl : l.length ≤ 1000000000) : ∀ (m i : Nat), i ≤ l.length → l.length - i < m → fleuronlaw1_same.l0 m l l (i : Int) = some true
  | 0, _, _, h => absurd h (Nat.not_lt_zero _)
  | m + 1, i, hi, h => by
    simp only [fleuronlaw1_same.l0]
    by_cases hlt : i < l.length
    · rw [if_pos (by omega), if_pos (by omega), if_pos (by omega), if_pos trivial, show wrap64 ((i : Int) + 1) = ((i + 1 : Nat) : Int) by unfold wrap64; omega]
      exact same_l0 l hl m (i + 1) (by omega) (by omega)
    · rw [if_neg (by omega)]
theorem same_self (l : List Int) (hl : l.length ≤ 1000000000) {k : Nat} (hk : l.length < k) : fleuronlaw1_same.f k l l = some true := by
  unfold fleuronlaw1_same.f
  rw [if_pos rfl]
  exact same_l0 l hl k 0 (by omega) (by omega)
theorem runesFrom_length (s : ByteArray) : ∀ (f p : Nat), (runesFrom s f p).length ≤ f
  | 0, _ => Nat.le_refl _
  | f + 1, p => by
    simp only [runesFrom]
    split
    · have := runesFrom_length s f (p + (Utf8.decode s p).2)
      simp; omega
    · simp
theorem fold_length (l : List (Nat × Int)) : ∀ (c : Bool) (o : List Int), ((l.foldl readStep (c, o)).2).length ≤ o.length + l.length := by
  induction l with
  | nil => intro c o; simp
  | cons x l ih =>
    intro c o
    rw [List.foldl_cons]
    have h2 : (readStep (c, o) x).2.length ≤ o.length + 1 := by simp only [readStep]; split <;> simp
    generalize readStep (c, o) x = st at h2 ⊢
    obtain ⟨c', o'⟩ := st
    have h := ih c' o'
    replace h2 : o'.length ≤ o.length + 1 := h2
    simp only [List.length_cons]
    omega
theorem readOf_length (s : ByteArray) : (readOf s).length ≤ s.size := by
  have h1 := fold_length (runes s) false []
  have h2 := runesFrom_length s s.size 0
  unfold readOf
  simp only [List.length_nil] at h1
  unfold runes at h1 ⊢
  omega
theorem lt_of_not_gt3 {n m : Int} (h : ¬ n > m) : n ≤ m := by omega
theorem digit_eq (a : Int) : points_Digit.f a = some (decide (48 ≤ a ∧ a ≤ 57)) := by
  unfold points_Digit.f
  split
  · exact congrArg some (by rw [decide_eq_decide]; omega)
  · exact congrArg some (by symm; rw [decide_eq_false_iff_not]; omega)
theorem letter_eq (a : Int) : points_Letter.f a = some (decide ((97 ≤ a ∧ a ≤ 122) ∨ (65 ≤ a ∧ a ≤ 90) ∨ a = 95 ∨ 128 ≤ a)) := by
  unfold points_Letter.f
  repeat' split
  all_goals first
    | exact congrArg some (by symm; rw [decide_eq_true_iff]; omega)
    | exact congrArg some (by rw [decide_eq_decide]; omega)
theorem name_eq (a : Int) : points_Name.f a = some (decide ((97 ≤ a ∧ a ≤ 122) ∨ (65 ≤ a ∧ a ≤ 90) ∨ a = 95 ∨ 128 ≤ a ∨ (48 ≤ a ∧ a ≤ 57) ∨ a = 45)) := by
  unfold points_Name.f
  rw [letter_eq, digit_eq]
  simp only [Option.bind_some, decide_eq_true_iff]
  repeat' split
  · exact congrArg some (by symm; rw [decide_eq_true_iff]; omega)
  · exact congrArg some (by symm; rw [decide_eq_true_iff]; omega)
  · exact congrArg some (by rw [Bool.eq_iff_iff, decide_eq_true_iff, beq_iff_eq]; omega)
theorem white_eq (a : Int) : points_White.f a = some (decide (a = 10 ∨ a = 9 ∨ a = 32)) := by
  unfold points_White.f
  repeat' split
  · exact congrArg some (by symm; rw [decide_eq_true_iff]; omega)
  · exact congrArg some (by symm; rw [decide_eq_true_iff]; omega)
  · exact congrArg some (by rw [Bool.eq_iff_iff, decide_eq_true_iff, beq_iff_eq]; omega)
theorem hex_eq (k : Nat) (a : Int) : ∃ v, points_Hex.f (k + 1) a = some (v, decide ((48 ≤ a ∧ a ≤ 57) ∨ (97 ≤ a ∧ a ≤ 102) ∨ (65 ≤ a ∧ a ≤ 70))) := by
  simp only [points_Hex.f, digit_eq, points_Hex.j0, Option.bind_some, decide_eq_true_iff, Bool.false_eq_true, if_false]
  repeat' split
  all_goals exact ⟨_, congrArg some (Prod.ext rfl (by first | (symm; rw [decide_eq_true_iff]; omega) | (symm; rw [decide_eq_false_iff_not]; omega)))⟩
def hexA : ByteArray := ⟨#[48, 49, 50, 51, 52, 53, 54, 55, 56, 57, 97, 98, 99, 100, 101, 102]⟩
def hexB : ByteArray := ⟨#[48, 49, 50, 51, 52, 53, 54, 55, 56, 57, 65, 66, 67, 68, 69, 70]⟩
theorem hexes : ∀ i : Fin 16, points_Hex.f 25 (wrap32 (bt hexA (i.val : Int))) = some ((i.val : Int), true) ∧ points_Hex.f 25 (wrap32 (bt hexB (i.val : Int))) = some ((i.val : Int), true) := by decide +kernel

/-- Hex digits are sixteen in both sizes of letters; digits and letters are never both. -/
theorem PointsHex : fleuronlaw1_PointsHex.Pure := by
  intro a0 a1 h0 h1
  refine ⟨25, ?_⟩
  unfold fleuronlaw1_PointsHex.f
  have hr : -16 < Int.tmod a1 16 ∧ Int.tmod a1 16 < 16 := by
    refine ⟨?_, Int.tmod_lt_of_pos _ (by decide)⟩
    have := Int.lt_tmod_of_pos a1 (show (0 : Int) < 16 by decide)
    exact this
  have hw : wrap64 (Int.tmod a1 16 + 16) = Int.tmod a1 16 + 16 := by unfold wrap64; omega
  have hi0 : 0 ≤ Int.tmod (wrap64 (Int.tmod a1 16 + 16)) 16 := by rw [hw]; exact Int.tmod_nonneg 16 (by omega)
  have hi1 : Int.tmod (wrap64 (Int.tmod a1 16 + 16)) 16 < 16 := Int.tmod_lt_of_pos _ (by decide)
  generalize Int.tmod (wrap64 (Int.tmod a1 16 + 16)) 16 = i at hi0 hi1
  obtain ⟨n, rfl⟩ : ∃ n : Nat, i = (n : Int) := ⟨i.toNat, by omega⟩
  have hn : n < 16 := by omega
  obtain ⟨hA, hB⟩ := hexes ⟨n, hn⟩
  obtain ⟨v, hH⟩ := hex_eq 24 a0
  have hAw := awakeK (k := 25) (by omega)
  rw [if_pos hi0, if_pos hi1]
  refine bind_of hA ?_
  refine bind_of hB ?_
  refine bind_of hH ?_
  rw [if_pos rfl, if_pos rfl, if_pos rfl, if_pos rfl]
  refine bind_of (letter_eq a0) ?_
  by_cases hl : (97 ≤ a0 ∧ a0 ≤ 122) ∨ (65 ≤ a0 ∧ a0 ≤ 90) ∨ a0 = 95 ∨ 128 ≤ a0
  · rw [if_pos (decide_eq_true hl)]
    refine bind_of (digit_eq a0) ?_
    rw [if_neg (by rw [decide_eq_true_iff]; omega)]
    refine bind_of (name_eq a0) ?_
    rw [if_pos (by rw [decide_eq_true_iff]; omega)]
    refine bind_of (digit_eq a0) ?_
    rw [if_neg (by rw [decide_eq_true_iff]; omega)]
    refine bind_of (white_eq a0) ?_
    rw [if_neg (by rw [decide_eq_true_iff]; omega)]
    exact bind_of hAw rfl
  · rw [if_neg (by rw [decide_eq_true_iff]; exact hl)]
    refine bind_of (digit_eq a0) ?_
    by_cases hd : 48 ≤ a0 ∧ a0 ≤ 57
    · rw [if_pos (decide_eq_true hd), if_pos (by rw [decide_eq_true_iff]; omega)]
      refine bind_of (name_eq a0) ?_
      rw [if_pos (by rw [decide_eq_true_iff]; omega)]
      refine bind_of (white_eq a0) ?_
      rw [if_neg (by rw [decide_eq_true_iff]; omega)]
      exact bind_of hAw rfl
    · rw [if_neg (by rw [decide_eq_true_iff]; exact hd)]
      refine bind_of (white_eq a0) ?_
      by_cases hw : a0 = 10 ∨ a0 = 9 ∨ a0 = 32
      · rw [if_pos (decide_eq_true hw)]
        refine bind_of (name_eq a0) ?_
        rw [if_neg (by rw [decide_eq_true_iff]; omega), if_neg (by rw [decide_eq_true_iff]; omega)]
        exact bind_of hAw rfl
      · rw [if_neg (by rw [decide_eq_true_iff]; exact hw)]
        exact bind_of hAw rfl

end Go.Proofs.Ytohnoohnppeooaa.Pure
