/- The pure part of PointsRead. No condition. -/
import Derived.Test.YtohnoohnppeooaaPrint11
namespace Go.Proofs.Ytohnoohnppeooaa.Pure
open Go.RowKit Go.Proofs.Ytohnoohnppeooaa.Print Go.Proofs.YtohnoohnppeooaaW.PrintWords Go.Proofs.YtohnoohnppeooaaW.PrintLast

theorem bind_of {α β : Type} {x : Option α} {a : α} {f : α → Option β} {r : Option β} (h : x = some a) (h2 : f a = r) : x.bind f = r := by rw [h]; exact h2
theorem awake1 : fleuronlaw1_awake.f 20 = some true := by decide +kernel
theorem awakeK {k : Nat} (h : 20 ≤ k) : fleuronlaw1_awake.f k = some true := at_rounds (fun k => fleuronlaw1_awake.mono k) h awake1
theorem same_l0 (l : List Int) (hl : l.length ≤ 1000000000) : ∀ (m i : Nat), i ≤ l.length → l.length - i < m → fleuronlaw1_same.l0 m l l (i : Int) = some true
  | 0, _, _, h => absurd h (Nat.not_lt_zero _)
  | m + 1, i, hi, h => by
    simp only [fleuronlaw1_same.l0]
    by_cases hlt : i < l.length
    · rw [if_pos (by omega), if_pos (by omega), if_pos (by omega), if_pos trivial, show wrap64 ((i : Int) + 1) = ((i + 1 : Nat) : Int) by unfold wrap64; omega]
      exact same_l0 l hl m (i + 1) (by omega) (by omega)
    · rw [if_neg (by omega)]
theorem same_self (l : List Int) (hl : l.length ≤ 1000000000) {k : Nat} (hk : l.length < k) : fleuronlaw1_same.f k l l = some true := by
  unfold fleuronlaw1_same.f
  rw [if_pos rfl]
  exact same_l0 l hl k 0 (by omega) (by omega)
theorem runesFrom_length (s : ByteArray) : ∀ (f p : Nat), (runesFrom s f p).length ≤ f
  | 0, _ => Nat.le_refl _
  | f + 1, p => by
    simp only [runesFrom]
    split
    · have := runesFrom_length s f (p + (Utf8.decode s p).2)
      simp; omega
    · simp
theorem fold_length (l : List (Nat × Int)) : ∀ (c : Bool) (o : List Int), ((l.foldl readStep (c, o)).2).length ≤ o.length + l.length := by
  induction l with
  | nil => intro c o; simp
  | cons x l ih =>
    intro c o
    rw [List.foldl_cons]
    have h2 : (readStep (c, o) x).2.length ≤ o.length + 1 := by simp only [readStep]; split <;> simp
    generalize readStep (c, o) x = st at h2 ⊢
    obtain ⟨c', o'⟩ := st
    have h := ih c' o'
    replace h2 : o'.length ≤ o.length + 1 := h2
    simp only [List.length_cons]
    omega
theorem readOf_length (s : ByteArray) : (readOf s).length ≤ s.size := by
  have h1 := fold_length (runes s) false []
  have h2 := runesFrom_length s s.size 0
  unfold readOf
  simp only [List.length_nil] at h1
  unfold runes at h1 ⊢
  omega
theorem lt_of_not_gt3 {n m : Int} (h : ¬ n > m) : n ≤ m := by omega
/-- Behind the first sign the two readers are one. -/
theorem fold_same (l : List (Nat × Int)) : ∀ (c : Bool) (o : List Int), (∀ x ∈ l, x.1 ≠ 0) → (((l.map Prod.snd).foldl refStep (false, c, o)).2.2) = (l.foldl readStep (c, o)).2 := by
  induction l with
  | nil => intro c o _; rfl
  | cons x l ih =>
    intro c o h
    have hx := h x (by simp)
    rw [List.map_cons, List.foldl_cons, List.foldl_cons]
    have e : refStep (false, c, o) x.2 = (false, (readStep (c, o) x).1, (readStep (c, o) x).2) := by
      simp only [refStep, readStep]
      rw [if_neg (by simp)]
      by_cases h2 : c = true ∧ x.2 = 10
      · rw [if_pos h2, if_pos (Or.inr ⟨h2.2, h2.1⟩), h2.2]; rfl
      · rw [if_neg h2, if_neg (show ¬ ((x.1 = 0 ∧ x.2 = 65279) ∨ (x.2 = 10 ∧ c = true)) from fun h3 => h3.elim (fun q => hx q.1) (fun q => h2 ⟨q.2, q.1⟩))]
    rw [e]
    exact ih _ _ (fun y hy => h y (by simp [hy]))
theorem runesFrom_pos (s : ByteArray) : ∀ (f p : Nat), 0 < p → ∀ x ∈ runesFrom s f p, x.1 ≠ 0
  | 0, _, _ => fun x hx => by simp [runesFrom] at hx
  | f + 1, p, hp => fun x hx => by
    simp only [runesFrom] at hx
    split at hx
    · rcases List.mem_cons.1 hx with rfl | hx
      · exact Nat.ne_of_gt hp
      · exact runesFrom_pos s f _ (by omega) x hx
    · simp at hx
theorem read_same (s : ByteArray) : refReadOf s = readOf s := by
  unfold refReadOf readOf runes
  cases hs : s.size with
  | zero => rfl
  | succ f =>
    simp only [runesFrom]
    rw [if_pos (by omega), List.map_cons, List.foldl_cons, List.foldl_cons]
    have hw := decode_width s 0 (by omega)
    generalize ((Utf8.decode s 0).1 : Int) = x
    have e : refStep (true, false, []) x = (false, (readStep (false, []) (0, x)).1, (readStep (false, []) (0, x)).2) := by
      simp only [refStep, readStep]
      by_cases h2 : x = 65279
      · rw [if_pos ⟨trivial, h2⟩, if_pos (Or.inl ⟨trivial, h2⟩), h2]; rfl
      · rw [if_neg (fun h => h2 h.2), if_neg (by simp), if_neg (show ¬ ((True ∧ x = 65279) ∨ (x = 10 ∧ false = true)) from fun h3 => h3.elim (fun q => h2 q.2) (fun q => by simp at q))]
    rw [e]
    exact fold_same _ _ _ (runesFrom_pos s f _ (by omega))
theorem hex_same (k : Nat) (a : Int) : ∃ p, points_Hex.f (k + 2) a = some p ∧ fleuronref1_Hex.f (k + 2) a = some p := by
  simp only [points_Hex.f, points_Digit.f, points_Hex.j0, fleuronref1_Hex.f, fleuronref1_Hex.j0, fleuronref1_Hex.j1]
  by_cases h1 : a ≥ 48
  · by_cases h2 : a ≤ 57
    · simp [h1, h2]
    · by_cases h3 : a ≥ 97
      · by_cases h4 : a ≤ 102
        · simp [h1, h2, h3, h4]
        · by_cases h5 : a ≥ 65
          · by_cases h6 : a ≤ 70
            · omega
            · simp [h1, h2, h3, h4, h5, h6]
          · omega
      · by_cases h5 : a ≥ 65
        · by_cases h6 : a ≤ 70
          · simp [h1, h2, h3, h5, h6]
          · simp [h1, h2, h3, h5, h6]
        · simp [h1, h2, h3, h5]
  · have h2 : a ≤ 57 := by omega
    have h3 : ¬ a ≥ 97 := by omega
    have h5 : ¬ a ≥ 65 := by omega
    simp [h1, h3, h5]
theorem letter_some (a : Int) : ∃ b, points_Letter.f a = some b ∧ fleuronref1_Letter.f a = some b := by
  unfold points_Letter.f fleuronref1_Letter.f
  repeat' split
  all_goals exact ⟨_, rfl, rfl⟩
theorem digit_some (a : Int) : ∃ b, points_Digit.f a = some b ∧ fleuronref1_Digit.f a = some b := by
  unfold points_Digit.f fleuronref1_Digit.f
  repeat' split
  all_goals exact ⟨_, rfl, rfl⟩
theorem name_some (a : Int) : ∃ b, points_Name.f a = some b ∧ fleuronref1_Name.f a = some b := by
  obtain ⟨b, h1, h2⟩ := letter_some a
  obtain ⟨c, h3, h4⟩ := digit_some a
  unfold points_Name.f fleuronref1_Name.f
  rw [h1, h2, h3, h4]
  simp only [Option.bind_some]
  repeat' split
  all_goals exact ⟨_, rfl, rfl⟩
theorem white_some (a : Int) : ∃ b, points_White.f a = some b ∧ fleuronref1_White.f a = some b := by
  unfold points_White.f fleuronref1_White.f
  repeat' split
  all_goals exact ⟨_, rfl, rfl⟩

/-- Bytes, a sign and a text: what the two say of each is one. -/
theorem PointsRead : fleuronlaw1_PointsRead.Pure := by
  intro l0 a1 a2 hl1 hl2 hw ha hs
  refine ⟨l0.length + 30, ?_⟩
  have hj : ∀ b, (b = true ∨ (l0.length ≤ 3000 ∧ a2.size ≤ 1000)) → fleuronlaw1_PointsRead.j0 (l0.length + 30) l0 a1 a2 b = some true := by
    intro b hb
    rw [show l0.length + 30 = (l0.length + 29) + 1 by omega]
    simp only [fleuronlaw1_PointsRead.j0]
    have hA : fleuronlaw1_awake.f (l0.length + 29) = some true := awakeK (by omega)
    by_cases hbt : b = true
    · rw [if_pos hbt, hA]; rfl
    · obtain ⟨hb1, hb2⟩ := hb.resolve_left hbt
      have hR : points_Read.f l0 = some (readOf (strOfNums l0)) := if_pos (by omega)
      have hR2 : fleuronref1_Read.f l0 = some (readOf (strOfNums l0)) := by rw [← read_same]; exact if_pos (by omega)
      have hlen : (readOf (strOfNums l0)).length ≤ l0.length := by
        have := readOf_length (strOfNums l0)
        rw [size_strOfNums] at this; exact this
      have hS := same_self (readOf (strOfNums l0)) (by omega) (k := l0.length + 29) (by omega)
      obtain ⟨p, hp1, hp2⟩ := hex_same (l0.length + 27) a1
      obtain ⟨t1, e1, e2⟩ := letter_some a1
      obtain ⟨t2, e3, e4⟩ := digit_some a1
      obtain ⟨t3, e5, e6⟩ := name_some a1
      obtain ⟨t4, e7, e8⟩ := white_some a1
      have hL : points_Lower.f a2 = some (lowStr a2) := if_pos (by omega)
      have hL2 : fleuronref1_Lower.f a2 = some (lowStr a2) := if_pos (by omega)
      rw [if_neg hbt]
      refine bind_of hp1 ?_
      refine bind_of hp2 ?_
      refine bind_of hR ?_
      refine bind_of hR2 ?_
      refine bind_of hS ?_
      rw [if_pos rfl]
      refine bind_of (a := Utf8.encode a1) rfl ?_
      refine bind_of (a := Utf8.encode a1) rfl ?_
      rw [if_pos rfl]
      refine bind_of e1 ?_
      refine bind_of e2 ?_
      rw [if_pos (by simp)]
      refine bind_of e3 ?_
      refine bind_of e4 ?_
      rw [if_pos (by simp)]
      refine bind_of e5 ?_
      refine bind_of e6 ?_
      rw [if_pos (by simp), if_pos rfl, if_pos (by simp)]
      refine bind_of e7 ?_
      refine bind_of e8 ?_
      rw [if_pos (by simp)]
      refine bind_of hL ?_
      refine bind_of hL2 ?_
      rw [if_pos rfl]
      exact bind_of hA rfl
  unfold fleuronlaw1_PointsRead.f
  by_cases h1 : (l0.length : Int) > 3000
  · rw [if_pos h1]; exact hj true (Or.inl rfl)
  · rw [if_neg h1]
    by_cases h2 : (a2.size : Int) > 1000
    · rw [decide_eq_true h2]; exact hj true (Or.inl rfl)
    · rw [decide_eq_false h2]; exact hj false (Or.inr ⟨by omega, by omega⟩)

end Go.Proofs.Ytohnoohnppeooaa.Pure
