/- The pure part of PointsBack. No condition. -/
import Derived.Test.YtohnoohnppeooaaPrint15
import Derived.Lib.MapLaws
namespace Go.Proofs.Ytohnoohnppeooaa.Pure
open Go.RowKit Go.Proofs.Ytohnoohnppeooaa.Print Go.Proofs.YtohnoohnppeooaaW.PrintWords Go.Proofs.YtohnoohnppeooaaW.PrintLast

theorem bind_of {α β : Type} {x : Option α} {a : α} {f : α → Option β} {r : Option β} (h : x = some a) (h2 : f a = r) : x.bind f = r := by rw [h]; exact h2
theorem awake1 : fleuronlaw1_awake.f 20 = some true := by decide +kernel
theorem awakeK {k : Nat} (h : 20 ≤ k) : fleuronlaw1_awake.f k = some true := at_rounds (fun k => fleuronlaw1_awake.mono k) h awake1
theorem same_l0 (l : List Int) (hl : l.length ≤ 1000000000) : ∀ (m i : Nat), i ≤ l.length → l.length - i < m → fleuronlaw1_same.l0 m l l (i : Int) = some true
  | 0, _, _, h => absurd h (Nat.not_lt_zero _)
  | m + 1, i, hi, h => by
    simp only [fleuronlaw1_same.l0]
    by_cases hlt : i < l.length
    · rw [if_pos (by omega), if_pos (by omega), if_pos (by omega), if_pos trivial, show wrap64 ((i : Int) + 1) = ((i + 1 : Nat) : Int) by unfold wrap64; omega]
      exact same_l0 l hl m (i + 1) (by omega) (by omega)
    · rw [if_neg (by omega)]
theorem same_self (l : List Int) (hl : l.length ≤ 1000000000) {k : Nat} (hk : l.length < k) : fleuronlaw1_same.f k l l = some true := by
  unfold fleuronlaw1_same.f
  rw [if_pos rfl]
  exact same_l0 l hl k 0 (by omega) (by omega)
theorem runesFrom_length (s : ByteArray) : ∀ (f p : Nat), (runesFrom s f p).length ≤ f
  | 0, _ => Nat.le_refl _
  | f + 1, p => by
    simp only [runesFrom]
    split
    · have := runesFrom_length s f (p + (Utf8.decode s p).2)
      simp; omega
    · simp
theorem fold_length (l : List (Nat × Int)) : ∀ (c : Bool) (o : List Int), ((l.foldl readStep (c, o)).2).length ≤ o.length + l.length := by
  induction l with
  | nil => intro c o; simp
  | cons x l ih =>
    intro c o
    rw [List.foldl_cons]
    have h2 : (readStep (c, o) x).2.length ≤ o.length + 1 := by simp only [readStep]; split <;> simp
    generalize readStep (c, o) x = st at h2 ⊢
    obtain ⟨c', o'⟩ := st
    have h := ih c' o'
    replace h2 : o'.length ≤ o.length + 1 := h2
    simp only [List.length_cons]
    omega
theorem readOf_length (s : ByteArray) : (readOf s).length ≤ s.size := by
  have h1 := fold_length (runes s) false []
  have h2 := runesFrom_length s s.size 0
  unfold readOf
  simp only [List.length_nil] at h1
  unfold runes at h1 ⊢
  omega
theorem lt_of_not_gt3 {n m : Int} (h : ¬ n > m) : n ≤ m := by omega
/-- A sign that is read stays: a valid one, no CR, no FF, no NUL. -/
def okRune (x : Int) : Prop := Utf8.valid x = true ∧ x ≠ 13 ∧ x ≠ 12 ∧ x ≠ 0
def encB (x : Int) : List UInt8 := (Utf8.encode x).data.toList
theorem valid_iff (x : Int) : Utf8.valid x = true ↔ (0 ≤ x ∧ x < 55296) ∨ (57344 ≤ x ∧ x ≤ 1114111) := by
  simp [Utf8.valid]
theorem decode_enc (x : Int) (hv : Utf8.valid x = true) (rest : List UInt8) : Lib.decodeL (encB x ++ rest) = (x.toNat, (encB x).length) ∧ 1 ≤ (encB x).length := by
  have hr := (valid_iff x).1 hv
  rw [Lib.decodeL_N]
  unfold encB Utf8.encode
  simp only [hv, if_true]
  obtain ⟨c, hc⟩ : ∃ c, c = x.toNat := ⟨_, rfl⟩
  rw [← hc]
  have hc2 : (c < 55296) ∨ (57344 ≤ c ∧ c ≤ 1114111) := by omega
  repeat' split
  all_goals
    refine ⟨?_, by simp⟩
    simp only [List.cons_append, List.nil_append, List.length_cons, List.length_nil, List.getD_cons_zero, List.getD_cons_succ, UInt8.toNat_ofNat']
    unfold Lib.decodeN
    repeat' split
    all_goals first
      | (exfalso; omega)
      | (exact Prod.ext (by simp only []; omega) rfl)
theorem decode_valid (s : ByteArray) (p : Nat) : Utf8.valid ((Utf8.decode s p).1 : Int) = true := by
  rw [Lib.decode_N, valid_iff]
  rcases Lib.decodeN_shape (s.data.toList.length - p) (s.data.toList.getD p 0).toNat (s.data.toList.getD (p + 1) 0).toNat (s.data.toList.getD (p + 2) 0).toNat (s.data.toList.getD (p + 3) 0).toNat with h | h | h | h | h
  · rw [h.2]; simp only []; omega
  · rw [h.2.2.2.2]; simp only []; omega
  · rw [h.2.2.2.2.2.2]; simp only []; omega
  · rw [h.2.2.2.2.2.2.2]; simp only []; omega
  · rw [h]; simp only []; omega
theorem runesFrom_valid (s : ByteArray) : ∀ (f p : Nat), ∀ x ∈ runesFrom s f p, Utf8.valid x.2 = true
  | 0, _ => fun x hx => by simp [runesFrom] at hx
  | f + 1, p => fun x hx => by
    simp only [runesFrom] at hx
    split at hx
    · rcases List.mem_cons.1 hx with rfl | hx
      · exact decode_valid s p
      · exact runesFrom_valid s f _ x hx
    · simp at hx
theorem fold_ok (l : List (Nat × Int)) : ∀ (c : Bool) (o : List Int), (∀ x ∈ l, Utf8.valid x.2 = true) → (∀ y ∈ o, okRune y) → ∀ y ∈ (l.foldl readStep (c, o)).2, okRune y := by
  induction l with
  | nil => intro c o _ h; exact h
  | cons x l ih =>
    intro c o hl ho
    rw [List.foldl_cons]
    have h2 : ∀ y ∈ (readStep (c, o) x).2, okRune y := by
      simp only [readStep]
      split
      · exact ho
      · intro y hy
        rcases List.mem_append.1 hy with hy | hy
        · exact ho y hy
        · rw [List.mem_singleton] at hy
          subst hy
          split
          · exact ⟨by decide, by decide, by decide, by decide⟩
          · rename_i h13
            split
            · exact ⟨by decide, by decide, by decide, by decide⟩
            · rename_i h0
              exact ⟨hl x (by simp), fun e => h13 (Or.inl e), fun e => h13 (Or.inr e), h0⟩
    generalize readStep (c, o) x = st at h2 ⊢
    obtain ⟨c', o'⟩ := st
    exact ih c' o' (fun z hz => hl z (by simp [hz])) h2
theorem readOf_ok (s : ByteArray) : ∀ y ∈ readOf s, okRune y :=
  fold_ok _ false [] (runesFrom_valid s _ _) (fun y hy => by simp at hy)
theorem runesFrom_pos (s : ByteArray) : ∀ (f p : Nat), 0 < p → ∀ x ∈ runesFrom s f p, x.1 ≠ 0
  | 0, _, _ => fun x hx => by simp [runesFrom] at hx
  | f + 1, p, hp => fun x hx => by
    simp only [runesFrom] at hx
    split at hx
    · rcases List.mem_cons.1 hx with rfl | hx
      · exact Nat.ne_of_gt hp
      · exact runesFrom_pos s f _ (by omega) x hx
    · simp at hx
theorem runes_enc (s : ByteArray) : ∀ (l : List Int) (f p : Nat), (∀ x ∈ l, okRune x) → s.data.toList.drop p = l.flatMap encB → s.size - p ≤ f → (runesFrom s f p).map Prod.snd = l
  | [], f, p, _, hd, _ => by
    have hp : s.size ≤ p := by
      have := congrArg List.length hd
      simp at this
      omega
    cases f with
    | zero => rfl
    | succ f => simp only [runesFrom]; rw [if_neg (by omega)]; rfl
  | x :: l, f, p, hl, hd, hf => by
    have hx := hl x (by simp)
    obtain ⟨h1, h2⟩ := decode_enc x hx.1 (l.flatMap encB)
    rw [List.flatMap_cons] at hd
    have hp : p < s.size := by
      have h3 := congrArg List.length hd
      simp only [List.length_drop, List.length_append] at h3
      have h4 : s.data.toList.length = s.size := by simp
      omega
    obtain ⟨f, rfl⟩ : ∃ m, f = m + 1 := ⟨f - 1, by omega⟩
    have hdec : Utf8.decode s p = (x.toNat, (encB x).length) := by rw [← Lib.decodeL_drop, hd]; exact h1
    simp only [runesFrom]
    rw [if_pos hp, hdec, List.map_cons]
    have h0 : ((x.toNat : Nat) : Int) = x := by have := (valid_iff x).1 hx.1; omega
    simp only [h0]
    rw [runes_enc s l f (p + (encB x).length) (fun y hy => hl y (by simp [hy])) (by rw [← List.drop_drop, hd, List.drop_left]) (by omega)]
theorem fold_plain (R : List (Nat × Int)) : ∀ (o : List Int), (∀ x ∈ R, x.1 ≠ 0 ∧ okRune x.2) → R.foldl readStep (false, o) = (false, o ++ R.map Prod.snd) := by
  induction R with
  | nil => intro o _; simp
  | cons x R ih =>
    intro o h
    obtain ⟨hx, _, h13, h12, h0⟩ := h x (by simp)
    have e : readStep (false, o) x = (false, o ++ [x.2]) := by
      simp only [readStep]
      simp [hx, h13, h12, h0]
    rw [List.foldl_cons, e, ih _ (fun y hy => h y (by simp [hy]))]
    simp
/-- What was put is read as it was, but for a mark at the front. -/
theorem read_enc (s : ByteArray) (l : List Int) (hl : ∀ x ∈ l, okRune x) (hs : s.data.toList = l.flatMap encB) : readOf s = if l.head? = some 65279 then l.drop 1 else l := by
  have hm := runes_enc s l s.size 0 hl (by rw [List.drop_zero]; exact hs) (by omega)
  unfold readOf runes
  cases hz : s.size with
  | zero =>
    rw [hz] at hm
    have : l = [] := by rw [← hm]; rfl
    subst this; rfl
  | succ f =>
    rw [hz] at hm
    simp only [runesFrom] at hm ⊢
    rw [if_pos (by omega)] at hm ⊢
    have hw := decode_width s 0 (by omega)
    have hpos := runesFrom_pos s f (0 + (Utf8.decode s 0).2) (by omega)
    generalize runesFrom s f (0 + (Utf8.decode s 0).2) = R at hm hpos ⊢
    generalize ((Utf8.decode s 0).1 : Int) = x at hm ⊢
    subst hm
    rw [List.map_cons] at hl
    have hR : ∀ y ∈ R, y.1 ≠ 0 ∧ okRune y.2 := fun y hy => ⟨hpos y hy, hl y.2 (List.mem_cons_of_mem _ (List.mem_map.2 ⟨y, hy, rfl⟩))⟩
    obtain ⟨_, h13, h12, h0⟩ := hl x (by simp)
    rw [List.foldl_cons, List.map_cons]
    by_cases hx : x = 65279
    · have e : readStep (false, []) (0, x) = (false, []) := by simp [readStep, hx]
      rw [e, fold_plain R _ hR]
      simp [hx]
    · have e : readStep (false, []) (0, x) = (false, [x]) := by simp [readStep, hx, h13, h12, h0]
      rw [e, fold_plain R _ hR]
      simp [hx]
theorem bytes_back (s : ByteArray) : strOfNums (bytesOf s) = s := by
  have : strOfNums (bytesOf s) = ⟨s.data.toList.toArray⟩ := by
    have e : ((fun n : Int => UInt8.ofNat n.toNat) ∘ fun b : UInt8 => (b.toNat : Int)) = id := by funext b; simp
    unfold bytesOf
    simp [strOfNums, e]
  rw [this]
theorem back_l0 (x0 : List Int) (l : List Int) (hl : ∀ x ∈ l, okRune x) (hlen : l.length ≤ 2000) (hx0 : l.length ≤ x0.length) : ∀ (m i k : Nat) (s : ByteArray), i ≤ l.length → l.length - i ≤ m → m + 2100 ≤ k → s.size ≤ 4 * i → s.data.toList = (l.take i).flatMap encB →
    fleuronlaw1_PointsBack.l0 k x0 l s (i : Int) = some true
  | m, i, k, s, hi, hm, hk, hss, hs => by
    obtain ⟨k, rfl⟩ : ∃ q, k = q + 2 := ⟨k - 2, by omega⟩
    simp only [fleuronlaw1_PointsBack.l0]
    by_cases hlt : i < l.length
    · have hrd : rd l (i : Int) = l[i] := by simp [rd, hlt]
      obtain ⟨hv, h13, h12, h0⟩ := hl l[i] (List.getElem_mem hlt)
      have hsz := encode_size_le l[i]
      rw [if_pos (show (i : Int) < (l.length : Int) by omega), if_pos (show 0 ≤ (i : Int) by omega), hrd, if_neg h13, if_neg h12, if_neg h0]
      refine bind_of (a := Utf8.encode l[i]) rfl ?_
      rw [if_pos (by omega), show wrap64 ((i : Int) + 1) = ((i + 1 : Nat) : Int) by unfold wrap64; omega]
      refine back_l0 x0 l hl hlen hx0 (m - 1) (i + 1) (k + 1) _ (by omega) (by omega) (by omega) ?_ ?_
      · rw [ByteArray.size_append]; omega
      · rw [ByteArray.data_append, Array.toList_append, hs, List.take_succ_eq_append_getElem hlt, List.flatMap_append]
        simp [encB]
    · have hil : i = l.length := by omega
      rw [if_neg (show ¬ (i : Int) < (l.length : Int) by omega)]
      rw [hil, List.take_length] at hs
      have hR := read_enc s l hl hs
      refine bind_of (a := bytesOf s) ?_ ?_
      · unfold abi_NoEscape.f
        rw [if_pos (by omega)]
      · refine bind_of (a := if l.head? = some 65279 then l.drop 1 else l) ?_ ?_
        · unfold points_Read.f
          rw [if_pos (by rw [bytesOf_length]; omega), bytes_back, hR]
        · cases l with
          | nil =>
            rw [if_neg (by simp)]
            simp only [fleuronlaw1_PointsBack.j1]
            rw [if_neg (by simp)]
            refine bind_of (same_self [] (by simp) (by simp; omega)) ?_
            rw [if_pos rfl, if_pos (by simp)]
            exact bind_of (awakeK (by omega)) rfl
          | cons x l =>
            have e0 : rd (x :: l) 0 = x := by simp [rd]
            simp only [List.length_cons] at hlen hx0
            rw [if_pos (by simp only [List.length_cons]; omega), if_pos (by simp only [List.length_cons]; omega), e0]
            simp only [fleuronlaw1_PointsBack.j1]
            by_cases hx : x = 65279
            · rw [if_pos (by simp [hx]), if_pos (by simp only [List.length_cons]; omega)]
              refine bind_of (a := l) rfl ?_
              rw [if_pos (by simp [hx])]
              refine bind_of (same_self l (by omega) (by omega)) ?_
              rw [if_pos rfl, if_pos (by omega)]
              exact bind_of (awakeK (by omega)) rfl
            · rw [if_neg (by simp [hx]), if_neg (by simp [hx])]
              refine bind_of (same_self (x :: l) (by simp only [List.length_cons]; omega) (by simp only [List.length_cons]; omega)) ?_
              rw [if_pos rfl, if_pos (by simp only [List.length_cons]; omega)]
              exact bind_of (awakeK (by omega)) rfl
termination_by m => m
decreasing_by omega

/-- What was read and put again is read as it was. -/
theorem PointsBack : fleuronlaw1_PointsBack.Pure := by
  intro l0 hl1 hl2 hw
  refine ⟨4200, ?_⟩
  unfold fleuronlaw1_PointsBack.f
  by_cases h1 : (l0.length : Int) > 2000
  · rw [if_pos h1]
    exact bind_of (awakeK (by omega)) rfl
  · rw [if_neg h1]
    have hlen := readOf_length (strOfNums l0)
    rw [size_strOfNums] at hlen
    refine bind_of (a := readOf (strOfNums l0)) ?_ ?_
    · unfold points_Read.f
      rw [if_pos (by omega)]
    · exact back_l0 l0 _ (readOf_ok _) (by omega) hlen (readOf (strOfNums l0)).length 0 4200 ⟨#[]⟩ (by omega) (by omega) (by omega) (by simp [ByteArray.size]) (by simp)

end Go.Proofs.Ytohnoohnppeooaa.Pure
