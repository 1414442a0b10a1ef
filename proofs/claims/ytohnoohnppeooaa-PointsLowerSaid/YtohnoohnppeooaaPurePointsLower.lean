/- The pure part of PointsLower. No condition. -/
import Derived.Test.YtohnoohnppeooaaPrint13
namespace Go.Proofs.Ytohnoohnppeooaa.Pure
open Go.RowKit Go.Proofs.Ytohnoohnppeooaa.Print Go.Proofs.YtohnoohnppeooaaW.PrintWords Go.Proofs.YtohnoohnppeooaaW.PrintLast

theorem bind_of {α β : Type} {x : Option α} {a : α} {f : α → Option β} {r : Option β} (h : x = some a) (h2 : f a = r) : x.bind f = r := by rw [h]; exact h2
theorem awake1 : fleuronlaw1_awake.f 20 = some true := by decide +kernel
theorem awakeK {k : Nat} (h : 20 ≤ k) : fleuronlaw1_awake.f k = some true := at_rounds (fun k => fleuronlaw1_awake.mono k) h awake1
theorem same_l0 (l : List Int) (hl : l.length ≤ 1000000000) : ∀ (m i : Nat), i ≤ l.length → l.length - i < m → fleuronlaw1_same.l0 m l l (i : Int) = some true
  | 0, _, _, h => absurd h (Nat.not_lt_zero _)
  | m + 1, i, hi, h => by
    simp only [fleuronlaw1_same.l0]
    by_cases hlt : i < l.length
    · rw [if_pos (by omega), if_pos (by omega), if_pos (by omega), if_pos trivial, show wrap64 ((i : Int) + 1) = ((i + 1 : Nat) : Int) by unfold wrap64; omega]
      exact same_l0 l hl m (i + 1) (by omega) (by omega)
    · rw [if_neg (by omega)]
theorem same_self (l : List Int) (hl : l.length ≤ 1000000000) {k : Nat} (hk : l.length < k) : fleuronlaw1_same.f k l l = some true := by
  unfold fleuronlaw1_same.f
  rw [if_pos rfl]
  exact same_l0 l hl k 0 (by omega) (by omega)
theorem runesFrom_length (s : ByteArray) : ∀ (f p : Nat), (runesFrom s f p).length ≤ f
  | 0, _ => Nat.le_refl _
  | f + 1, p => by
    simp only [runesFrom]
    split
    · have := runesFrom_length s f (p + (Utf8.decode s p).2)
      simp; omega
    · simp
theorem fold_length (l : List (Nat × Int)) : ∀ (c : Bool) (o : List Int), ((l.foldl readStep (c, o)).2).length ≤ o.length + l.length := by
  induction l with
  | nil => intro c o; simp
  | cons x l ih =>
    intro c o
    rw [List.foldl_cons]
    have h2 : (readStep (c, o) x).2.length ≤ o.length + 1 := by simp only [readStep]; split <;> simp
    generalize readStep (c, o) x = st at h2 ⊢
    obtain ⟨c', o'⟩ := st
    have h := ih c' o'
    replace h2 : o'.length ≤ o.length + 1 := h2
    simp only [List.length_cons]
    omega
theorem readOf_length (s : ByteArray) : (readOf s).length ≤ s.size := by
  have h1 := fold_length (runes s) false []
  have h2 := runesFrom_length s s.size 0
  unfold readOf
  simp only [List.length_nil] at h1
  unfold runes at h1 ⊢
  omega
theorem lt_of_not_gt3 {n m : Int} (h : ¬ n > m) : n ≤ m := by omega
theorem lowStr_size (s : ByteArray) : (lowStr s).size = s.size := by
  show (s.data.toList.map lowByte).toArray.size = s.data.size
  simp
theorem lowByte_idem (b : UInt8) : lowByte (lowByte b) = lowByte b := by
  unfold lowByte
  by_cases h : 65 ≤ b.toNat ∧ b.toNat ≤ 90
  · rw [if_pos h]
    have e : (b + 32).toNat = b.toNat + 32 := by
      rw [UInt8.toNat_add]
      show (b.toNat + 32) % 256 = _
      omega
    rw [if_neg (by rw [e]; omega)]
  · rw [if_neg h, if_neg h]
theorem lowStr_idem (s : ByteArray) : lowStr (lowStr s) = lowStr s := by
  simp only [lowStr, List.toList_toArray, List.map_map]
  congr 2
  apply List.map_congr_left
  intro b _
  exact lowByte_idem b
theorem bt_low (s : ByteArray) (i : Nat) (h : i < s.size) : bt (lowStr s) (i : Int) = (if 65 ≤ bt s (i : Int) ∧ bt s (i : Int) ≤ 90 then bt s (i : Int) + 32 else bt s (i : Int)) := by
  have hb : bt s (i : Int) = ((s.data[i]'h).toNat : Int) := by
    unfold bt
    rw [dif_pos (show (i : Int).toNat < s.size by omega)]
    rfl
  have h' : i < (lowStr s).size := by rw [lowStr_size]; exact h
  have hl : bt (lowStr s) (i : Int) = ((lowByte (s.data[i]'h)).toNat : Int) := by
    have : (lowStr s)[i]'h' = lowByte (s.data[i]'h) := by
      show (lowStr s).data[i]'h' = _
      simp [lowStr]
    unfold bt
    rw [dif_pos (show (i : Int).toNat < (lowStr s).size by omega)]
    exact congrArg (fun b : UInt8 => ((b.toNat : Nat) : Int)) this
  rw [hl, hb]
  generalize s.data[i]'h = b
  have hlt := b.toNat_lt
  unfold lowByte
  by_cases hc : 65 ≤ b.toNat ∧ b.toNat ≤ 90
  · rw [if_pos hc, if_pos (by omega), UInt8.toNat_add]
    show (((b.toNat + 32) % 256 : Nat) : Int) = _
    omega
  · rw [if_neg hc, if_neg (by omega)]
theorem lower_l0 (s : ByteArray) (hs : s.size ≤ 1000) : ∀ (m i k : Nat), i ≤ s.size → s.size - i ≤ m → 2 * m + 22 ≤ k → fleuronlaw1_PointsLower.l0 k s (lowStr s) (i : Int) = some true
  | m, i, k, hi, hm, hk => by
    obtain ⟨k, rfl⟩ : ∃ q, k = q + 2 := ⟨k - 2, by omega⟩
    simp only [fleuronlaw1_PointsLower.l0]
    by_cases hlt : i < s.size
    · rw [if_pos (show (i : Int) < (s.size : Int) by omega), if_pos (show 0 ≤ (i : Int) by omega)]
      have hL := bt_low s i hlt
      have hsz : (i : Int) < ((lowStr s).size : Int) := by rw [lowStr_size]; omega
      have hr := bt_range s (i : Int)
      have hnext : fleuronlaw1_PointsLower.l0 k s (lowStr s) (wrap64 ((i : Int) + 1)) = some true := by
        rw [show wrap64 ((i : Int) + 1) = ((i + 1 : Nat) : Int) by unfold wrap64; omega]
        exact lower_l0 s hs (m - 1) (i + 1) k (by omega) (by omega) (by omega)
      by_cases h65 : bt s (i : Int) ≥ 65
      · rw [if_pos h65]
        simp only [fleuronlaw1_PointsLower.j2]
        by_cases h90 : bt s (i : Int) ≤ 90
        · rw [if_pos (decide_eq_true h90), if_pos (show 0 ≤ (i : Int) by omega), if_pos hsz, if_pos (by rw [hL, if_pos ⟨h65, h90⟩]; omega)]
          exact hnext
        · rw [if_neg (by simpa using h90), if_pos (show 0 ≤ (i : Int) by omega), if_pos hsz, if_pos (by rw [hL, if_neg (fun q => h90 q.2)])]
          exact hnext
      · rw [if_neg h65]
        simp only [fleuronlaw1_PointsLower.j2]
        rw [if_neg (by simp), if_pos (show 0 ≤ (i : Int) by omega), if_pos hsz, if_pos (by rw [hL, if_neg (fun q => h65 q.1)])]
        exact hnext
    · rw [if_neg (show ¬ (i : Int) < (s.size : Int) by omega)]
      exact bind_of (awakeK (by omega)) rfl
termination_by m => m
decreasing_by omega

/-- Small letters stay, great ones become small, all other bytes are as they are. -/
theorem PointsLower : fleuronlaw1_PointsLower.Pure := by
  intro a0 h0
  refine ⟨2 * a0.size + 30, ?_⟩
  unfold fleuronlaw1_PointsLower.f
  by_cases h1 : (a0.size : Int) > 1000
  · rw [if_pos h1]
    exact bind_of (awakeK (by omega)) rfl
  · rw [if_neg h1]
    have hL : points_Lower.f a0 = some (lowStr a0) := if_pos (by omega)
    have hL2 : points_Lower.f (lowStr a0) = some (lowStr a0) := by
      unfold points_Lower.f
      rw [if_pos (by rw [lowStr_size]; omega), lowStr_idem]
    refine bind_of hL ?_
    rw [if_pos (by rw [lowStr_size])]
    refine bind_of hL2 ?_
    rw [show 2 * a0.size + 30 = (2 * a0.size + 29) + 1 by omega]
    simp only [fleuronlaw1_PointsLower.j0]
    rw [if_neg (by simp)]
    exact lower_l0 a0 (by omega) a0.size 0 _ (by omega) (by omega) (by omega)

end Go.Proofs.Ytohnoohnppeooaa.Pure
