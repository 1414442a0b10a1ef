/- The pure part of PointsLines. No condition. -/
import Derived.Test.YtohnoohnppeooaaPrint11
namespace Go.Proofs.Ytohnoohnppeooaa.Pure
open Go.RowKit Go.Proofs.Ytohnoohnppeooaa.Print Go.Proofs.YtohnoohnppeooaaW.PrintWords Go.Proofs.YtohnoohnppeooaaW.PrintLast

theorem bind_of {α β : Type} {x : Option α} {a : α} {f : α → Option β} {r : Option β} (h : x = some a) (h2 : f a = r) : x.bind f = r := by rw [h]; exact h2
theorem awake1 : fleuronlaw1_awake.f 20 = some true := by decide +kernel
theorem awakeK {k : Nat} (h : 20 ≤ k) : fleuronlaw1_awake.f k = some true := at_rounds (fun k => fleuronlaw1_awake.mono k) h awake1
theorem same_l0 (l : List Int) (hl : l.length ≤ 1000000000) : ∀ (m i : Nat), i ≤ l.length → l.length - i < m → fleuronlaw1_same.l0 m l l (i : Int) = some true
  | 0, _, _, h => absurd h (Nat.not_lt_zero _)
  | m + 1, i, hi, h => by
    simp only [fleuronlaw1_same.l0]
    by_cases hlt : i < l.length
    · rw [if_pos (by omega), if_pos (by omega), if_pos (by omega), if_pos trivial, show wrap64 ((i : Int) + 1) = ((i + 1 : Nat) : Int) by unfold wrap64; omega]
      exact same_l0 l hl m (i + 1) (by omega) (by omega)
    · rw [if_neg (by omega)]
theorem same_self (l : List Int) (hl : l.length ≤ 1000000000) {k : Nat} (hk : l.length < k) : fleuronlaw1_same.f k l l = some true := by
  unfold fleuronlaw1_same.f
  rw [if_pos rfl]
  exact same_l0 l hl k 0 (by omega) (by omega)
theorem runesFrom_length (s : ByteArray) : ∀ (f p : Nat), (runesFrom s f p).length ≤ f
  | 0, _ => Nat.le_refl _
  | f + 1, p => by
    simp only [runesFrom]
    split
    · have := runesFrom_length s f (p + (Utf8.decode s p).2)
      simp; omega
    · simp
theorem fold_length (l : List (Nat × Int)) : ∀ (c : Bool) (o : List Int), ((l.foldl readStep (c, o)).2).length ≤ o.length + l.length := by
  induction l with
  | nil => intro c o; simp
  | cons x l ih =>
    intro c o
    rw [List.foldl_cons]
    have h2 : (readStep (c, o) x).2.length ≤ o.length + 1 := by simp only [readStep]; split <;> simp
    generalize readStep (c, o) x = st at h2 ⊢
    obtain ⟨c', o'⟩ := st
    have h := ih c' o'
    replace h2 : o'.length ≤ o.length + 1 := h2
    simp only [List.length_cons]
    omega
theorem readOf_length (s : ByteArray) : (readOf s).length ≤ s.size := by
  have h1 := fold_length (runes s) false []
  have h2 := runesFrom_length s s.size 0
  unfold readOf
  simp only [List.length_nil] at h1
  unfold runes at h1 ⊢
  omega
theorem lt_of_not_gt3 {n m : Int} (h : ¬ n > m) : n ≤ m := by omega
/-- Read's step behind the first sign. -/
def step2 (st : Bool × List Int) (x : Int) : Bool × List Int := readStep st (1, x)
theorem step2_eq (st : Bool × List Int) (p : Nat) (x : Int) (h : x < 128) : readStep st (p, x) = step2 st x := by
  simp only [step2, readStep]
  have h1 : ¬ x = 65279 := by omega
  simp [h1]
theorem ascii_fold (l : List Int) (hl : ∀ x ∈ l, 0 ≤ x ∧ x < 128) : ∀ (f p : Nat) (st : Bool × List Int), l.length - p ≤ f → (runesFrom (strOfNums l) f p).foldl readStep st = (l.drop p).foldl step2 st
  | 0, p, st, h => by
    rw [List.drop_eq_nil_of_le (by omega)]; rfl
  | f + 1, p, st, h => by
    simp only [runesFrom]
    by_cases hp : p < l.length
    · have hps : p < (strOfNums l).size := by rw [size_strOfNums]; exact hp
      have hx := hl l[p] (List.getElem_mem hp)
      have hb : (((strOfNums l)[p]'hps).toNat) = (l[p]).toNat := by
        have : (strOfNums l)[p]'hps = UInt8.ofNat (l[p]).toNat := by
          show (strOfNums l).data[p]'hps = _
          simp [strOfNums]
        rw [this, UInt8.toNat_ofNat']
        omega
      have hd : Utf8.decode (strOfNums l) p = ((l[p]).toNat, 1) := by rw [decode_ascii _ p hps (by rw [hb]; omega), hb]
      rw [if_pos hps, hd, List.foldl_cons, List.drop_eq_getElem_cons hp, List.foldl_cons, show (((l[p]).toNat : Nat) : Int) = l[p] by omega, step2_eq st p _ hx.2]
      exact ascii_fold l hl f (p + 1) _ (by omega)
    · rw [if_neg (by rw [size_strOfNums]; exact hp), List.drop_eq_nil_of_le (by omega)]; rfl
theorem read_ascii (l : List Int) (hl : ∀ x ∈ l, 0 ≤ x ∧ x < 128) : readOf (strOfNums l) = (l.foldl step2 (false, [])).2 := by
  unfold readOf runes
  rw [ascii_fold l hl _ 0 _ (by rw [size_strOfNums]; omega)]; rfl
def seps : List ByteArray := [(⟨#[13, 10]⟩ : ByteArray), (⟨#[10]⟩ : ByteArray), (⟨#[12]⟩ : ByteArray), (⟨#[13]⟩ : ByteArray)]
theorem sep_facts (n : Nat) (hn : n < 4) (out : List Int) : (rdOf ByteArray.empty seps (n : Int)).size ≤ 2 ∧ (bytesOf (rdOf ByteArray.empty seps (n : Int))).length ≤ 2 ∧ (∀ x ∈ bytesOf (rdOf ByteArray.empty seps (n : Int)), 0 ≤ x ∧ x < 128) ∧ ((bytesOf (rdOf ByteArray.empty seps (n : Int)) ++ [120]).foldl step2 (false, out)) = (false, out ++ [10, 120]) := by
  have h4 : n = 0 ∨ n = 1 ∨ n = 2 ∨ n = 3 := by omega
  rcases h4 with rfl | rfl | rfl | rfl
  · refine ⟨by decide, by decide, by decide, ?_⟩
    show ([13, 10, 120] : List Int).foldl step2 (false, out) = _
    simp [step2, readStep]
  · refine ⟨by decide, by decide, by decide, ?_⟩
    show ([10, 120] : List Int).foldl step2 (false, out) = _
    simp [step2, readStep]
  · refine ⟨by decide, by decide, by decide, ?_⟩
    show ([12, 120] : List Int).foldl step2 (false, out) = _
    simp [step2, readStep]
  · refine ⟨by decide, by decide, by decide, ?_⟩
    show ([13, 120] : List Int).foldl step2 (false, out) = _
    simp [step2, readStep]
theorem lines_l0 (l : List Int) (hl : l.length ≤ 60) : ∀ (m i k : Nat) (b want : List Int), i ≤ l.length → l.length - i ≤ m → m + 400 ≤ k → b.length ≤ 3 * i → want.length = 2 * i → (∀ x ∈ b, 0 ≤ x ∧ x < 128) → b.foldl step2 (false, []) = (false, want) →
    fleuronlaw1_PointsLines.l0 k l b want (i : Int) = some true
  | m, i, k, b, want, hi, hm, hk, hbl, hwl, hba, hst => by
    obtain ⟨k, rfl⟩ : ∃ q, k = q + 1 := ⟨k - 1, by omega⟩
    simp only [fleuronlaw1_PointsLines.l0]
    by_cases hlt : i < l.length
    · rw [if_pos (show (i : Int) < (l.length : Int) by omega), if_pos (show 0 ≤ (i : Int) by omega)]
      have hr : -4 < Int.tmod (rd l (i : Int)) 4 ∧ Int.tmod (rd l (i : Int)) 4 < 4 := ⟨Int.lt_tmod_of_pos _ (by decide), Int.tmod_lt_of_pos _ (by decide)⟩
      generalize Int.tmod (rd l (i : Int)) 4 = t at hr
      have hw : wrap64 (t + 4) = t + 4 := by unfold wrap64; omega
      have hi0 : 0 ≤ Int.tmod (wrap64 (t + 4)) 4 := by rw [hw]; exact Int.tmod_nonneg 4 (by omega)
      have hi1 : Int.tmod (wrap64 (t + 4)) 4 < 4 := Int.tmod_lt_of_pos _ (by decide)
      generalize Int.tmod (wrap64 (t + 4)) 4 = j at hi0 hi1
      obtain ⟨n, rfl⟩ : ∃ n : Nat, j = (n : Int) := ⟨j.toNat, by omega⟩
      obtain ⟨f1, f2, f3, f4⟩ := sep_facts n (by omega) want
      refine bind_of (a := seps) rfl ?_
      rw [if_pos hi0, if_pos (show (n : Int) < (seps.length : Int) by show (n : Int) < 4; omega), if_pos (by omega)]
      refine bind_of (a := b ++ bytesOf (rdOf ByteArray.empty seps (n : Int))) rfl ?_
      rw [if_pos (by rw [List.length_append]; omega)]
      refine bind_of (a := ([10, 120] : List Int)) rfl ?_
      rw [if_pos (by show want.length + 2 < _; omega), show wrap64 ((i : Int) + 1) = ((i + 1 : Nat) : Int) by unfold wrap64; omega]
      refine lines_l0 l hl (m - 1) (i + 1) k _ _ (by omega) (by omega) (by omega) ?_ ?_ ?_ ?_
      · simp only [List.length_append, List.length_singleton]; omega
      · rw [List.length_append]; show want.length + 2 = _; omega
      · intro x hx
        rcases List.mem_append.1 hx with hx | hx
        · rcases List.mem_append.1 hx with hx | hx
          · exact hba x hx
          · exact f3 x hx
        · rw [List.mem_singleton] at hx; omega
      · rw [List.append_assoc, List.foldl_append, hst]; exact f4
    · rw [if_neg (show ¬ (i : Int) < (l.length : Int) by omega)]
      refine bind_of (a := want) ?_ ?_
      · unfold points_Read.f
        rw [if_pos (by omega), read_ascii b hba, hst]
      · refine bind_of (same_self want (by omega) (by omega)) ?_
        rw [if_pos rfl]
        exact bind_of (awakeK (by omega)) rfl
termination_by m => m
decreasing_by omega

/-- Each of the three line ends is one. -/
theorem PointsLines : fleuronlaw1_PointsLines.Pure := by
  intro l0 hl1 hl2 hw
  refine ⟨600, ?_⟩
  unfold fleuronlaw1_PointsLines.f
  by_cases h1 : (l0.length : Int) > 60
  · rw [if_pos h1]
    exact bind_of (awakeK (by omega)) rfl
  · rw [if_neg h1]
    exact lines_l0 l0 (by omega) l0.length 0 600 [] [] (by omega) (by omega) (by omega) (by simp) rfl (fun _ hx => by simp at hx) rfl

end Go.Proofs.Ytohnoohnppeooaa.Pure
