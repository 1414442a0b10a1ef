/- The pure part of SystemAdds: for every list of steps and every number the printed function of the law tells true with some number of rounds. No condition. -/
import Derived.Test.YtalegejfellbdaaPrint19
namespace Go.Proofs.Ytalegejfellbdaa.Pure
open Go.RowKit Go.Proofs.Ytalegejfellbdaa.Print Go.Proofs.YtalegejfellbdaaW.PrintWords Go.Proofs.YtalegejfellbdaaW.PrintLast
def sE : ByteArray := ⟨#[]⟩
/-- More rounds tell the same. -/
theorem may_more {k k' : Nat} (hk : k ≤ k') {a b : ByteArray} {c : Int} {l : List ByteArray} {ws : List Int} {e f g h : ByteArray} {au : Bool} {rs : List S41} {p : Int} {q r s : ByteArray} {t : Int} {x : Bool} (hm : system_May.f k a b c l ws e f g h au rs p q r s t = some x) : system_May.f k' a b c l ws e f g h au rs p q r s t = some x :=
  at_rounds (fun k => system_May.mono a b c l ws e f g h au rs p q r s t k) hk hm
theorem w64 {x : Nat} (h : x ≤ 9223372036854775807) : wrap64 (x : Int) = (x : Int) := by unfold wrap64; omega
theorem getD_set (l : List Int) (i : Nat) (v : Int) (q : Nat) : (l.set i v).getD q 0 = if q = i ∧ i < l.length then v else l.getD q 0 := by
  simp only [List.getD_eq_getElem?_getD, List.getElem?_set]
  by_cases h : i = q
  · subst h
    by_cases h2 : i < l.length
    · simp [h2]
    · simp [h2]
  · rw [if_neg h, if_neg (fun e => h e.1.symm)]
theorem rd_getD (l : List Int) (i : Nat) : rd l (i : Int) = l.getD i 0 := rfl
theorem rev_l0 (P : List Int) (hP : P.length ≤ 1000) : ∀ (d t k : Nat) (x : List Int), x.length = P.length → (∀ q, q < P.length → x.getD q 0 = if q < t ∨ P.length ≤ q + t then P.getD (P.length - 1 - q) 0 else P.getD q 0) → P.length ≤ d + 2 * t → 2 * t ≤ P.length + 1 → d < k →
    slices_Reverse_int_int.l0 k x (t : Int) ((P.length : Int) - 1 - (t : Int)) = some P.reverse
  | d, t, 0, x, _, _, _, _, hk => by omega
  | d, t, k + 1, x, hx, hq, hd, ht, hk => by
    rw [slices_Reverse_int_int.l0]
    by_cases hlt : (t : Int) < (P.length : Int) - 1 - (t : Int)
    · obtain ⟨u, hu⟩ : ∃ u : Nat, u = P.length - 1 - t := ⟨_, rfl⟩
      have eu : (P.length : Int) - 1 - (t : Int) = (u : Int) := by omega
      rw [if_pos hlt, eu, if_pos (by omega), if_pos (by omega), if_pos (by omega), if_pos (by omega)]
      have e1 : wrap64 ((t : Int) + 1) = ((t + 1 : Nat) : Int) := by unfold wrap64; omega
      have e2 : wrap64 ((u : Int) - 1) = (P.length : Int) - 1 - ((t + 1 : Nat) : Int) := by unfold wrap64; omega
      rw [e1, e2, Int.toNat_natCast, Int.toNat_natCast]
      obtain ⟨d, rfl⟩ : ∃ e, d = e + 1 := ⟨d - 1, by omega⟩
      refine rev_l0 P hP d (t + 1) k _ (by simp [hx]) ?_ (by omega) (by omega) (by omega)
      intro q hqP
      rw [getD_set, getD_set, rd_getD, rd_getD, List.length_set]
      have hqt := hq t (by omega)
      have hqu := hq u (by omega)
      have hqq := hq q hqP
      rw [if_neg (by omega)] at hqt
      rw [if_neg (by omega)] at hqu
      by_cases h1 : q = u
      · rw [if_pos ⟨h1, by omega⟩, if_pos (by omega), hqt]
        congr 1; omega
      · rw [if_neg (fun e => h1 e.1)]
        by_cases h2 : q = t
        · rw [if_pos ⟨h2, by omega⟩, if_pos (by omega), hqu]
          congr 1; omega
        · rw [if_neg (fun e => h2 e.1), hqq]
          by_cases h3 : q < t ∨ P.length ≤ q + t
          · rw [if_pos h3, if_pos (by omega)]
          · rw [if_neg h3, if_neg (by omega)]
    · rw [if_neg hlt]
      congr 1
      apply List.ext_getElem
      · simp [hx]
      · intro q h1 h2
        have h3 := hq q (by omega)
        have e1 : x.getD q 0 = x[q] := by simp [h1]
        rw [List.getElem_reverse, ← e1, h3]
        by_cases h4 : q < t ∨ P.length ≤ q + t
        · rw [if_pos h4]
          have : P.length - 1 - q < P.length := by omega
          simp [this]
        · rw [if_neg h4]
          have h5 : P.length - 1 - q = q := by omega
          have h6 : q < P.length := by omega
          simp [h5, h6]
theorem rev_is (P : List Int) (hP : P.length ≤ 1000) (k : Nat) (hk : P.length < k) : slices_Reverse_int_int.f k P = some P.reverse := by
  unfold slices_Reverse_int_int.f
  have e : wrap64 ((P.length : Int) - 1) = (P.length : Int) - 1 - ((0 : Nat) : Int) := by unfold wrap64; omega
  rw [e]
  exact rev_l0 P hP P.length 0 k P rfl (by intro q hq; rw [if_neg (by omega)]) (by omega) (by omega) hk
/-- Weights that fall. -/
def adFalls (ws : List Int) : Prop := (∀ j, j < ws.length → 0 < rd ws (j : Int)) ∧ ∀ j, j + 1 < ws.length → rd ws ((j + 1 : Nat) : Int) < rd ws (j : Int)
theorem ad_falling (ws : List Int) (hw : ws.length ≤ 100) (h : adFalls ws) : ∀ (d i k : Nat), i + d = ws.length → d < k → system_falling.l0 k ws ws (ws.length : Int) (i : Int) = some true
  | d, i, 0, _, hk => by omega
  | 0, i, k + 1, hi, hk => by rw [system_falling.l0, if_neg (by omega)]
  | d + 1, i, k + 1, hi, hk => by
    have h0 := h.1 i (by omega)
    have e1 : wrap64 ((i : Int) + 1) = ((i + 1 : Nat) : Int) := by unfold wrap64; omega
    have ih := ad_falling ws hw h d (i + 1) k (by omega) (by omega)
    rw [system_falling.l0, if_pos (by omega), if_pos (by omega), if_pos (by omega), if_neg (by omega), e1]
    by_cases hi0 : (i : Int) > 0
    · obtain ⟨j, rfl⟩ : ∃ j, i = j + 1 := ⟨i - 1, by omega⟩
      have e2 : wrap64 (((j + 1 : Nat) : Int) - 1) = (j : Int) := by unfold wrap64; omega
      have h2 := h.2 j (by omega)
      rw [if_pos hi0, e2, if_pos (by omega), if_pos (by omega), if_neg (by omega)]
      exact ih
    · rw [if_neg hi0]; exact ih
def adName : ByteArray := ⟨#[97, 100, 100, 105, 116, 105, 118, 101]⟩
theorem ad_kind (Y : List ByteArray) (ws : List Int) (hY : Y.length = ws.length) (h0 : 0 < ws.length) (hw : ws.length ≤ 100) (h : adFalls ws) (k : Nat) (hk : 200 ≤ k) :
    system_kind.f k sE adName 1 Y ws sE sE sE sE true [] 0 sE sE sE 0 = some true := by
  obtain ⟨k, rfl⟩ : ∃ m, k = m + 2 := ⟨k - 2, by omega⟩
  have e1 : (adName.toList == ([102, 105, 120, 101, 100] : List UInt8)) = false := by decide +kernel
  have e2 : (adName.toList == ([110, 117, 109, 101, 114, 105, 99] : List UInt8)) = false := by decide +kernel
  have e3 : system_falling.f k ws = some true := by unfold system_falling.f; exact ad_falling ws hw h ws.length 0 k (by omega) (by omega)
  rw [system_kind.f, if_neg (by decide +kernel), if_neg (by decide +kernel), e1, system_kind.j0, if_neg (by decide), if_neg (by decide +kernel), e2, system_kind.j1, if_neg (by decide), if_pos (by decide +kernel), if_pos (by omega), if_pos (by omega), e3]
  rfl
theorem ad_may (Y : List ByteArray) (ws : List Int) (hY : Y.length = ws.length) (h0 : 0 < ws.length) (hw : ws.length ≤ 20) (h : adFalls ws) (hs : ∀ s ∈ Y, s.size = 1) (k : Nat) (hk : 200 ≤ k) :
    system_May.f k sE adName 1 Y ws sE sE sE sE true [] 0 sE sE sE 0 = some true := by
  have e1 : slices_ContainsFunc_string_string.f ([sE, sE, sE, sE, sE] ++ Y) = some false := by
    unfold slices_ContainsFunc_string_string.f
    congr 1
    rw [List.any_append, Bool.or_eq_false_iff]
    refine ⟨by decide +kernel, ?_⟩
    rw [List.any_eq_false]
    intro s hs1
    have := hs s hs1
    simp [longB, this]
  obtain ⟨k, rfl⟩ : ∃ m, k = m + 1 := ⟨k - 1, by omega⟩
  have hl : [sE, sE, sE, sE, sE].length = 5 := rfl
  rw [system_May.f]
  simp only [Option.bind_some]
  rw [if_pos (by rw [hl]; omega), ad_kind Y ws hY h0 (by omega) h _ (by omega)]
  simp only [Option.bind_some]
  rw [if_pos trivial, if_neg (by omega), if_neg (by decide), if_neg (by decide), e1]
  simp only [Option.bind_some]
  rw [system_May.j0, if_neg (by decide)]
  rfl
/-- What the program's sum comes to at the end. -/
def adFinP (Y : List ByteArray) (ws : List Int) (n : Int) (P : List Int) (k : Nat) : Option (ByteArray × Bool) :=
  (slices_Reverse_int_int.f k P).bind fun t139 => ((system_chosen.f sE adName 1 Y ws sE sE sE sE true [] 0 sE sE sE 0 t139).bind fun bt140 => (if n > 0 then (some ((⟨#[]⟩ : ByteArray), false)) else (if bt140.2 = true then (some (bt140.1, true)) else (some ((⟨#[]⟩ : ByteArray), false)))))
def adFinL (x8 : ByteArray) (x9 : Bool) (n : Int) (s : ByteArray) (k : Nat) : Option Bool :=
  if n > 0 then (fleuronlaw9_SystemAdds.j4 k x8 x9 s true) else (fleuronlaw9_SystemAdds.j4 k x8 x9 s (decide ((s.size : Int) > 60)))
def adStr (Y : List ByteArray) (P : List Int) : ByteArray := ⟨(symsAt Y P).toArray⟩
theorem adStr_snoc (Y : List ByteArray) (P : List Int) (p : Int) : adStr Y (P ++ [p]) = adStr Y P ++ rdOf ByteArray.empty Y p := by
  unfold adStr
  rw [symsAt_snoc]
  apply ByteArray.ext
  simp [ByteArray.data_append]
theorem adStr_size (Y : List ByteArray) (h : ∀ i : Nat, i < Y.length → (rdOf ByteArray.empty Y (i : Int)).size = 1) : ∀ P : List Int, (∀ p ∈ P, 0 ≤ p ∧ p < (Y.length : Int)) → (adStr Y P).size = P.length
  | [], _ => rfl
  | p :: P, hp => by
    have ih := adStr_size Y h P (fun q hq => hp q (by simp [hq]))
    have h1 := hp p (by simp)
    obtain ⟨i, rfl⟩ := Int.eq_ofNat_of_zero_le h1.1
    have h2 := h i (by omega)
    have h3 : (rdOf ByteArray.empty Y (i : Int)).data.toList.length = 1 := by rw [data_length]; exact h2
    have h4 : (adStr Y P).size = (symsAt Y P).length := by simp [adStr, ByteArray.size]
    have h5 : (adStr Y ((i : Int) :: P)).size = (symsAt Y ((i : Int) :: P)).length := by simp [adStr, ByteArray.size]
    have h6 : symsAt Y ((i : Int) :: P) = (rdOf ByteArray.empty Y (i : Int)).data.toList ++ symsAt Y P := by simp [symsAt]
    rw [h5, h6, List.length_append, h3, List.length_cons]
    omega
theorem ad_place {Y : List ByteArray} {P : List Int} (h : ∀ p ∈ P, 0 ≤ p ∧ p < (Y.length : Int)) {i : Nat} (hi : i < Y.length) : ∀ p ∈ P ++ [(i : Int)], 0 ≤ p ∧ p < (Y.length : Int) := by
  intro p hp
  rcases List.mem_append.1 hp with h1 | h1
  · exact h p h1
  · rw [List.mem_singleton.1 h1]; omega
theorem ad_st4 (Y : List ByteArray) (ws P : List Int) (i k : Nat) (n w : Int) (h1 : n ≥ w) (h2 : P.length ≤ 60) (h3 : 0 < w) (h4 : n ≤ 2147483648) : system_additive.l1 (k + 1) n P (i : Int) w ws (ws.length : Int) (i : Int) sE adName 1 Y ws sE sE sE sE true [] 0 sE sE sE 0 = system_additive.l1 k (n - w) (P ++ [(i : Int)]) (i : Int) w ws (ws.length : Int) (i : Int) sE adName 1 Y ws sE sE sE sE true [] 0 sE sE sE 0 := by
  have e1 : wrap64 (n - w) = n - w := by unfold wrap64; omega
  rw [system_additive.l1, if_pos h1, if_pos (by omega), if_pos (by omega), e1]
theorem ad_st5 (Y : List ByteArray) (ws P : List Int) (i k : Nat) (n w : Int) (h1 : ¬ (n ≥ w ∧ P.length ≤ 60)) (hi : i ≤ 100) : system_additive.l1 (k + 1) n P (i : Int) w ws (ws.length : Int) (i : Int) sE adName 1 Y ws sE sE sE sE true [] 0 sE sE sE 0 = system_additive.l0 k n P ws (ws.length : Int) ((i + 1 : Nat) : Int) sE adName 1 Y ws sE sE sE sE true [] 0 sE sE sE 0 := by
  have e1 : wrap64 ((i : Int) + 1) = ((i + 1 : Nat) : Int) := by unfold wrap64; omega
  rw [system_additive.l1, e1]
  by_cases hc1 : n ≥ w
  · rw [if_pos hc1, if_neg (by omega)]
  · rw [if_neg hc1]
theorem ad_st6 (Y : List ByteArray) (ws : List Int) (i k : Nat) (n : Int) (x8 s : ByteArray) (x9 : Bool) (hi : i < ws.length) (hY : i < Y.length) (h1 : n ≥ rd ws (i : Int)) (h2 : (s.size : Int) ≤ 60) (h3 : 0 < rd ws (i : Int)) (h4 : n ≤ 2147483648) (h5 : s.size + (rdOf ByteArray.empty Y (i : Int)).size ≤ 9223372036854775807) : fleuronlaw9_SystemAdds.l2 (k + 1) x8 x9 n s (i : Int) sE adName 1 Y ws sE sE sE sE true [] 0 sE sE sE 0 = fleuronlaw9_SystemAdds.l2 k x8 x9 (n - rd ws (i : Int)) (s ++ rdOf ByteArray.empty Y (i : Int)) (i : Int) sE adName 1 Y ws sE sE sE sE true [] 0 sE sE sE 0 := by
  have e1 : wrap64 (n - rd ws (i : Int)) = n - rd ws (i : Int) := by clear h5; unfold wrap64; omega
  rw [fleuronlaw9_SystemAdds.l2, if_pos (Int.natCast_nonneg i), if_pos (Int.ofNat_lt.2 hi), if_pos h1, if_pos h2, if_pos (Int.ofNat_lt.2 hY), if_pos h5, e1]
theorem ad_st7 (Y : List ByteArray) (ws : List Int) (i k : Nat) (n : Int) (x8 s : ByteArray) (x9 : Bool) (hi : i < ws.length) (h1 : ¬ (n ≥ rd ws (i : Int) ∧ (s.size : Int) ≤ 60)) (hi2 : i ≤ 100) : fleuronlaw9_SystemAdds.l2 (k + 1) x8 x9 n s (i : Int) sE adName 1 Y ws sE sE sE sE true [] 0 sE sE sE 0 = fleuronlaw9_SystemAdds.l1 k x8 x9 n s ((i + 1 : Nat) : Int) sE adName 1 Y ws sE sE sE sE true [] 0 sE sE sE 0 := by
  have e1 : wrap64 ((i : Int) + 1) = ((i + 1 : Nat) : Int) := by clear h1; unfold wrap64; omega
  rw [fleuronlaw9_SystemAdds.l2, if_pos (Int.natCast_nonneg i), if_pos (Int.ofNat_lt.2 hi), e1]
  by_cases hc1 : n ≥ rd ws (i : Int)
  · rw [if_pos hc1, if_neg (fun h => h1 ⟨hc1, h⟩)]
  · rw [if_neg hc1]
/-- Both sums go on alike: from within a weight's rounds (q = false), or from ahead of them. -/
theorem ad_run (Y : List ByteArray) (ws : List Int) (hY : Y.length = ws.length) (hw : ws.length ≤ 20) (h : adFalls ws) (hs : ∀ i : Nat, i < Y.length → (rdOf ByteArray.empty Y (i : Int)).size = 1) :
    ∀ (M : Nat) (q : Bool) (i : Nat) (n : Int) (P : List Int), 2 * ((ws.length - i) + (61 - P.length)) + (if q then 1 else 0) ≤ M → P.length ≤ 61 → 0 ≤ n → n ≤ 2147483648 → (∀ p ∈ P, 0 ≤ p ∧ p < (Y.length : Int)) → (q = false → i < ws.length) → i ≤ ws.length →
      ∃ n' P', P'.length ≤ 61 ∧ 0 ≤ n' ∧ (∀ p ∈ P', 0 ≤ p ∧ p < (Y.length : Int)) ∧
        (∀ r, Ev (adFinP Y ws n' P') r → Ev (fun k => if q then system_additive.l0 k n P ws (ws.length : Int) (i : Int) sE adName 1 Y ws sE sE sE sE true [] 0 sE sE sE 0 else system_additive.l1 k n P (i : Int) (rd ws (i : Int)) ws (ws.length : Int) (i : Int) sE adName 1 Y ws sE sE sE sE true [] 0 sE sE sE 0) r) ∧
        (∀ x8 x9 r, Ev (adFinL x8 x9 n' (adStr Y P')) r → Ev (fun k => if q then fleuronlaw9_SystemAdds.l1 k x8 x9 n (adStr Y P) (i : Int) sE adName 1 Y ws sE sE sE sE true [] 0 sE sE sE 0 else fleuronlaw9_SystemAdds.l2 k x8 x9 n (adStr Y P) (i : Int) sE adName 1 Y ws sE sE sE sE true [] 0 sE sE sE 0) r) := by
  intro M
  induction M with
  | zero =>
    intro q i n P hM hP hn0 hn1 hp hq hi
    cases q with
    | true => simp at hM
    | false => have := hq rfl; omega
  | succ M ih =>
   intro q i n P hM hP hn0 hn1 hp hq hi
   cases q with
   | true =>
    simp only [if_true] at hM ⊢
    by_cases hlt : i < ws.length
    · obtain ⟨n', P', a1, a2, a3, a4, a5⟩ := ih false i n P (by simp only [Bool.false_eq_true, if_false]; omega) hP hn0 hn1 hp (fun _ => hlt) hi
      simp only [Bool.false_eq_true, if_false] at a4 a5
      have hpos := h.1 i hlt
      refine ⟨n', P', a1, a2, a3, fun r hr => Ev.step (fun k => ?_) (a4 r hr), fun x8 x9 r hr => Ev.step (fun k => ?_) (a5 x8 x9 r hr)⟩
      · rw [system_additive.l0, if_pos (by omega), if_pos (by omega), if_pos (by omega), if_neg (by omega)]
      · rw [fleuronlaw9_SystemAdds.l1, if_pos (by omega)]
    · refine ⟨n, P, hP, hn0, hp, fun r hr => Ev.step (fun k => ?_) hr, fun x8 x9 r hr => Ev.step (fun k => ?_) hr⟩
      · rw [system_additive.l0, if_neg (by omega)]; rfl
      · rw [fleuronlaw9_SystemAdds.l1, if_neg (by omega)]; rfl
   | false =>
    simp only [Bool.false_eq_true, if_false] at hM ⊢
    have hlt := hq rfl
    have hpos := h.1 i hlt
    have hsz : ((adStr Y P).size : Int) = (P.length : Int) := congrArg Int.ofNat (adStr_size Y hs P hp)
    have hone := hs i (by omega)
    have h5 : (adStr Y P).size + (rdOf ByteArray.empty Y (i : Int)).size ≤ 9223372036854775807 := by rw [hone, adStr_size Y hs P hp]; omega
    by_cases hc : n ≥ rd ws (i : Int) ∧ P.length ≤ 60
    · obtain ⟨n', P', a1, a2, a3, a4, a5⟩ := ih false i (n - rd ws (i : Int)) (P ++ [(i : Int)]) (by simp only [Bool.false_eq_true, if_false, List.length_append, List.length_singleton]; clear hsz h5; omega) (by simp only [List.length_append, List.length_singleton]; clear hsz h5; omega) (by clear hsz h5; omega) (by clear hsz h5; omega) (ad_place hp (by clear hsz h5; omega)) (fun _ => hlt) hi
      simp only [Bool.false_eq_true, if_false] at a4 a5
      refine ⟨n', P', a1, a2, a3, fun r hr => Ev.step (fun k => ad_st4 Y ws P i k n _ hc.1 hc.2 hpos hn1) (a4 r hr), fun x8 x9 r hr => Ev.step (fun k => ?_) (a5 x8 x9 r hr)⟩
      rw [ad_st6 Y ws i k n x8 _ x9 hlt (hY ▸ hlt) hc.1 (by rw [hsz]; exact Int.ofNat_le.2 hc.2) hpos hn1 h5, adStr_snoc]
    · obtain ⟨n', P', a1, a2, a3, a4, a5⟩ := ih true (i + 1) n P (by simp only [if_true]; clear hsz h5; omega) hP hn0 hn1 hp (fun e => by cases e) (by clear hsz h5; omega)
      simp only [if_true] at a4 a5
      have hc' : ¬ (n ≥ rd ws (i : Int) ∧ ((adStr Y P).size : Int) ≤ 60) := by
        rw [hsz]
        exact fun e => hc ⟨e.1, Int.ofNat_le.1 e.2⟩
      exact ⟨n', P', a1, a2, a3, fun r hr => Ev.step (fun k => ad_st5 Y ws P i k n _ hc (by clear hsz h5 hc'; omega)) (a4 r hr), fun x8 x9 r hr => Ev.step (fun k => ad_st7 Y ws i k n x8 _ x9 hlt hc' (by clear hsz h5 hc'; omega)) (a5 x8 x9 r hr)⟩
/-- What comes of the sum. -/
def adRes (Y : List ByteArray) (n : Int) (P : List Int) : ByteArray × Bool := if n > 0 then (⟨#[]⟩, false) else if (P.length : Int) > 60 then (⟨#[]⟩, false) else (adStr Y P, true)
theorem ad_small (Y : List ByteArray) (hs : ∀ s ∈ Y, s.size = 1) : Y.all (fun s => decide (s.size ≤ 1099511627776)) = true := by
  rw [List.all_eq_true]
  intro s h
  rw [hs s h]
  rfl
theorem ad_finP (Y : List ByteArray) (ws : List Int) (n : Int) (P : List Int) (hs : ∀ s ∈ Y, s.size = 1) (hP : P.length ≤ 61) (hp : ∀ p ∈ P, 0 ≤ p ∧ p < (Y.length : Int)) : Ev (adFinP Y ws n P) (adRes Y n P) := by
  refine ⟨100, fun k hk => ?_⟩
  unfold adFinP adRes
  rw [rev_is P (by omega) k (by omega)]
  simp only [Option.bind_some]
  unfold system_chosen.f
  rw [List.length_reverse, List.reverse_reverse]
  by_cases h60 : (P.length : Int) > 60
  · rw [if_pos h60]
    simp only [Option.bind_some]
    by_cases hn : n > 0
    · rw [if_pos hn, if_pos hn]
    · rw [if_neg hn, if_neg hn, if_neg (by decide), if_pos h60]
  · rw [if_neg h60, if_pos, if_pos (ad_small Y hs)]
    · simp only [Option.bind_some]
      by_cases hn : n > 0
      · rw [if_pos hn, if_pos hn]
      · rw [if_neg hn, if_neg hn, if_pos trivial, if_neg h60]
        rfl
    · rw [List.all_eq_true]
      intro x hx
      have := hp x (List.mem_reverse.1 hx)
      rw [Bool.and_eq_true]
      exact ⟨decide_eq_true this.1, decide_eq_true this.2⟩
theorem ad_finL (Y : List ByteArray) (n : Int) (P : List Int) (hsz : ((adStr Y P).size : Int) = (P.length : Int)) : Ev (adFinL (adRes Y n P).1 (adRes Y n P).2 n (adStr Y P)) true := by
  refine ⟨5, fun k hk => ?_⟩
  obtain ⟨k, rfl⟩ : ∃ m, k = m + 1 := ⟨k - 1, by clear hsz; omega⟩
  unfold adFinL adRes
  rw [hsz]
  have aw : fleuronlaw9_awake.f = some true := rfl
  by_cases hn : n > 0
  · rw [if_pos hn, if_pos hn, fleuronlaw9_SystemAdds.j4, if_pos rfl, if_neg (by decide), if_pos (by decide +kernel), aw]
    rfl
  · rw [if_neg hn, if_neg hn]
    by_cases h60 : (P.length : Int) > 60
    · rw [if_pos h60, decide_eq_true h60, fleuronlaw9_SystemAdds.j4, if_pos rfl, if_neg (by decide), if_pos (by decide +kernel), aw]
      rfl
    · rw [if_neg h60, decide_eq_false h60, fleuronlaw9_SystemAdds.j4, if_neg (by decide), if_pos rfl, if_pos rfl, aw]
      rfl
theorem ad_round (x : Int) : ∃ t, fleuronalike_Round.f x 1000 = some t ∧ 0 ≤ t ∧ t < 1000 := by
  refine ⟨Int.tmod (wrap64 ((Int.tmod x 1000) + 1000)) 1000, by unfold fleuronalike_Round.f; rw [if_neg (by decide)], ?_⟩
  have h1 : -1000 < Int.tmod x 1000 ∧ Int.tmod x 1000 < 1000 := by
    by_cases hx : 0 ≤ x
    · rw [Int.tmod_eq_emod_of_nonneg hx]; omega
    · obtain ⟨y, rfl⟩ : ∃ y, x = -y := ⟨-x, by omega⟩
      rw [Int.neg_tmod, Int.tmod_eq_emod_of_nonneg (by omega)]; omega
  obtain ⟨t, ht⟩ : ∃ t, t = Int.tmod x 1000 := ⟨_, rfl⟩
  rw [← ht] at h1 ⊢
  have e : wrap64 (t + 1000) = t + 1000 := by unfold wrap64; omega
  rw [e, Int.tmod_eq_emod_of_nonneg (by omega)]
  omega
theorem ad_signs (Y : List ByteArray) (ws : List Int) (hY : Y.length = ws.length) (h0 : 0 < ws.length) (hw : ws.length ≤ 20) (h : adFalls ws) (hs : ∀ s ∈ Y, s.size = 1) (n : Int) (hn : 1 ≤ n) (hn1 : n ≤ 2147483648) (r : ByteArray × Bool)
    (he : Ev (fun k => system_additive.l0 k n [] ws (ws.length : Int) 0 sE adName 1 Y ws sE sE sE sE true [] 0 sE sE sE 0) r) : Ev (fun k => system_Signs.f k sE adName 1 Y ws sE sE sE sE true [] 0 sE sE sE 0 n) r := by
  obtain ⟨K, hK⟩ := he
  refine ⟨K + 300, fun k hk => ?_⟩
  obtain ⟨k, rfl⟩ : ∃ m, k = m + 1 := ⟨k - 1, by omega⟩
  have hk2 := hK k (by omega)
  dsimp only at hk2
  show system_Signs.f (k + 1) sE adName 1 Y ws sE sE sE sE true [] 0 sE sE sE 0 n = some r
  rw [system_Signs.f, ad_may Y ws hY h0 hw h hs (k + 1) (by omega)]
  simp only [Option.bind_some]
  rw [if_pos trivial, if_neg (by omega), decide_eq_false (by omega), system_Signs.j0, if_neg (by decide), if_neg (by decide +kernel), if_neg (by decide +kernel), if_neg (by decide +kernel), if_neg (by decide +kernel), if_neg (by decide +kernel), if_pos (by decide +kernel), if_pos (by omega), system_additive.f, if_neg (by omega), hk2]
  rfl
theorem ad_one (Y : List ByteArray) (hs : ∀ s ∈ Y, s.size = 1) (i : Nat) (hi : i < Y.length) : (rdOf ByteArray.empty Y (i : Int)).size = 1 := by
  have e : rdOf ByteArray.empty Y (i : Int) = Y[i] := by simp [rdOf, hi]
  rw [e]
  exact hs _ (List.getElem_mem hi)
theorem ad_end (l : List Int) (Y : List ByteArray) (ws : List Int) (hY : Y.length = ws.length) (h0 : 0 < ws.length) (hw : ws.length ≤ 20) (h : adFalls ws) (hs : ∀ s ∈ Y, s.size = 1) (n w : Int) (hn : 1 ≤ n) (hn1 : n ≤ 2147483648) (j : Nat) (hj : ¬ j < l.length) :
    Ev (fun k => fleuronlaw9_SystemAdds.l0 k l n w (j : Int) sE adName 1 Y ws sE sE sE sE true [] 0 sE sE sE 0) true := by
  have hs1 := ad_one Y hs
  obtain ⟨n', P', a1, a2, a3, a4, a5⟩ := ad_run Y ws hY hw h hs1 (2 * (ws.length + 61) + 1) true 0 n [] (by simp) (by simp) (by omega) hn1 (by simp) (fun e => by cases e) (by omega)
  simp only [if_true] at a4 a5
  obtain ⟨K1, hK1⟩ := ad_signs Y ws hY h0 hw h hs n hn hn1 _ (a4 _ (ad_finP Y ws n' P' hs a1 a3))
  obtain ⟨K2, hK2⟩ := a5 (adRes Y n' P').1 (adRes Y n' P').2 true (ad_finL Y n' P' (congrArg Int.ofNat (adStr_size Y hs1 P' a3)))
  refine ⟨K1 + K2 + 300, fun k hk => ?_⟩
  obtain ⟨k, rfl⟩ : ∃ m, k = m + 1 := ⟨k - 1, by omega⟩
  have h1 := hK1 k (by omega)
  have h2 := hK2 k (by omega)
  dsimp only at h1 h2
  show fleuronlaw9_SystemAdds.l0 (k + 1) l n w (j : Int) sE adName 1 Y ws sE sE sE sE true [] 0 sE sE sE 0 = some true
  rw [fleuronlaw9_SystemAdds.l0, if_neg (by omega), h1, ad_may Y ws hY h0 hw h hs k (by omega)]
  simp only [Option.bind_some]
  rw [if_pos trivial]
  exact h2
theorem ad_str1 (b : Int) : (strOfNums [b]).size = 1 := rfl
theorem ad_fall_cons (w : Int) (ws : List Int) (h : adFalls ws) (h0 : 0 < w) (h1 : 0 < ws.length → rd ws ((0 : Nat) : Int) < w) : adFalls (w :: ws) := by
  have e : ∀ j : Nat, rd (w :: ws) ((j + 1 : Nat) : Int) = rd ws (j : Int) := fun j => by simp [rd]
  have e0 : rd (w :: ws) ((0 : Nat) : Int) = w := by simp [rd]
  refine ⟨fun j hj => ?_, fun j hj => ?_⟩
  · cases j with
    | zero => rw [e0]; exact h0
    | succ j => rw [e]; exact h.1 j (by simpa using hj)
  · cases j with
    | zero => rw [e, e0]; exact h1 (by simpa using hj)
    | succ j => rw [e, e]; exact h.2 j (by simpa using hj)
theorem ad_build (l : List Int) (hl0 : 0 < l.length) (hl : l.length ≤ 12) (n : Int) (hn : 1 ≤ n) (hn1 : n ≤ 2147483648) :
    ∀ (d j : Nat) (w : Int) (ws : List Int) (Y : List ByteArray), j + d = l.length → ws.length = j → Y.length = j → adFalls ws → (0 < ws.length → rd ws ((0 : Nat) : Int) = w) → 0 ≤ w → w ≤ 1001 * (j : Int) → (∀ s ∈ Y, s.size = 1) →
      Ev (fun k => fleuronlaw9_SystemAdds.l0 k l n w (j : Int) sE adName 1 Y ws sE sE sE sE true [] 0 sE sE sE 0) true := by
  intro d
  induction d with
  | zero =>
    intro j w ws Y hj hws hY hf _ _ _ hs
    exact ad_end l Y ws (by rw [hY, hws]) (by omega) (by omega) hf hs n w hn hn1 j (by omega)
  | succ d ih =>
    intro j w ws Y hj hws hY hf hhd hw0 hw1 hs
    obtain ⟨t, ht, ht0, ht1⟩ := ad_round (rd l (j : Int))
    have e1 : wrap64 (wrap64 (w + 1) + t) = w + 1 + t := by unfold wrap64; omega
    have e2 : wrap64 ((j : Int) + 1) = ((j + 1 : Nat) : Int) := by unfold wrap64; omega
    refine Ev.step (fun k => ?_) (ih (j + 1) (w + 1 + t) ((w + 1 + t) :: ws) (strOfNums [(wrap64 (97 + (j : Int))) % 256] :: Y) (by omega) (by simp [hws]) (by simp [hY]) (ad_fall_cons _ ws hf (by omega) (fun h => by rw [hhd h]; omega)) (fun _ => by simp [rd]) (by omega) (by omega) (fun s h => by
      rcases List.mem_cons.1 h with rfl | h
      · exact ad_str1 _
      · exact hs s h))
    rw [fleuronlaw9_SystemAdds.l0, if_pos (by omega), if_pos (by omega), ht]
    simp only [Option.bind_some]
    rw [e1, e2, if_pos (by simp only [List.length_singleton]; omega), if_pos (by simp only [List.length_singleton]; omega)]
    rfl
theorem SystemAdds : fleuronlaw9_SystemAdds.Pure := by
  intro l0 a1 _ _ _ _
  have hout : fleuronlaw9_SystemAdds.j0 2 l0 a1 true = some true := by rw [fleuronlaw9_SystemAdds.j0, if_pos rfl]; rfl
  unfold fleuronlaw9_SystemAdds.f
  by_cases h1 : (l0.length : Int) < 1
  · exact ⟨2, by rw [if_pos h1]; exact hout⟩
  by_cases h2 : (l0.length : Int) > 12
  · exact ⟨2, by rw [if_neg h1, if_pos h2]; exact hout⟩
  by_cases h3 : a1 < 1
  · exact ⟨2, by rw [if_neg h1, if_neg h2, if_pos h3]; exact hout⟩
  by_cases h4 : a1 > 2147483648
  · exact ⟨2, by rw [if_neg h1, if_neg h2, if_neg h3, decide_eq_true h4]; exact hout⟩
  obtain ⟨k, hk⟩ := (ad_build l0 (by omega) (by omega) a1 (by omega) (by omega) l0.length 0 0 [] [] (by omega) rfl rfl ⟨fun j hj => by simp at hj, fun j hj => by simp at hj⟩ (fun h => by simp at h) (by omega) (by omega) (by simp)).rounds
  refine ⟨k + 1, ?_⟩
  rw [if_neg h1, if_neg h2, if_neg h3, decide_eq_false h4, fleuronlaw9_SystemAdds.j0, if_neg (by decide)]
  simp only [fleuronlaw9_made.f, Option.bind_some]
  exact hk
end Go.Proofs.Ytalegejfellbdaa.Pure
