/- The pure part of SystemDecodes: for every number, base and switch the printed function of the law tells true with some number of rounds. No condition. -/
import Derived.Test.YtalegejfellbdaaPrint17
namespace Go.Proofs.Ytalegejfellbdaa.Pure
open Go.RowKit Go.Proofs.Ytalegejfellbdaa.Print Go.Proofs.YtalegejfellbdaaW.PrintWords Go.Proofs.YtalegejfellbdaaW.PrintLast
def sE : ByteArray := ⟨#[]⟩
/-- More rounds tell the same. -/
theorem may_more {k k' : Nat} (hk : k ≤ k') {a b : ByteArray} {c : Int} {l : List ByteArray} {ws : List Int} {e f g h : ByteArray} {au : Bool} {rs : List S41} {p : Int} {q r s : ByteArray} {t : Int} {x : Bool} (hm : system_May.f k a b c l ws e f g h au rs p q r s t = some x) : system_May.f k' a b c l ws e f g h au rs p q r s t = some x :=
  at_rounds (fun k => system_May.mono a b c l ws e f g h au rs p q r s t k) hk hm
theorem w64 {x : Nat} (h : x ≤ 9223372036854775807) : wrap64 (x : Int) = (x : Int) := by unfold wrap64; omega
/-- The letters a, b, .. as symbols. -/
def dcL (base : Nat) : List ByteArray := (List.range base).map fun i : Nat => strOfNums [((97 + (i : Int))) % 256]
def dcName (lt : Bool) : ByteArray := if lt then ⟨#[97, 108, 112, 104, 97, 98, 101, 116, 105, 99]⟩ else ⟨#[110, 117, 109, 101, 114, 105, 99]⟩
theorem dc_may_all : ((List.range 25).all fun b : Nat => [true, false].all fun lt => system_May.f 10 sE (dcName lt) 1 (dcL (b + 2)) [] sE sE sE sE true [] 0 sE sE sE 0 == some true) = true := by decide +kernel
theorem dc_may (base : Nat) (h0 : 2 ≤ base) (h1 : base ≤ 26) (lt : Bool) {k : Nat} (hk : 10 ≤ k) : system_May.f k sE (dcName lt) 1 (dcL base) [] sE sE sE sE true [] 0 sE sE sE 0 = some true := by
  have a := dc_may_all
  rw [List.all_eq_true] at a
  have b := a (base - 2) (by simp; omega)
  rw [List.all_eq_true] at b
  have c := b lt (by cases lt <;> simp)
  rw [show base - 2 + 2 = base by omega] at c
  exact may_more hk (by simpa using c)
theorem dc_sym_all : ((List.range 27).all fun b : Nat => (List.range b).all fun p : Nat => (rdOf ByteArray.empty (dcL b) (p : Int)).data.toList == [UInt8.ofNat (97 + p)]) = true := by decide +kernel
theorem dc_sym (base : Nat) (h1 : base ≤ 26) (p : Nat) (hp : p < base) : (rdOf ByteArray.empty (dcL base) (p : Int)).data.toList = [UInt8.ofNat (97 + p)] := by
  have a := dc_sym_all
  rw [List.all_eq_true] at a
  have b := a base (by simp; omega)
  rw [List.all_eq_true] at b
  simpa using b p (by simpa using hp)
theorem dc_len (base : Nat) : (dcL base).length = base := by simp [dcL]
theorem dc_small_all : ((List.range 27).all fun b : Nat => (dcL b).all fun s => decide (s.size ≤ 1099511627776)) = true := by decide +kernel
theorem dc_small (base : Nat) (h1 : base ≤ 26) : (dcL base).all (fun s => decide (s.size ≤ 1099511627776)) = true := by
  have a := dc_small_all
  rw [List.all_eq_true] at a
  exact a base (by simp; omega)
/-- A number's digits, the last one first; letters: without a nought. -/
def dcDig (base : Nat) (lt : Bool) : Nat → Nat → List Nat
  | 0, _ => []
  | d + 1, n => if lt then (if n = 0 then [] else (n - 1) % base :: dcDig base lt d ((n - 1) / base)) else (if n < base then [n % base] else n % base :: dcDig base lt d (n / base))
def dcVal (base : Nat) (lt : Bool) : List Nat → Nat
  | [] => 0
  | p :: l => (if lt then p + 1 else p) + base * dcVal base lt l
theorem dcDig_val (base : Nat) (h : 2 ≤ base) (lt : Bool) : ∀ d n : Nat, n < 2 ^ d → dcVal base lt (dcDig base lt d n) = n
  | 0, n, h0 => by simp [dcDig, dcVal] at *; omega
  | d + 1, n, h0 => by
    have hb : 0 < base := by omega
    rw [Nat.pow_succ] at h0
    unfold dcDig
    cases lt with
    | true =>
      by_cases hn : n = 0
      · simp [hn, dcVal]
      · simp only [if_true, if_neg hn, dcVal]
        have h2 : (n - 1) / base < 2 ^ d := by
          have : (n - 1) / base ≤ (n - 1) / 2 := Nat.div_le_div_left h (by omega)
          omega
        rw [dcDig_val base h true d _ h2]
        have := Nat.mod_add_div (n - 1) base
        omega
    | false =>
      by_cases hn : n < base
      · simp only [Bool.false_eq_true, if_false, if_pos hn, dcVal]
        rw [Nat.mod_eq_of_lt hn]; omega
      · simp only [Bool.false_eq_true, if_false, if_neg hn, dcVal]
        have h2 : n / base < 2 ^ d := by
          have : n / base ≤ n / 2 := Nat.div_le_div_left h (by omega)
          omega
        rw [dcDig_val base h false d _ h2]
        exact Nat.mod_add_div n base
theorem dcDig_lt (base : Nat) (h : 2 ≤ base) (lt : Bool) : ∀ d n : Nat, ∀ p ∈ dcDig base lt d n, p < base
  | 0, n, p, hp => by simp [dcDig] at hp
  | d + 1, n, p, hp => by
    have hb : 0 < base := by omega
    unfold dcDig at hp
    cases lt with
    | true =>
      by_cases hn : n = 0
      · simp [hn] at hp
      · simp only [if_true, if_neg hn, List.mem_cons] at hp
        rcases hp with rfl | hp
        · exact Nat.mod_lt _ hb
        · exact dcDig_lt base h true d _ p hp
    | false =>
      by_cases hn : n < base
      · simp only [Bool.false_eq_true, if_false, if_pos hn, List.mem_singleton] at hp
        rw [hp]; exact Nat.mod_lt _ hb
      · simp only [Bool.false_eq_true, if_false, if_neg hn, List.mem_cons] at hp
        rcases hp with rfl | hp
        · exact Nat.mod_lt _ hb
        · exact dcDig_lt base h false d _ p hp
theorem dcDig_len (base : Nat) (lt : Bool) : ∀ d n : Nat, (dcDig base lt d n).length ≤ d
  | 0, n => by simp [dcDig]
  | d + 1, n => by
    unfold dcDig
    cases lt with
    | true =>
      by_cases hn : n = 0
      · simp [hn]
      · simp only [if_true, if_neg hn, List.length_cons]
        have := dcDig_len base true d ((n - 1) / base); omega
    | false =>
      by_cases hn : n < base
      · simp [hn]
      · simp only [Bool.false_eq_true, if_false, if_neg hn, List.length_cons]
        have := dcDig_len base false d (n / base); omega
theorem dcDig_ne (base : Nat) (lt : Bool) (d n : Nat) (h : lt = true → 0 < n) : dcDig base lt (d + 1) n ≠ [] := by
  unfold dcDig
  cases lt with
  | true => simp [Nat.pos_iff_ne_zero.1 (h rfl)]
  | false => by_cases hn : n < base <;> simp [hn]
/-- The first sign of a number above nought is not nought. -/
theorem dcDig_last (base : Nat) (h : 2 ≤ base) : ∀ d n : Nat, 0 < n → n < 2 ^ d → ∀ p, (dcDig base false d n).getLast? = some p → 0 < p
  | 0, n, h0, h1, p, hp => by simp [dcDig] at hp
  | d + 1, n, h0, h1, p, hp => by
    have hb : 0 < base := by omega
    rw [Nat.pow_succ] at h1
    unfold dcDig at hp
    by_cases hn : n < base
    · simp only [Bool.false_eq_true, if_false, if_pos hn, List.getLast?_singleton, Option.some.injEq] at hp
      rw [Nat.mod_eq_of_lt hn] at hp; omega
    · simp only [Bool.false_eq_true, if_false, if_neg hn] at hp
      have h2 : n / base < 2 ^ d := by
        have : n / base ≤ n / 2 := Nat.div_le_div_left h (by omega)
        omega
      have h3 : 0 < n / base := Nat.div_pos (by omega) hb
      have h4 : dcDig base false d (n / base) ≠ [] := by
        cases d with
        | zero => simp at h2; omega
        | succ d => exact dcDig_ne base false d _ (by simp)
      rw [List.getLast?_cons_of_ne_nil h4] at hp
      exact dcDig_last base h d _ h3 h2 p hp
/-- The program's digits. -/
theorem dc_pos_l1 (base : Nat) (h : 2 ≤ base) (hb : base ≤ 26) : ∀ (d n k : Nat) (acc : List Int), n < 2 ^ d → n ≤ 2147483648 → d < k → acc.length + d ≤ 100 → system_positional.l1 k (n : Int) (base : Int) acc = some (acc ++ (dcDig base true d n).map (fun p : Nat => (p : Int)))
  | d, n, 0, acc, _, _, h3, _ => by omega
  | 0, n, k + 1, acc, h0, _, _, _ => by
    have : n = 0 := by simp at h0; omega
    subst this
    simp [system_positional.l1, dcDig]
  | d + 1, n, k + 1, acc, h0, h1, h3, h4 => by
    rw [Nat.pow_succ] at h0
    rw [system_positional.l1]
    unfold dcDig
    by_cases hn : n = 0
    · subst hn; simp
    · rw [if_pos (by omega), if_neg (by omega), if_pos (by omega)]
      have e1 : wrap64 ((n : Int) - 1) = ((n - 1 : Nat) : Int) := by unfold wrap64; omega
      have e2 : Int.tdiv ((n - 1 : Nat) : Int) (base : Int) = (((n - 1) / base : Nat) : Int) := rfl
      have e3 : Int.tmod ((n - 1 : Nat) : Int) (base : Int) = (((n - 1) % base : Nat) : Int) := rfl
      have h2 : (n - 1) / base < 2 ^ d := by
        have : (n - 1) / base ≤ (n - 1) / 2 := Nat.div_le_div_left h (by omega)
        omega
      have h5 : (n - 1) / base ≤ n - 1 := Nat.div_le_self _ _
      have e4 : wrap64 (((n - 1) / base : Nat) : Int) = (((n - 1) / base : Nat) : Int) := w64 (by omega)
      rw [e1, e2, e3, e4, dc_pos_l1 base h hb d _ k _ h2 (Nat.le_trans h5 (Nat.le_trans (Nat.sub_le _ _) h1)) (Nat.lt_of_succ_lt_succ h3) (by rw [List.length_append, List.length_singleton]; omega)]
      simp [hn]
theorem dc_pos_l0 (base : Nat) (h : 2 ≤ base) (hb : base ≤ 26) : ∀ (d n k : Nat) (acc : List Int), n < 2 ^ d → n ≤ 2147483648 → d < k → acc.length + d ≤ 100 → system_positional.l0 k (n : Int) (base : Int) (acc ++ [((n % base : Nat) : Int)]) = some (acc ++ (dcDig base false (d + 1) n).map (fun p : Nat => (p : Int)))
  | d, n, 0, acc, _, _, h3, _ => by omega
  | 0, n, k + 1, acc, h0, _, _, _ => by
    have : n = 0 := by simp at h0; omega
    subst this
    rw [system_positional.l0, if_neg (by omega)]
    simp [dcDig, show 0 < base by omega]
  | d + 1, n, k + 1, acc, h0, h1, h3, h4 => by
    rw [Nat.pow_succ] at h0
    rw [system_positional.l0]
    by_cases hn : n < base
    · rw [if_neg (by omega)]
      unfold dcDig
      simp [hn]
    · rw [if_pos (by omega), if_neg (by omega), if_pos (by simp; omega)]
      have e2 : Int.tdiv (n : Int) (base : Int) = ((n / base : Nat) : Int) := rfl
      have h5 : n / base ≤ n := Nat.div_le_self _ _
      have e4 : wrap64 ((n / base : Nat) : Int) = ((n / base : Nat) : Int) := w64 (by omega)
      have e3 : Int.tmod ((n / base : Nat) : Int) (base : Int) = ((n / base % base : Nat) : Int) := rfl
      have h2 : n / base < 2 ^ d := by
        have : n / base ≤ n / 2 := Nat.div_le_div_left h (by omega)
        omega
      rw [e2, e4, e3, dc_pos_l0 base h hb d _ k _ h2 (Nat.le_trans h5 h1) (Nat.lt_of_succ_lt_succ h3) (by rw [List.length_append, List.length_singleton]; omega)]
      have e6 : dcDig base false (d + 1 + 1) n = n % base :: dcDig base false (d + 1) (n / base) := by rw [dcDig]; simp [hn]
      rw [e6]
      simp
theorem dc_pos (base : Nat) (h : 2 ≤ base) (hb : base ≤ 26) (lt : Bool) (n : Nat) (hn : n ≤ 2147483648) (k : Nat) (hk : 40 ≤ k) : system_positional.f k (n : Int) (base : Int) (!lt) = some ((dcDig base lt 33 n).map (fun p : Nat => (p : Int))) := by
  unfold system_positional.f
  cases lt with
  | true =>
    rw [if_neg (by simp), dc_pos_l1 base h hb 33 n k [] (by omega) hn (by omega) (by simp)]
    simp
  | false =>
    rw [if_pos (by decide), if_neg (by omega), if_pos (by simp)]
    have e3 : Int.tmod (n : Int) (base : Int) = ((n % base : Nat) : Int) := rfl
    rw [e3, dc_pos_l0 base h hb 32 n k [] (by omega) hn (by omega) (by simp)]
    simp
/-- The signs' bytes. -/
def dcStr (D : List Nat) : List UInt8 := D.reverse.map fun p => UInt8.ofNat (97 + p)
theorem dc_syms (base : Nat) (hb : base ≤ 26) : ∀ l : List Nat, (∀ p ∈ l, p < base) → symsAt (dcL base) (l.map (fun p : Nat => (p : Int))) = l.map fun p => UInt8.ofNat (97 + p)
  | [], _ => rfl
  | p :: l, h => by
    have h1 := dc_syms base hb l (fun q hq => h q (by simp [hq]))
    have h2 := dc_sym base hb p (h p (by simp))
    simp only [symsAt, List.map_cons, List.flatten_cons] at h1 ⊢
    rw [h1, h2]; rfl
theorem dc_chosen (base : Nat) (hb : base ≤ 26) (D : List Nat) (hl : D.length ≤ 33) (hp : ∀ p ∈ D, p < base) (s : ByteArray) :
    system_chosen.f sE s 1 (dcL base) [] sE sE sE sE true [] 0 sE sE sE 0 (D.map (fun p : Nat => (p : Int))) = some (⟨(dcStr D).toArray⟩, true) := by
  unfold system_chosen.f
  rw [if_neg (by simp; omega), if_pos, if_pos (dc_small base hb)]
  · rw [← List.map_reverse, dc_syms base hb _ (by simpa using hp)]
    rfl
  · rw [List.all_eq_true]
    intro x hx
    obtain ⟨p, hp1, rfl⟩ := List.mem_map.1 hx
    rw [dc_len]
    have := hp p hp1
    simp; omega
theorem dc_signs (base : Nat) (h : 2 ≤ base) (hb : base ≤ 26) (lt : Bool) (n : Nat) (hn : n ≤ 2147483648) (hl : lt = true → 0 < n) (D : List Nat) (hpos : ∀ k, 40 ≤ k → system_positional.f k (n : Int) (base : Int) (!lt) = some (D.map (fun p : Nat => (p : Int)))) (hD : D.length ≤ 33) (hp : ∀ p ∈ D, p < base) (k : Nat) (hk : 60 ≤ k) :
    system_Signs.f k sE (dcName lt) 1 (dcL base) [] sE sE sE sE true [] 0 sE sE sE 0 (n : Int) = some (⟨(dcStr D).toArray⟩, true) := by
  rw [system_Signs.f, dc_may base h hb lt (by omega)]
  simp only [Option.bind_some]
  rw [if_pos trivial, if_neg (by omega), decide_eq_false (by omega)]
  obtain ⟨k, rfl⟩ : ∃ m, k = m + 1 := ⟨k - 1, by omega⟩
  rw [system_Signs.j0, if_neg (by decide)]
  have e := hpos k (by omega)
  cases lt with
  | true =>
    rw [if_neg (by decide +kernel), if_neg (by decide +kernel), if_neg (by decide +kernel), if_pos (by decide +kernel), if_pos (by have := hl rfl; omega), dc_len]
    simp only [Bool.not_true] at e
    rw [e]
    simp only [Option.bind_some]
    rw [dc_chosen base hb D hD hp]
    rfl
  | false =>
    rw [if_neg (by decide +kernel), if_neg (by decide +kernel), if_neg (by decide +kernel), if_neg (by decide +kernel), if_pos (by decide +kernel), if_pos (by omega), dc_len]
    simp only [Bool.not_false] at e
    rw [e]
    simp only [Option.bind_some]
    rw [dc_chosen base hb D hD hp]
    rfl
/-- Reading on. -/
def dcStep (base : Nat) (lt : Bool) (v p : Nat) : Nat := v * base + (if lt then p + 1 else p)
theorem dcVal_fold (base : Nat) (lt : Bool) : ∀ l : List Nat, l.reverse.foldl (dcStep base lt) 0 = dcVal base lt l := by
  intro l
  rw [List.foldl_reverse]
  induction l with
  | nil => rfl
  | cons p l ih => rw [List.foldr_cons, ih, dcVal, dcStep, Nat.mul_comm, Nat.add_comm]
theorem dcStep_le (base : Nat) (h : 2 ≤ base) (lt : Bool) : ∀ (l : List Nat) (v : Nat), v ≤ l.foldl (dcStep base lt) v
  | [], v => Nat.le_refl v
  | p :: l, v => by
    refine Nat.le_trans ?_ (dcStep_le base h lt l (dcStep base lt v p))
    unfold dcStep
    have : v * 1 ≤ v * base := Nat.mul_le_mul_left v (by omega)
    omega
theorem dcStr_size (D : List Nat) : (⟨(dcStr D).toArray⟩ : ByteArray).size = D.length := by simp [dcStr, ByteArray.size]
theorem dc_bt (base : Nat) (hb : base ≤ 26) (D R : List Nat) (hR : R = D.reverse) (hp : ∀ p ∈ D, p < base) (i : Nat) (hi : i < R.length) : bt ⟨(dcStr D).toArray⟩ (i : Int) = 97 + (R[i] : Int) ∧ R[i] < base := by
  subst hR
  have hp : D.reverse[i] < base := hp _ (by have := List.getElem_mem hi; rwa [List.mem_reverse] at this)
  refine ⟨?_, hp⟩
  unfold bt
  rw [dif_pos (by rw [dcStr_size]; simpa using hi)]
  have e : ∀ hh, ((⟨(dcStr D).toArray⟩ : ByteArray)[((i : Int)).toNat]'hh) = UInt8.ofNat (97 + D.reverse[i]) := by
    intro hh
    show (dcStr D).toArray[((i : Int)).toNat]'_ = _
    simp [dcStr]
  rw [e, UInt8.toNat_ofNat_of_lt' (by show _ < 256; omega)]
  omega
theorem dc_wrapS (x p : Nat) (h : x + (p + 1) ≤ 2147483648) : wrap64 (wrap64 (x : Int) + wrap64 ((p : Int) + 1)) = ((x + (p + 1) : Nat) : Int) := by unfold wrap64; omega
theorem dc_wrapN (x p : Nat) (h : x + p ≤ 2147483648) : wrap64 (wrap64 (x : Int) + (p : Int)) = ((x + p : Nat) : Int) := by unfold wrap64; omega
theorem dc_wrapP (p : Nat) (h : p < 26) : wrap64 (wrap64 (97 + (p : Int)) - 97) = (p : Int) := by unfold wrap64; omega
theorem dc_wrapI (i : Nat) (h : i ≤ 100) : wrap64 ((i : Int) + 1) = ((i + 1 : Nat) : Int) := by unfold wrap64; omega
/-- One round of the reading. -/
theorem dc_round (base : Nat) (hb : base ≤ 26) (lt : Bool) (n : Int) (s : ByteArray) (v x p i k : Nat) (hi : i ≤ 50) (his : i < s.size) (hbt : bt s (i : Int) = 97 + (p : Int)) (hp : p < base) (hx : x = v * base)
    (hle : dcStep base lt v p ≤ 2147483648) : fleuronlaw9_SystemDecodes.l1 (k + 2) n (base : Int) lt s (v : Int) (i : Int) = fleuronlaw9_SystemDecodes.l1 k n (base : Int) lt s ((dcStep base lt v p : Nat) : Int) ((i + 1 : Nat) : Int) := by
  have hx2 : (v : Int) * (base : Int) = (x : Int) := by rw [hx]; simp
  rw [fleuronlaw9_SystemDecodes.l1, if_pos (by omega), if_pos (by omega), hbt, dc_wrapP p (by omega), if_neg (by omega), decide_eq_false (by omega), fleuronlaw9_SystemDecodes.j5, if_neg (by decide), dc_wrapI i (by omega), hx2]
  unfold dcStep at hle ⊢
  rw [← hx] at hle ⊢
  cases lt with
  | true =>
    simp only [if_true] at hle ⊢
    rw [dc_wrapS x p hle]
  | false =>
    simp only [Bool.false_eq_true, if_false] at hle ⊢
    rw [dc_wrapN x p hle]
theorem dc_read (base : Nat) (h : 2 ≤ base) (hb : base ≤ 26) (lt : Bool) (n : Nat) (hn : n ≤ 2147483648) (D R : List Nat) (hR : R = D.reverse) (hD : R.length ≤ 33) (hDR : D.length = R.length) (hp : ∀ p ∈ D, p < base) (hf : R.foldl (dcStep base lt) 0 = n) :
    ∀ (d i k : Nat), i + d = R.length → 2 * d + 2 ≤ k → fleuronlaw9_SystemDecodes.l1 k (n : Int) (base : Int) lt ⟨(dcStr D).toArray⟩ (((R.take i).foldl (dcStep base lt) 0 : Nat) : Int) (i : Int) = some true
  | d, i, 0, _, hk => by omega
  | 0, i, k + 1, hi, hk => by
    rw [fleuronlaw9_SystemDecodes.l1, if_neg (by rw [dcStr_size]; omega), List.take_of_length_le (by omega), hf, if_pos rfl]
    rfl
  | d + 1, i, k + 1, hi, hk => by
    have hiR : i < R.length := by omega
    obtain ⟨hb1, hb2⟩ := dc_bt base hb D R hR hp i hiR
    have htk : (R.take (i + 1)).foldl (dcStep base lt) 0 = dcStep base lt ((R.take i).foldl (dcStep base lt) 0) R[i] := by
      rw [List.take_succ_eq_append_getElem hiR, List.foldl_append]; rfl
    have hle : dcStep base lt ((R.take i).foldl (dcStep base lt) 0) R[i] ≤ n := by
      have h1 : R = R.take (i + 1) ++ R.drop (i + 1) := (List.take_append_drop _ _).symm
      have h2 : R.foldl (dcStep base lt) 0 = (R.drop (i + 1)).foldl (dcStep base lt) ((R.take (i + 1)).foldl (dcStep base lt) 0) := by
        conv => lhs; rw [h1, List.foldl_append]
      rw [← htk, ← hf, h2]
      exact dcStep_le base h lt _ _
    obtain ⟨k, rfl⟩ : ∃ m, k = m + 1 := ⟨k - 1, by omega⟩
    have ih := dc_read base h hb lt n hn D R hR hD hDR hp hf d (i + 1) k (by omega) (by omega)
    rw [htk] at ih
    rw [dc_round base hb lt n _ _ _ R[i] i k (by omega) (by rw [dcStr_size]; omega) hb1 hb2 rfl (Nat.le_trans hle hn)]
    exact ih
theorem dcL_succ (j : Nat) : dcL (j + 1) = dcL j ++ [strOfNums [(97 + (j : Int)) % 256]] := by simp [dcL, List.range_succ]
/-- What is read of the signs, the first one too. -/
theorem dc_look (j : Nat) (h : 2 ≤ j) (hb : j ≤ 26) (lt : Bool) (n : Nat) (hn : n ≤ 2147483648) (D : List Nat) (hD : D.length ≤ 33) (hp : ∀ p ∈ D, p < j) (hf : D.reverse.foldl (dcStep j lt) 0 = n) (hpos : 0 < D.length)
    (hlast : lt = false → 0 < n → ∀ p, D.getLast? = some p → 0 < p) (k : Nat) (hk : 150 ≤ k) :
    (if ((⟨(dcStr D).toArray⟩ : ByteArray).size : Int) = 0 then fleuronlaw9_SystemDecodes.j3 k (n : Int) (j : Int) lt ⟨(dcStr D).toArray⟩ true else if lt = true then fleuronlaw9_SystemDecodes.j3 k (n : Int) (j : Int) lt ⟨(dcStr D).toArray⟩ false else if (n : Int) > 0 then if 0 < ((⟨(dcStr D).toArray⟩ : ByteArray).size : Int) then fleuronlaw9_SystemDecodes.j3 k (n : Int) (j : Int) lt ⟨(dcStr D).toArray⟩ (bt ⟨(dcStr D).toArray⟩ 0 == 97) else none else fleuronlaw9_SystemDecodes.j3 k (n : Int) (j : Int) lt ⟨(dcStr D).toArray⟩ false) = some true := by
  have hj3 : fleuronlaw9_SystemDecodes.j3 k (n : Int) (j : Int) lt ⟨(dcStr D).toArray⟩ false = some true := by
    obtain ⟨k, rfl⟩ : ∃ m, k = m + 1 := ⟨k - 1, by omega⟩
    rw [fleuronlaw9_SystemDecodes.j3, if_neg (by decide)]
    exact dc_read j h hb lt n hn D _ rfl (by simpa using hD) (by simp) hp hf D.length 0 k (by simp) (by omega)
  rw [if_neg (by rw [dcStr_size]; omega)]
  cases lt with
  | true => rw [if_pos rfl]; exact hj3
  | false =>
    rw [if_neg (by decide)]
    by_cases h0 : (n : Int) > 0
    · obtain ⟨hb1, _⟩ := dc_bt j hb D _ rfl hp 0 (by rw [List.length_reverse]; exact hpos)
      have hl0 : 0 < D.reverse[0]'(by rw [List.length_reverse]; exact hpos) := by
        refine hlast rfl (by omega) _ ?_
        rw [List.getElem_reverse, List.getLast?_eq_getElem?]
        simp
      have hb2 : (bt ⟨(dcStr D).toArray⟩ 0 == 97) = false := by
        rw [beq_eq_false_iff_ne]
        have e : bt ⟨(dcStr D).toArray⟩ 0 = bt ⟨(dcStr D).toArray⟩ ((0 : Nat) : Int) := rfl
        rw [e, hb1]; omega
      rw [if_pos h0, if_pos (by rw [dcStr_size]; omega), hb2]
      exact hj3
    · rw [if_neg h0]; exact hj3
theorem dc_build (base : Nat) (h : 2 ≤ base) (hb : base ≤ 26) (lt : Bool) (n : Nat) (hn : n ≤ 2147483648) (hl : lt = true → 0 < n) (D : List Nat) (hpos : ∀ k, 40 ≤ k → system_positional.f k (n : Int) (base : Int) (!lt) = some (D.map (fun p : Nat => (p : Int)))) (hD : D.length ≤ 33) (hp : ∀ p ∈ D, p < base)
    (hf : D.reverse.foldl (dcStep base lt) 0 = n) (hD0 : 0 < D.length) (hlast : lt = false → 0 < n → ∀ p, D.getLast? = some p → 0 < p) :
    ∀ (d j k : Nat), j + d = base → d + 200 ≤ k → fleuronlaw9_SystemDecodes.l0 k (n : Int) (base : Int) lt (j : Int) sE (dcName lt) 1 (dcL j) [] sE sE sE sE true [] 0 sE sE sE 0 = some true
  | d, j, 0, _, hk => by omega
  | 0, j, k + 1, hj, hk => by
    obtain rfl : j = base := by omega
    rw [fleuronlaw9_SystemDecodes.l0, if_neg (by omega), dc_signs j h hb lt n hn hl D hpos hD hp k (by omega)]
    simp only [Option.bind_some]
    rw [if_pos trivial]
    exact dc_look j h hb lt n hn D hD hp hf hD0 hlast k (by omega)
  | d + 1, j, k + 1, hj, hk => by
    have e1 : wrap64 (97 + (j : Int)) = 97 + (j : Int) := by unfold wrap64; omega
    rw [fleuronlaw9_SystemDecodes.l0, if_pos (by omega), if_pos (by rw [dc_len]; omega), e1, dc_wrapI j (by omega), ← dcL_succ]
    exact dc_build base h hb lt n hn hl D hpos hD hp hf hD0 hlast d (j + 1) k (by omega) (by omega)
theorem dc_whole (base : Nat) (h : 2 ≤ base) (hb : base ≤ 26) (lt : Bool) (n : Nat) (hn : n ≤ 2147483648) (hl : lt = true → 0 < n) :
    fleuronlaw9_SystemDecodes.l0 298 (n : Int) (base : Int) lt 0 sE (dcName lt) 1 (dcL 0) [] sE sE sE sE true [] 0 sE sE sE 0 = some true :=
  dc_build base h hb lt n hn hl (dcDig base lt 33 n) (fun k hk => dc_pos base h hb lt n hn k hk) (dcDig_len base lt 33 n) (dcDig_lt base h lt 33 n) (by rw [dcVal_fold]; exact dcDig_val base h lt 33 n (Nat.lt_of_le_of_lt hn (by decide)))
    (List.length_pos_iff.2 (dcDig_ne base lt 32 n hl)) (fun e h0 => by subst e; exact dcDig_last base h 33 n h0 (Nat.lt_of_le_of_lt hn (by decide))) base 0 298 (by omega) (by omega)
theorem SystemDecodes : fleuronlaw9_SystemDecodes.Pure := by
  intro a0 a1 a2 _ _
  refine ⟨300, ?_⟩
  have hout : fleuronlaw9_SystemDecodes.j0 300 a0 a1 a2 true = some true := by rw [fleuronlaw9_SystemDecodes.j0, if_pos rfl]; rfl
  unfold fleuronlaw9_SystemDecodes.f
  by_cases h1 : a1 < 2
  · rw [if_pos h1]; exact hout
  rw [if_neg h1]
  by_cases h2 : a1 > 26
  · rw [if_pos h2]; exact hout
  rw [if_neg h2]
  by_cases h3 : a0 < 0
  · rw [if_pos h3]; exact hout
  rw [if_neg h3]
  by_cases h4 : a0 > 2147483648
  · rw [if_pos h4]; exact hout
  rw [if_neg h4]
  obtain ⟨n, rfl⟩ := Int.eq_ofNat_of_zero_le (by omega : 0 ≤ a0)
  obtain ⟨base, rfl⟩ := Int.eq_ofNat_of_zero_le (by omega : 0 ≤ a1)
  cases a2 with
  | true =>
    rw [if_pos rfl]
    by_cases h5 : (n : Int) = 0
    · rw [beq_iff_eq.2 h5]; exact hout
    · rw [beq_eq_false_iff_ne.2 h5, fleuronlaw9_SystemDecodes.j0, if_neg (by decide)]
      simp only [fleuronlaw9_made.f, Option.bind_some]
      rw [if_pos trivial, fleuronlaw9_SystemDecodes.j1]
      exact dc_whole base (by omega) (by omega) true n (by omega) (fun _ => by omega)
  | false =>
    rw [if_neg (by decide), fleuronlaw9_SystemDecodes.j0, if_neg (by decide)]
    simp only [fleuronlaw9_made.f, Option.bind_some]
    rw [if_neg (by decide), fleuronlaw9_SystemDecodes.j1]
    exact dc_whole base (by omega) (by omega) false n (by omega) (fun h => by cases h)
end Go.Proofs.Ytalegejfellbdaa.Pure
