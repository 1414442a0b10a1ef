/- The pure part of ScopeInner: for all three numbers the printed function of the law tells true with some number of rounds. No condition. -/
import Derived.Test.YtejkbdlegnobcaaPrint13
import Derived.OpenShut
namespace Go.Proofs.Ytejkbdlegnobcaa.Pure
open Go.RowKit Go.Proofs.Ytejkbdlegnobcaa.Print Go.Proofs.YtejkbdlegnobcaaW.PrintWords Go.Proofs.YtejkbdlegnobcaaW.PrintLast Go.Proofs.YtejkbdlegnobcaaW.PrintMore

theorem siAwake : fleuronlaw15_awake.f 20 = some true := by decide +kernel

theorem bind_of {α β : Type} {x : Option α} {v : α} {f : α → Option β} {r : Option β} (hx : x = some v) (h : f v = r) : x.bind f = r := by rw [hx]; exact h
/-- The name of the law's counters. -/
def nmN : ByteArray := ⟨#[110]⟩
def cnt (i : Nat) : S38 := ⟨nmN, (i : Int), 10 * (i : Int), false⟩
def chain (n : Nat) : List S38 := (List.range n).map cnt
def want (n : Nat) : List Int := (List.range n).map fun (i : Nat) => 10 * (i : Int)
theorem chain_len (n : Nat) : (chain n).length = n := by simp [chain]
theorem want_len (n : Nat) : (want n).length = n := by simp [want]
theorem chain_succ (n : Nat) : chain (n + 1) = chain n ++ [cnt n] := by simp [chain, List.range_succ]
theorem want_succ (n : Nat) : want (n + 1) = want n ++ [10 * (n : Int)] := by simp [want, List.range_succ]
theorem chain_f2 (n : Nat) : (chain n).map S38.f2 = want n := by simp [chain, want, cnt]
theorem rd_chain (n j : Nat) (h : j < n) : rd_T38 (chain n) (j : Int) = cnt j := by
  rw [rd_T38_nat _ _ (by rw [chain_len]; exact h)]; simp [chain]
theorem inner_chain (n : Nat) : scope_inner.f (chain (n + 1)) nmN = some (n : Int) := by
  unfold scope_inner.f
  rw [chain_len, innerAt, if_pos (by rw [rd_chain _ _ (by omega)]; rfl)]
theorem clone_small (l : List S38) (h : l.length ≤ 1000) : scope_Counter_20.f l = some l := by
  unfold scope_Counter_20.f
  simp only [Option.bind_some, List.length_nil, List.nil_append]
  rw [if_pos (by omega)]

/-- All numbers of one name, where there is no other. -/
theorem values_loop (l : List S38) (nm : ByteArray) (hn : ∀ x ∈ l, x.f0 = nm) (hl : l.length ≤ 1000) (d : Nat) : ∀ (k i : Nat) (acc : List Int), acc.length = i → i ≤ l.length → l.length - i = d → d < k →
    scope_Values.l0 k nm acc l (l.length : Int) (i : Int) = some (acc ++ (l.drop i).map S38.f2) := by
  induction d with
  | zero =>
    intro k i acc ha hi hd hk
    obtain ⟨k, rfl⟩ : ∃ m, k = m + 1 := ⟨k - 1, by omega⟩
    simp only [scope_Values.l0]
    rw [if_neg (by omega), List.drop_of_length_le (by omega)]; simp
  | succ d ih =>
    intro k i acc ha hi hd hk
    obtain ⟨k, rfl⟩ : ∃ m, k = m + 1 := ⟨k - 1, by omega⟩
    have hlt : i < l.length := by omega
    simp only [scope_Values.l0]
    have hx := rd_T38_nat l i hlt
    rw [if_pos (by omega), if_pos (by omega), if_pos (by omega), if_pos (by rw [hx, hn _ (List.getElem_mem _)]), if_pos (by omega), hx]
    rw [show wrap64 ((i : Int) + 1) = ((i + 1 : Nat) : Int) from by unfold wrap64; omega]
    rw [ih k (i + 1) (acc ++ [l[i].f2]) (by simp [ha]) (by omega) (by omega) (by omega)]
    rw [List.drop_eq_getElem_cons hlt, List.map_cons, List.append_assoc]; rfl
theorem values_all (l : List S38) (nm : ByteArray) (hn : ∀ x ∈ l, x.f0 = nm) (hl : l.length ≤ 1000) (k : Nat) (hk : l.length < k) : scope_Values.f k l nm = some (l.map S38.f2) := by
  unfold scope_Values.f
  have := values_loop l nm hn hl l.length k 0 [] rfl (by omega) (by omega) hk
  simpa using this

theorem ints_loop (l : List Int) (hl : l.length ≤ 1000) (d : Nat) : ∀ (k : Nat) (i : Int), 0 ≤ i → i ≤ l.length → (l.length : Int) - i = d → d < k → fleuronalike_Ints.l0 k l l i = some true := by
  induction d with
  | zero =>
    intro k i h0 hi hd hk
    obtain ⟨k, rfl⟩ : ∃ m, k = m + 1 := ⟨k - 1, by omega⟩
    simp only [fleuronalike_Ints.l0]
    rw [if_neg (by omega)]
  | succ d ih =>
    intro k i h0 hi hd hk
    obtain ⟨k, rfl⟩ : ∃ m, k = m + 1 := ⟨k - 1, by omega⟩
    simp only [fleuronalike_Ints.l0]
    rw [if_pos (by omega), if_pos h0, if_pos (by omega), if_pos trivial, show wrap64 (i + 1) = i + 1 from by unfold wrap64; omega]
    exact ih k (i + 1) (by omega) (by omega) (by omega) (by omega)
theorem ints_self (l m : List Int) (he : l = m) (hl : l.length ≤ 1000) (k : Nat) (hk : l.length < k) : fleuronalike_Ints.f k l m = some true := by
  subst he
  unfold fleuronalike_Ints.f
  rw [if_pos rfl]
  exact ints_loop l hl l.length k 0 (by omega) (by omega) (by omega) hk

theorem contains_nil (k : Nat) (hk : 1 ≤ k) (x : Int) : slices_Contains_int_int.f k [] x = some false := by
  obtain ⟨k, rfl⟩ : ∃ m, k = m + 1 := ⟨k - 1, by omega⟩
  unfold slices_Contains_int_int.f slices_Index_int_int.f
  simp only [slices_Index_int_int.l0]
  rw [if_neg (by simp)]; rfl
theorem contains_one (k : Nat) (hk : 2 ≤ k) (y x : Int) : slices_Contains_int_int.f k [y] x = some (decide (x = y)) := by
  obtain ⟨k, rfl⟩ : ∃ m, k = m + 2 := ⟨k - 2, by omega⟩
  unfold slices_Contains_int_int.f slices_Index_int_int.f
  rw [show k + 2 = (k + 1) + 1 from rfl]
  simp only [slices_Index_int_int.l0]
  rw [if_pos (by simp), if_pos (by simp), if_pos (by simp)]
  by_cases h : x = rd [y] 0
  · rw [if_pos h]
    have : x = y := h
    simp [this]
  · rw [if_neg h]
    have : ¬ x = y := h
    rw [show wrap64 (0 + 1) = 1 from by unfold wrap64; omega, if_neg (by simp)]
    simp [this]

theorem reset_next (n : Nat) (hn : n ≤ 100) (k : Nat) (hk : 6 ≤ k) (v : Int) (c : S38) (hc : c = ⟨nmN, (n : Int), v, false⟩) : scope_Reset.f k (chain n) (n : Int) [] nmN v false false = some (chain n ++ [c]) := by
  obtain ⟨k, rfl⟩ : ∃ m, k = m + 3 := ⟨k - 3, by omega⟩
  have hj : scope_Reset.j0 (k + 3) (n : Int) (chain n) ((n : Int) - 1) false nmN v false false = some (chain n ++ [c]) := by
    simp only [scope_Reset.j0, scope_Reset.j1, scope_Reset.j2]
    rw [if_neg (by decide), if_neg (by decide), if_pos (by rw [chain_len]; omega), hc]
  unfold scope_Reset.f
  rw [clone_small _ (by rw [chain_len]; omega)]; simp only [Option.bind_some]
  cases n with
  | zero =>
    rw [show scope_inner.f (chain 0) nmN = some (-1) from rfl]; simp only [Option.bind_some]
    rw [if_neg (by decide)]; exact hj
  | succ n =>
    rw [inner_chain]; simp only [Option.bind_some]
    rw [if_pos (by omega), if_pos (by omega), if_pos (by rw [chain_len]; omega)]
    have hr : (rd_T38 (chain (n + 1)) (n : Int)).f1 = (n : Int) := by rw [rd_chain _ _ (by omega)]; rfl
    rw [if_neg (by rw [hr]; omega), hr, contains_nil _ (by omega)]; simp only [Option.bind_some]
    have e : ((n + 1 : Nat) : Int) - 1 = (n : Int) := by omega
    rw [e] at hj; exact hj

theorem delete_last (n : Nat) (hn : n ≤ 100) : scope_Counter_23.f (chain (n + 1)) (n : Int) (wrap64 ((n : Int) + 1)) = some (chain n) := by
  unfold scope_Counter_23.f
  have e : wrap64 ((n : Int) + 1) = (n : Int) + 1 := by unfold wrap64; omega
  rw [e, if_pos (by omega), if_pos rfl, if_pos (by rw [chain_len]; omega), chain_succ]
  congr 1
  rw [show ((n : Int)).toNat = n from by omega, List.eraseIdx_append_of_length_le (by rw [chain_len]; omega), chain_len]
  simp

theorem reset_sibling (n : Nat) (hn : n < 50) (k : Nat) (hk : 8 ≤ k) (s : Int) : scope_Reset.f k (chain (n + 1)) 99 [s] nmN 5 false false = some ((if s = (n : Int) then chain n else chain (n + 1)) ++ [⟨nmN, 99, 5, false⟩]) := by
  obtain ⟨k, rfl⟩ : ∃ m, k = m + 3 := ⟨k - 3, by omega⟩
  unfold scope_Reset.f
  rw [clone_small _ (by rw [chain_len]; omega)]; simp only [Option.bind_some]
  rw [inner_chain]; simp only [Option.bind_some]
  rw [if_pos (by omega), if_pos (by omega), if_pos (by rw [chain_len]; omega)]
  have hr : (rd_T38 (chain (n + 1)) (n : Int)).f1 = (n : Int) := by rw [rd_chain _ _ (by omega)]; rfl
  rw [if_neg (by rw [hr]; omega), hr, contains_one _ (by omega)]; simp only [Option.bind_some]
  by_cases h : (n : Int) = s
  · rw [decide_eq_true h, if_pos h.symm]
    simp only [scope_Reset.j0, scope_Reset.j1, scope_Reset.j2]
    rw [if_pos trivial, delete_last n (by omega)]; simp only [Option.bind_some]
    rw [if_neg (by decide), if_pos (by rw [chain_len]; omega)]
  · rw [decide_eq_false h, if_neg (fun e => h e.symm)]
    simp only [scope_Reset.j0, scope_Reset.j1, scope_Reset.j2]
    rw [if_neg (by decide), if_neg (by decide), if_pos (by rw [chain_len]; omega)]

theorem some_chain (n : Nat) (hn : n ≤ 100) : scope_some.f (chain (n + 1)) 99 nmN = some (chain (n + 1), (n : Int)) := by
  unfold scope_some.f
  rw [inner_chain]; simp only [Option.bind_some]
  rw [if_pos (by omega), clone_small _ (by rw [chain_len]; omega)]; rfl

theorem add_chain (n : Nat) (hn : n ≤ 50) (a : Int) (h0 : -1000 ≤ a) (h1 : a ≤ 1000) : scope_Add.f (chain (n + 1)) 99 nmN a false false = some ((chain (n + 1)).set n ⟨nmN, (n : Int), 10 * (n : Int) + a, false⟩) := by
  unfold scope_Add.f
  rw [some_chain n (by omega)]
  simp only [Option.bind_some, rd_chain (n + 1) n (by omega)]
  have e : wrap64 ((cnt n).f2 + a) = 10 * (n : Int) + a := by show wrap64 (10 * (n : Int) + a) = _; unfold wrap64; omega
  have e2 : (cnt n).f2 = 10 * (n : Int) := rfl
  simp only [e]
  rw [if_pos (by omega), if_pos (by rw [chain_len]; omega), if_neg (by omega), if_neg (by omega)]
  have h3 : (decide (10 * (n : Int) + a < (cnt n).f2)) = (decide (a < 0)) := by rw [decide_eq_decide, e2]; omega
  rw [if_neg (by rw [h3]; simp), show ((n : Int)).toNat = n from by omega]
  rfl
theorem put_chain (n : Nat) (hn : n ≤ 50) (a : Int) : scope_Put.f (chain (n + 1)) 99 nmN a false false = some ((chain (n + 1)).set n ⟨nmN, (n : Int), a, false⟩) := by
  unfold scope_Put.f
  rw [some_chain n (by omega)]
  simp only [Option.bind_some, rd_chain (n + 1) n (by omega)]
  rw [if_pos (by omega), if_pos (by rw [chain_len]; omega), show ((n : Int)).toNat = n from by omega]
  rfl

theorem names_chain (n : Nat) : ∀ x ∈ chain n, x.f0 = nmN := by
  intro x hx
  simp only [chain, List.mem_map] at hx
  obtain ⟨i, _, rfl⟩ := hx
  rfl
theorem names_set (n j : Nat) (y : S38) (hy : y.f0 = nmN) : ∀ x ∈ (chain n).set j y, x.f0 = nmN := by
  intro x hx
  rcases List.mem_or_eq_of_mem_set hx with h | h
  · exact names_chain n x h
  · rw [h, hy]
theorem names_append (n : Nat) (y : S38) (hy : y.f0 = nmN) : ∀ x ∈ chain n ++ [y], x.f0 = nmN := by
  intro x hx
  rcases List.mem_append.1 hx with h | h
  · exact names_chain n x h
  · rw [List.mem_singleton.1 h, hy]

theorem round_bound (s m : Int) (hm : 0 < m) (hm2 : m < 1000) : ∃ t, fleuronalike_Round.f s m = some t ∧ 0 ≤ t ∧ t < m := by
  unfold fleuronalike_Round.f
  rw [if_neg (by omega)]
  refine ⟨_, rfl, ?_⟩
  have h1 := Int.lt_tmod_of_pos s hm
  have h2 := Int.tmod_lt_of_pos s hm
  have e : wrap64 (s.tmod m + m) = s.tmod m + m := by unfold wrap64; omega
  rw [e]
  have h3 : 0 ≤ s.tmod m + m := by omega
  exact ⟨Int.tmod_nonneg m h3, Int.tmod_lt_of_pos _ hm⟩

theorem j2_true (k n : Nat) (hk : 100 ≤ k) (hn : n < 20) (a : Int) (z : List Int) (s : List S38) (hs : ∀ x ∈ s, x.f0 = nmN) (hl : s.length ≤ 50) (hz : s.map S38.f2 = z) :
    fleuronlaw15_ScopeInner.j2 k (chain (n + 1)) (want (n + 1)) ((chain (n + 1)).set n ⟨nmN, (n : Int), 10 * (n : Int) + a, false⟩) ((chain (n + 1)).set n ⟨nmN, (n : Int), a, false⟩) s ((want (n + 1)).set n (10 * (n : Int) + a)) ((want (n + 1)).set n a) z = some true := by
  obtain ⟨k, rfl⟩ : ∃ m, k = m + 1 := ⟨k - 1, by omega⟩
  have h5 : fleuronlaw15_awake.f k = some true := at_rounds (fun k => fleuronlaw15_awake.mono k) (show 20 ≤ k by omega) siAwake
  simp only [fleuronlaw15_ScopeInner.j2]
  rw [show (⟨#[110]⟩ : ByteArray) = nmN from rfl]
  rw [values_all _ _ (names_chain _) (by rw [chain_len]; omega) _ (by rw [chain_len]; omega)]; simp only [Option.bind_some]
  rw [ints_self _ _ (chain_f2 _) (by simp [chain_len]; omega) _ (by simp [chain_len]; omega)]; simp only [Option.bind_some, if_true]
  rw [values_all _ _ (names_set _ _ _ (by rfl)) (by simp [chain_len]; omega) _ (by simp [chain_len]; omega)]; simp only [Option.bind_some]
  rw [ints_self _ _ (by rw [List.map_set, chain_f2]) (by simp [chain_len]; omega) _ (by simp [chain_len]; omega)]; simp only [Option.bind_some, if_true]
  rw [values_all _ _ (names_set _ _ _ (by rfl)) (by simp [chain_len]; omega) _ (by simp [chain_len]; omega)]; simp only [Option.bind_some]
  rw [ints_self _ _ (by rw [List.map_set, chain_f2]) (by simp [chain_len]; omega) _ (by simp [chain_len]; omega)]; simp only [Option.bind_some, if_true]
  rw [values_all _ _ hs (by omega) _ (by omega)]; simp only [Option.bind_some]
  rw [ints_self _ _ hz (by simp; omega) _ (by simp; omega)]; simp only [Option.bind_some, if_true]
  rw [h5]; rfl

theorem rd_want (n j : Nat) (h : j < n) : rd (want n) (j : Int) = 10 * (j : Int) := by
  simp [rd, want, h]

theorem inner_loop (n : Nat) (hn : n < 15) (a s : Int) (h0 : -1000 ≤ a) (h1 : a ≤ 1000) (d : Nat) : ∀ (k i : Nat), i ≤ n + 1 → n + 1 - i = d → 200 + d ≤ k → fleuronlaw15_ScopeInner.l0 k ((n + 1 : Nat) : Int) a s (chain i) (want i) (i : Int) = some true := by
  induction d with
  | zero =>
    intro k i hi hd hk
    obtain ⟨k, rfl⟩ : ∃ m, k = m + 1 := ⟨k - 1, by omega⟩
    obtain rfl : i = n + 1 := by omega
    obtain ⟨t, ht, ht0, ht1⟩ := round_bound s (((n + 1 : Nat) : Int) + 1) (by omega) (by omega)
    have e1 : wrap64 (((n + 1 : Nat) : Int) + 1) = ((n + 1 : Nat) : Int) + 1 := by unfold wrap64; omega
    have e2 : wrap64 (((n + 1 : Nat) : Int) - 1) = (n : Int) := by unfold wrap64; omega
    have e3 : wrap64 (10 * (n : Int) + a) = 10 * (n : Int) + a := by unfold wrap64; omega
    simp only [fleuronlaw15_ScopeInner.l0]
    rw [if_neg (by omega), show (⟨#[110]⟩ : ByteArray) = nmN from rfl]
    refine bind_of (add_chain n (by omega) a h0 h1) ?_
    refine bind_of (put_chain n (by omega) a) ?_
    rw [e1, e2]
    refine bind_of ht ?_
    refine bind_of (reset_sibling n (by omega) k (by omega) t) ?_
    refine bind_of rfl ?_
    rw [if_pos (by simp only [List.length_nil, want_len]; omega)]
    refine bind_of (v := want (n + 1)) (by rw [List.nil_append]) ?_
    refine bind_of rfl ?_
    rw [if_pos (by simp only [List.length_nil, want_len]; omega)]
    refine bind_of (v := want (n + 1)) (by rw [List.nil_append]) ?_
    rw [if_pos (by omega), if_pos (by rw [want_len]; omega), rd_want (n + 1) n (by omega), e3, show ((n : Int)).toNat = n from by omega]
    refine bind_of rfl ?_
    rw [if_pos (by rw [want_len]; omega)]
    refine bind_of rfl ?_
    refine bind_of rfl ?_
    rw [if_pos (by simp only [List.length_nil, want_len]; omega)]
    refine bind_of (v := want (n + 1)) (by rw [List.nil_append]) ?_
    rw [if_pos (by rw [want_len]; omega)]
    by_cases hts : t = (n : Int)
    · rw [if_pos hts, if_pos hts]
      refine bind_of rfl ?_
      rw [if_pos (by rw [want_len]; omega)]
      refine bind_of rfl ?_
      rw [if_pos (by simp only [List.length_nil, List.length_take, want_len]; omega)]
      refine bind_of (v := (want (n + 1)).take n) (by rw [List.nil_append]) ?_
      rw [if_pos (by rw [List.length_take, want_len]; omega)]
      refine j2_true k n (by omega) (by omega) a _ _ (names_append _ _ rfl) (by simp [chain_len]; omega) ?_
      rw [List.map_append, chain_f2, want_succ, List.take_append_of_le_length (by rw [want_len]; omega), List.take_of_length_le (by rw [want_len]; omega)]
      rfl
    · rw [if_neg hts, if_neg hts]
      refine j2_true k n (by omega) (by omega) a _ _ (names_append _ _ rfl) (by simp [chain_len]; omega) ?_
      rw [List.map_append, chain_f2]
      rfl
  | succ d ih =>
    intro k i hi hd hk
    obtain ⟨k, rfl⟩ : ∃ m, k = m + 1 := ⟨k - 1, by omega⟩
    have e1 : wrap64 ((i : Int) + 1) = ((i + 1 : Nat) : Int) := by unfold wrap64; omega
    have e2 : wrap64 (10 * (i : Int)) = 10 * (i : Int) := by unfold wrap64; omega
    simp only [fleuronlaw15_ScopeInner.l0]
    rw [if_pos (by omega), show (⟨#[110]⟩ : ByteArray) = nmN from rfl, e2]
    refine bind_of (reset_next i (by omega) k (by omega) _ (cnt i) rfl) ?_
    rw [if_pos (by rw [want_len]; omega), e1, ← chain_succ, ← want_succ]
    exact ih k (i + 1) (by omega) (by omega) (by omega)

theorem ScopeInner : fleuronlaw15_ScopeInner.Pure := by
  intro n a s _ _ _
  refine ⟨400, ?_⟩
  have h5 : fleuronlaw15_awake.f 399 = some true := at_rounds (fun k => fleuronlaw15_awake.mono k) (by omega) siAwake
  have hj : ∀ b : Bool, (b = false → 1 ≤ n ∧ n ≤ 15 ∧ -1000 ≤ a ∧ a ≤ 1000) → fleuronlaw15_ScopeInner.j0 400 n a s b = some true := by
    intro b hb
    cases b with
    | true => simp only [fleuronlaw15_ScopeInner.j0]; rw [if_pos trivial, h5]; rfl
    | false =>
      obtain ⟨h1, h2, h3, h4⟩ := hb rfl
      obtain ⟨m, rfl⟩ : ∃ m : Nat, n = ((m + 1 : Nat) : Int) := ⟨(n - 1).toNat, by omega⟩
      simp only [fleuronlaw15_ScopeInner.j0]
      rw [if_neg (by decide)]
      exact inner_loop m (by omega) a s h3 h4 (m + 1) 399 0 (by omega) (by omega) (by omega)
  unfold fleuronlaw15_ScopeInner.f
  by_cases c1 : n < 1
  · rw [if_pos c1]; exact hj true (fun h => by cases h)
  · rw [if_neg c1]
    by_cases c2 : n > 15
    · rw [if_pos c2]; exact hj true (fun h => by cases h)
    · rw [if_neg c2]
      by_cases c3 : a < -1000
      · rw [if_pos c3]; exact hj true (fun h => by cases h)
      · rw [if_neg c3]; exact hj _ (fun h => ⟨by omega, by omega, by omega, by have := of_decide_eq_false h; omega⟩)

end Go.Proofs.Ytejkbdlegnobcaa.Pure
