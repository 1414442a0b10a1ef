/- The pure part of ScopeBegins: for all three lists of numbers the printed function of the law tells true with some number of rounds. No condition. -/
import Derived.Test.YtejkbdlegnobcaaPrint15
import Derived.OpenShut
namespace Go.Proofs.Ytejkbdlegnobcaa.Pure
open Go.RowKit Go.Proofs.Ytejkbdlegnobcaa.Print Go.Proofs.YtejkbdlegnobcaaW.PrintWords Go.Proofs.YtejkbdlegnobcaaW.PrintLast Go.Proofs.YtejkbdlegnobcaaW.PrintMore

theorem sbAwake : fleuronlaw15_awake.f 20 = some true := by decide +kernel
theorem sbBind {α β : Type} {x : Option α} {v : α} {f : α → Option β} {r : Option β} (hx : x = some v) (h : f v = r) : x.bind f = r := by rw [hx]; exact h
theorem sbWrap (i n : Nat) (h : i < n) (hn : n ≤ 1000) : wrap64 ((i : Int) + 1) = ((i + 1 : Nat) : Int) := by unfold wrap64; omega
theorem sbRd (A B : List S38) (b : S38) : rd_T38 (A ++ b :: B) (A.length : Int) = b := by
  rw [rd_T38_nat _ _ (by simp)]; simp
theorem sbSet (A B : List S38) (b x : S38) : (A ++ b :: B).set ((A.length : Nat) : Int).toNat x = (A ++ [x]) ++ B := by
  simp

/-- Is there one of this name and maker? -/
def hasK (l : List S38) (c : S38) : Bool := l.any (sameKey c.f0 c.f1)
/-- A counter that is not there yet is put behind. -/
def ins (l : List S38) (c : S38) : List S38 := if hasK l c = true then l else l ++ [c]
theorem ins_len (l : List S38) (c : S38) : (ins l c).length ≤ l.length + 1 := by
  unfold ins; split <;> simp
theorem ins_old {l : List S38} {c : S38} (h : hasK l c = true) : ins l c = l := by unfold ins; rw [if_pos h]
theorem ins_new {l : List S38} {c : S38} (h : ¬ hasK l c = true) : ins l c = l ++ [c] := by unfold ins; rw [if_neg h]
theorem insAll_len : ∀ (s l : List S38), (s.foldl ins l).length ≤ l.length + s.length
  | [], l => by simp
  | c :: s, l => by
    have h1 := insAll_len s (ins l c)
    have h2 := ins_len l c
    simp only [List.foldl_cons, List.length_cons]
    omega
/-- A counter as it was last. -/
def renew (l : List S38) (x : S38) : S38 := if finalAt x.f0 x.f1 l l.length ≥ 0 then ⟨x.f0, x.f1, (rd_T38 l (finalAt x.f0 x.f1 l l.length)).f2, x.f3⟩ else x
def putN (c : S38) (x : S38) : S38 := if x.f0.toList = c.f0.toList ∧ x.f1 = c.f1 then ⟨x.f0, x.f1, c.f2, x.f3⟩ else x
theorem finalAt_lt (name : ByteArray) (of : Int) (l : List S38) : ∀ k : Nat, finalAt name of l k < (k : Int)
  | 0 => by rw [finalAt]; omega
  | k + 1 => by
    have ih := finalAt_lt name of l k
    rw [finalAt]; split <;> omega
theorem finalAt_more (name : ByteArray) (of : Int) (l : List S38) (c : S38) : ∀ k : Nat, k ≤ l.length → finalAt name of (l ++ [c]) k = finalAt name of l k
  | 0, _ => rfl
  | k + 1, h => by
    have e : rd_T38 (l ++ [c]) (k : Int) = rd_T38 l (k : Int) := by
      rw [rd_T38_nat _ _ (by simp; omega), rd_T38_nat _ _ (by omega), List.getElem_append_left (by omega)]
    rw [finalAt, finalAt, e, finalAt_more name of l c k (by omega)]
theorem renew_more (l : List S38) (c x : S38) : putN c (renew l x) = renew (l ++ [c]) x := by
  have e1 : (renew l x).f0 = x.f0 := by unfold renew; split <;> rfl
  have e2 : (renew l x).f1 = x.f1 := by unfold renew; split <;> rfl
  have e3 : (renew l x).f3 = x.f3 := by unfold renew; split <;> rfl
  have hl : (l ++ [c]).length = l.length + 1 := by simp
  have hr : rd_T38 (l ++ [c]) (l.length : Int) = c := sbRd l [] c
  have hF : finalAt x.f0 x.f1 (l ++ [c]) (l ++ [c]).length = if sameKey x.f0 x.f1 c = true then (l.length : Int) else finalAt x.f0 x.f1 l l.length := by
    rw [hl, finalAt, hr, finalAt_more _ _ _ _ _ (Nat.le_refl _)]
  unfold putN
  rw [e1, e2, e3]
  by_cases hk : x.f0.toList = c.f0.toList ∧ x.f1 = c.f1
  · rw [if_pos hk]
    have hs : sameKey x.f0 x.f1 c = true := by simp [sameKey, hk.1, hk.2]
    rw [if_pos hs] at hF
    unfold renew
    rw [hF, if_pos (by omega), hr]
  · rw [if_neg hk]
    have hs : ¬ sameKey x.f0 x.f1 c = true := by
      intro h; apply hk
      simp only [sameKey, Bool.and_eq_true, beq_iff_eq] at h
      exact ⟨h.1.symm, h.2.symm⟩
    rw [if_neg hs] at hF
    unfold renew
    rw [hF]
    have hlt := finalAt_lt x.f0 x.f1 l l.length
    by_cases h0 : finalAt x.f0 x.f1 l l.length ≥ 0
    · rw [if_pos h0, if_pos h0]
      have e : rd_T38 (l ++ [c]) (finalAt x.f0 x.f1 l l.length) = rd_T38 l (finalAt x.f0 x.f1 l l.length) := by
        obtain ⟨m, hm⟩ := Int.eq_ofNat_of_zero_le h0
        rw [hm] at hlt ⊢
        rw [rd_T38_nat _ _ (by simp; omega), rd_T38_nat _ _ (by omega), List.getElem_append_left (by omega)]
      rw [e]
    · rw [if_neg h0, if_neg h0]
theorem findAt_iff (name : ByteArray) (of : Int) : ∀ (l : List S38) (k : Nat), (findAt name of l k < 0) ↔ l.any (sameKey name of) = false
  | [], k => by simp [findAt]
  | x :: l, k => by
    rw [findAt]
    by_cases h : sameKey name of x = true
    · rw [if_pos h]; simp [h]
    · rw [if_neg h, findAt_iff name of l (k + 1)]; simp [h]

/-- The name of a number. -/
def sbRound (a : Int) : Int := Int.tmod (wrap64 ((Int.tmod a 6) + 6)) 6
def nm (a : Int) : S38 := ⟨rdOf ByteArray.empty ([(⟨#[110]⟩ : ByteArray), (⟨#[109]⟩ : ByteArray)] : List ByteArray) (Int.tmod (sbRound a) 2), wrap64 (Int.tdiv (sbRound a) 2), 0, false⟩
theorem nm_some (a : Int) : fleuronlaw15_ScopeBegins_1.f a = some ((nm a).f0, (nm a).f1, (nm a).f2, (nm a).f3) := by
  have hr : fleuronalike_Round.f a 6 = some (sbRound a) := by unfold fleuronalike_Round.f; rw [if_neg (by decide)]; rfl
  have h0 : 0 ≤ sbRound a := by
    have t1 := Int.tmod_lt_of_pos a (show (0 : Int) < 6 by decide)
    have t2 := Int.lt_tmod_of_pos a (show (0 : Int) < 6 by decide)
    have : wrap64 (Int.tmod a 6 + 6) = Int.tmod a 6 + 6 := by unfold wrap64; omega
    unfold sbRound; rw [this]; exact Int.tmod_nonneg _ (by omega)
  have h1 : 0 ≤ Int.tmod (sbRound a) 2 := Int.tmod_nonneg _ h0
  have h2 := Int.tmod_lt_of_pos (sbRound a) (show (0 : Int) < 2 by decide)
  unfold fleuronlaw15_ScopeBegins_1.f
  refine sbBind hr ?_
  refine sbBind rfl ?_
  rw [if_pos (by omega), if_pos (by simp only [List.length_cons, List.length_nil]; omega)]
  rfl

theorem has_loop (l : List S38) (hl : l.length ≤ 1000) (c : S38) : ∀ (d k i : Nat), i + d = l.length → d < k → fleuronlaw15_ScopeBegins_2.l0 k l (i : Int) c.f0 c.f1 c.f2 c.f3 = some ((l.drop i).any (sameKey c.f0 c.f1))
  | d, 0, i, _, h => by omega
  | 0, k + 1, i, hd, _ => by
    simp only [fleuronlaw15_ScopeBegins_2.l0]
    rw [if_neg (by omega), List.drop_of_length_le (by omega)]; rfl
  | d + 1, k + 1, i, hd, hk => by
    have hlt : i < l.length := by omega
    simp only [fleuronlaw15_ScopeBegins_2.l0]
    rw [if_pos (by omega), if_pos (by omega), rd_T38_nat l i hlt, sbWrap i _ hlt hl, has_loop l hl c d k (i + 1) (by omega) (by omega)]
    rw [List.drop_eq_getElem_cons hlt, List.any_cons]
    by_cases h1 : l[i].f0.toList = c.f0.toList
    · rw [if_pos h1]
      by_cases h2 : l[i].f1 = c.f1
      · rw [if_pos h2]; simp [sameKey, h1, h2]
      · rw [if_neg h2]; simp [sameKey, h2]
    · rw [if_neg h1]; simp [sameKey, h1]
theorem has_f (l : List S38) (hl : l.length ≤ 100) (c : S38) (k : Nat) (hk : l.length < k) : fleuronlaw15_ScopeBegins_2.f k l c.f0 c.f1 c.f2 c.f3 = some (hasK l c) := by
  unfold fleuronlaw15_ScopeBegins_2.f
  have := has_loop l (by omega) c l.length k 0 (by omega) hk
  simpa [hasK] using this

/-- The second half of Begin. -/
theorem begin_l1 (l : List S38) : ∀ (B A : List S38) (k n : Nat), A.length + B.length = n → n ≤ 1000 → B.length < k → scope_Begin.l1 k l (A ++ B) (n : Int) (A.length : Int) = some (A ++ B.map (renew l))
  | B, A, 0, n, _, _, h => by omega
  | [], A, k + 1, n, hn, _, _ => by
    simp only [scope_Begin.l1]
    simp at hn
    rw [if_neg (by omega)]; simp
  | b :: B, A, k + 1, n, hn, hs, hk => by
    simp only [List.length_cons] at hn hk
    have ih := fun x => begin_l1 l B (A ++ [x]) k n (by simp; omega) hs (by omega)
    simp only [scope_Begin.l1]
    have e : ((A.length : Int)) < (((A ++ b :: B).length : Nat) : Int) := by rw [List.length_append, List.length_cons]; omega
    rw [if_pos (by omega), if_pos (by omega), if_pos e, sbRd, sbWrap _ n (by omega) hs]
    refine sbBind rfl ?_
    have hlt := finalAt_lt b.f0 b.f1 l l.length
    by_cases h0 : finalAt b.f0 b.f1 l l.length ≥ 0
    · rw [if_pos h0, if_pos h0, if_pos hlt, sbSet]
      have hx : renew l b = ⟨b.f0, b.f1, (rd_T38 l (finalAt b.f0 b.f1 l l.length)).f2, b.f3⟩ := by unfold renew; rw [if_pos h0]
      rw [List.map_cons, hx]
      have := ih ⟨b.f0, b.f1, (rd_T38 l (finalAt b.f0 b.f1 l l.length)).f2, b.f3⟩
      simpa using this
    · rw [if_neg h0]
      have hx : renew l b = b := by unfold renew; rw [if_neg h0]
      rw [List.map_cons, hx]
      have := ih b
      simpa using this
theorem begin_l0 (l : List S38) : ∀ (B A out : List S38) (k n : Nat), A.length + B.length = n → n ≤ 100 → out.length + B.length ≤ 100 → out.length + B.length + B.length + 1 < k →
    scope_Begin.l0 k l out (A ++ B) (n : Int) (A.length : Int) = some ((B.foldl ins out).map (renew l))
  | B, A, out, 0, n, _, _, _, h => by omega
  | [], A, out, k + 1, n, hn, hs, ho, hk => by
    simp only [scope_Begin.l0]
    simp at hn ho hk
    rw [if_neg (by omega)]
    have := begin_l1 l out [] k out.length (by simp) (by omega) (by omega)
    simpa using this
  | b :: B, A, out, k + 1, n, hn, hs, ho, hk => by
    simp only [List.length_cons] at hn ho hk
    have hi := ins_len out b
    have ih := begin_l0 l B (A ++ [b]) (ins out b) k n (by simp; omega) hs (by omega) (by omega)
    simp only [scope_Begin.l0]
    have e : ((A.length : Int)) < (((A ++ b :: B).length : Nat) : Int) := by rw [List.length_append, List.length_cons]; omega
    rw [if_pos (by omega), if_pos (by omega), if_pos e, sbRd, sbWrap _ n (by omega) (by omega)]
    refine sbBind rfl ?_
    rw [List.foldl_cons]
    by_cases h : hasK out b = true
    · rw [if_neg (by rw [findAt_iff]; unfold hasK at h; simp [h])]
      have hx : ins out b = out := by unfold ins; rw [if_pos h]
      rw [hx] at ih ⊢
      simpa using ih
    · rw [if_pos (by rw [findAt_iff]; unfold hasK at h; simpa using h), if_pos (by omega)]
      have hx : ins out b = out ++ [b] := by unfold ins; rw [if_neg h]
      rw [hx] at ih ⊢
      simpa using ih
theorem begin_f (p s l : List S38) (hp : p.length ≤ 20) (hs : s.length ≤ 20) (k : Nat) (hk : 100 ≤ k) : scope_Begin.f k p s l [] = some ((s.foldl ins p).map (renew l)) := by
  unfold scope_Begin.f
  have hc : scope_Counter_20.f p = some p := by
    unfold scope_Counter_20.f
    refine sbBind rfl ?_
    rw [if_pos (by simp; omega)]; simp
  refine sbBind hc ?_
  have := begin_l0 l s [] p k s.length (by simp) (by omega) (by omega) (by omega)
  simpa using this

def to55 (x : S38) : S55 := ⟨x.f0, x.f1, x.f2, x.f3⟩
theorem flat_loop : ∀ (B A : List S38) (k n : Nat), A.length + B.length = n → n ≤ 1000 → B.length < k → fleuronlaw15_flat.l0 k (A ++ B) (A.map to55) (A.length : Int) = some ((A ++ B).map to55)
  | B, A, 0, n, _, _, h => by omega
  | [], A, k + 1, n, hn, _, _ => by
    simp only [fleuronlaw15_flat.l0]
    rw [if_neg (by simp)]; simp
  | b :: B, A, k + 1, n, hn, hs, hk => by
    simp only [List.length_cons] at hn hk
    have ih := flat_loop B (A ++ [b]) k n (by simp; omega) hs (by omega)
    simp only [fleuronlaw15_flat.l0]
    have e : ((A.length : Int)) < (((A ++ b :: B).length : Nat) : Int) := by rw [List.length_append, List.length_cons]; omega
    rw [if_pos e, if_pos (by omega), if_pos (by simp; omega), sbRd, sbWrap _ n (by omega) hs]
    simp only [List.append_assoc, List.singleton_append, List.length_append, List.length_cons, List.length_nil, Nat.zero_add, List.map_append, List.map_cons, List.map_nil] at ih ⊢
    exact ih
theorem flat_f (l : List S38) (hl : l.length ≤ 100) (k : Nat) (hk : l.length < k) : fleuronlaw15_flat.f k l = some (l.map to55) := by
  unfold fleuronlaw15_flat.f
  have := flat_loop l [] k l.length (by simp) (by omega) hk
  simpa using this
theorem same_loop (l : List S55) (hl : l.length ≤ 1000) : ∀ (d k i : Nat), i + d = l.length → d < k → fleuronlaw15_same.l0 k l l (i : Int) = some true
  | d, 0, i, _, h => by omega
  | 0, k + 1, i, hd, _ => by
    simp only [fleuronlaw15_same.l0]
    rw [if_neg (by omega)]
  | d + 1, k + 1, i, hd, hk => by
    have hlt : i < l.length := by omega
    simp only [fleuronlaw15_same.l0]
    rw [if_pos (by omega), if_pos (by omega), if_pos (by omega), sbWrap i _ hlt hl, if_neg (by simp)]
    exact same_loop l hl d k (i + 1) (by omega) (by omega)
theorem same_f (l : List S55) (hl : l.length ≤ 100) (k : Nat) (hk : l.length < k) : fleuronlaw15_same.f k l l = some true := by
  unfold fleuronlaw15_same.f
  rw [if_pos rfl]
  exact same_loop l (by omega) l.length k 0 (by omega) hk
theorem awake_f (k : Nat) (hk : 20 ≤ k) : fleuronlaw15_awake.f k = some true := at_rounds (fun k => fleuronlaw15_awake.mono k) hk sbAwake

theorem sb_rd (x : List Int) (i : Nat) (h : i < x.length) : rd x (i : Int) = x[i] := by
  unfold rd; simp [List.getD_eq_getElem?_getD, h]

/-- The innermost loop: all of one name and maker get its number. -/
theorem sb_l3 (x2 : List Int) (p s l : List S38) (c : S38) (x15 : Int) (r : Option Bool) : ∀ (B A : List S38) (k n : Nat), A.length + B.length = n → n ≤ 100 → B.length < k →
    (fleuronlaw15_ScopeBegins.l2 (k - B.length - 1) x2 p s l (A ++ B.map (putN c)) (wrap64 (x15 + 1)) = r) →
    fleuronlaw15_ScopeBegins.l3 k x2 p s l (A ++ B) x15 (A.length : Int) c.f0 c.f1 c.f2 c.f3 = r
  | B, A, 0, n, _, _, h, _ => by omega
  | [], A, k + 1, n, hn, _, _, h => by
    rw [fleuronlaw15_ScopeBegins.l3, if_neg (by simp)]
    simpa using h
  | b :: B, A, k + 1, n, hn, hs, hk, h => by
    simp only [List.length_cons] at hn hk h
    have ih := fun x => sb_l3 x2 p s l c x15 r B (A ++ [x]) k n (by simp; omega) hs (by omega)
    have e : ((A.length : Int)) < (((A ++ b :: B).length : Nat) : Int) := by rw [List.length_append, List.length_cons]; omega
    have e1 : k + 1 - (B.length + 1) - 1 = k - B.length - 1 := by omega
    rw [e1] at h
    rw [fleuronlaw15_ScopeBegins.l3, if_pos e, if_pos (by omega), sbRd, sbWrap _ n (by omega) (by omega), sbSet]
    have key : ∀ x, putN c b = x → fleuronlaw15_ScopeBegins.l3 k x2 p s l (A ++ [x] ++ B) x15 ((A.length + 1 : Nat) : Int) c.f0 c.f1 c.f2 c.f3 = r := by
      intro x hx
      have := ih x (by rw [List.map_cons, hx] at h; simpa using h)
      simpa using this
    by_cases h1 : b.f0.toList = c.f0.toList
    · rw [if_pos h1]
      by_cases h2 : b.f1 = c.f1
      · rw [if_pos h2]
        exact key _ (by unfold putN; rw [if_pos ⟨h1, h2⟩])
      · rw [if_neg h2]
        have := key b (by unfold putN; rw [if_neg (fun h => h2 h.2)])
        simpa using this
    · rw [if_neg h1]
      have := key b (by unfold putN; rw [if_neg (fun h => h1 h.1)])
      simpa using this

theorem sb_end (p s l : List S38) (hp : p.length ≤ 20) (hs : s.length ≤ 20) (x2 : List Int) (x15 : Int) (hx : ¬ x15 < (x2.length : Int)) (k : Nat) (hk : 200 ≤ k) :
    fleuronlaw15_ScopeBegins.l2 (k + 1) x2 p s l ((s.foldl ins p).map (renew l)) x15 = some true := by
  have hl := insAll_len s p
  rw [fleuronlaw15_ScopeBegins.l2, if_neg hx]
  refine sbBind (begin_f p s l hp hs k (by omega)) ?_
  refine sbBind (flat_f _ (by simp; omega) k (by simp; omega)) ?_
  refine sbBind (flat_f _ (by simp; omega) k (by simp; omega)) ?_
  refine sbBind (same_f _ (by simp; omega) k (by simp; omega)) ?_
  rw [if_pos rfl]
  exact sbBind (awake_f k (by omega)) rfl
theorem sb_l2 (p s : List S38) (hp : p.length ≤ 20) (hs : s.length ≤ 20) (x2 : List Int) (hx2 : x2.length ≤ 20) : ∀ (d i k : Nat) (l : List S38), i + d = x2.length → l.length ≤ i → 200 + d * 50 < k →
    fleuronlaw15_ScopeBegins.l2 k x2 p s l ((s.foldl ins p).map (renew l)) (i : Int) = some true
  | d, i, 0, l, _, _, h => by omega
  | 0, i, k + 1, l, hd, hl, hk => sb_end p s l hp hs x2 i (by omega) k (by omega)
  | d + 1, i, k + 1, l, hd, hl, hk => by
    have hlen := insAll_len s p
    have hlt : i < x2.length := by omega
    rw [fleuronlaw15_ScopeBegins.l2, if_pos (by omega), if_pos (by omega), sb_rd x2 i hlt]
    refine sbBind (nm_some _) ?_
    refine sbBind (has_f l (by omega) (nm x2[i]) k (by omega)) ?_
    by_cases h : hasK l (nm x2[i]) = true
    · rw [if_pos h, sbWrap i _ hlt (by omega)]
      exact sb_l2 p s hp hs x2 hx2 d (i + 1) k l (by omega) (by omega) (by omega)
    · rw [if_neg h]
      refine sbBind (nm_some _) ?_
      show (if l.length < 3518437208883 then _ else none) = _
      rw [if_pos (by omega)]
      obtain ⟨c, hc⟩ : ∃ c : S38, c = ⟨(nm x2[i]).f0, (nm x2[i]).f1, wrap64 (10 + (i : Int)), (nm x2[i]).f3⟩ := ⟨_, rfl⟩
      have h3 := sb_l3 x2 p s (l ++ [c]) c (i : Int) (some true) ((s.foldl ins p).map (renew l)) [] k _ rfl (by simp; omega) (by simp; omega) (by
        rw [sbWrap i _ hlt (by omega)]
        have hm : ((s.foldl ins p).map (renew l)).map (putN c) = (s.foldl ins p).map (renew (l ++ [c])) := by
          rw [List.map_map]
          exact List.map_congr_left (fun x _ => renew_more l c x)
        rw [List.nil_append, hm]
        exact sb_l2 p s hp hs x2 hx2 d (i + 1) _ (l ++ [c]) (by omega) (by simp; omega) (by simp; omega))
      rw [hc] at h3
      exact h3
theorem sb_l1 (p : List S38) (hp : p.length ≤ 10) (x1 x2 : List Int) (hx1 : x1.length ≤ 10) (hx2 : x2.length ≤ 10) : ∀ (d i k : Nat) (s : List S38), i + d = x1.length → s.length ≤ i → 800 + d < k →
    fleuronlaw15_ScopeBegins.l1 k x1 x2 p s (s.foldl ins p) (i : Int) = some true
  | d, i, 0, s, _, _, h => by omega
  | 0, i, k + 1, s, hd, hl, hk => by
    rw [fleuronlaw15_ScopeBegins.l1, if_neg (by omega)]
    have h := sb_l2 p s (by omega) (by omega) x2 (by omega) x2.length 0 k [] (by omega) (by simp) (by omega)
    have e : (s.foldl ins p).map (renew []) = s.foldl ins p := by
      have : ∀ x, renew [] x = x := fun x => by unfold renew; rw [if_neg (by simp [finalAt])]
      rw [List.map_congr_left (g := id) (fun x _ => this x), List.map_id]
    rw [e] at h
    exact h
  | d + 1, i, k + 1, s, hd, hl, hk => by
    have hlen := insAll_len s p
    have hlt : i < x1.length := by omega
    rw [fleuronlaw15_ScopeBegins.l1, if_pos (by omega), if_pos (by omega), sb_rd x1 i hlt]
    refine sbBind (nm_some _) ?_
    refine sbBind (has_f s (by omega) (nm x1[i]) k (by omega)) ?_
    by_cases h : hasK s (nm x1[i]) = true
    · rw [if_pos h, sbWrap i _ hlt (by omega)]
      exact sb_l1 p hp x1 x2 hx1 hx2 d (i + 1) k s (by omega) (by omega) (by omega)
    · rw [if_neg h]
      refine sbBind (nm_some _) ?_
      show (if s.length < 3518437208883 then _ else none) = _
      rw [if_pos (by omega)]
      refine sbBind rfl ?_
      refine sbBind (nm_some _) ?_
      refine sbBind (has_f (s.foldl ins p) (by omega) (nm x1[i]) k (by omega)) ?_
      have hf : (s ++ [nm x1[i]]).foldl ins p = ins (s.foldl ins p) (nm x1[i]) := by rw [List.foldl_append]; rfl
      have ih := sb_l1 p hp x1 x2 hx1 hx2 d (i + 1) k (s ++ [nm x1[i]]) (by omega) (by simp; omega) (by omega)
      rw [hf] at ih
      by_cases h2 : hasK (s.foldl ins p) (nm x1[i]) = true
      · rw [if_pos h2, sbWrap i _ hlt (by omega)]
        rw [ins_old h2] at ih
        exact ih
      · rw [if_neg h2]
        refine sbBind (nm_some _) ?_
        show (if (s.foldl ins p).length < 3518437208883 then _ else none) = _
        rw [if_pos (by omega), sbWrap i _ hlt (by omega)]
        rw [ins_new h2] at ih
        exact ih
theorem sb_l0 (x0 x1 x2 : List Int) (hx0 : x0.length ≤ 10) (hx1 : x1.length ≤ 10) (hx2 : x2.length ≤ 10) : ∀ (d i k : Nat) (p : List S38), i + d = x0.length → p.length ≤ i → 900 + d < k →
    fleuronlaw15_ScopeBegins.l0 k x0 x1 x2 p (i : Int) = some true
  | d, i, 0, p, _, _, h => by omega
  | 0, i, k + 1, p, hd, hl, hk => by
    rw [fleuronlaw15_ScopeBegins.l0, if_neg (by omega)]
    refine sbBind rfl ?_
    show (if ([] : List S38).length + p.length < 3518437208883 then _ else none) = _
    rw [if_pos (by simp; omega)]
    exact sb_l1 p (by omega) x1 x2 hx1 hx2 x1.length 0 k [] (by omega) (by simp) (by omega)
  | d + 1, i, k + 1, p, hd, hl, hk => by
    have hlt : i < x0.length := by omega
    rw [fleuronlaw15_ScopeBegins.l0, if_pos (by omega), if_pos (by omega), sb_rd x0 i hlt]
    refine sbBind (nm_some _) ?_
    refine sbBind (has_f p (by omega) (nm x0[i]) k (by omega)) ?_
    by_cases h : hasK p (nm x0[i]) = true
    · rw [if_pos h, sbWrap i _ hlt (by omega)]
      exact sb_l0 x0 x1 x2 hx0 hx1 hx2 d (i + 1) k p (by omega) (by omega) (by omega)
    · rw [if_neg h]
      refine sbBind (nm_some _) ?_
      show (if p.length < 3518437208883 then _ else none) = _
      rw [if_pos (by omega), sbWrap i _ hlt (by omega)]
      exact sb_l0 x0 x1 x2 hx0 hx1 hx2 d (i + 1) k _ (by omega) (by simp; omega) (by omega)

theorem ScopeBegins : fleuronlaw15_ScopeBegins.Pure := by
  intro l0 l1 l2 _ _ _ _ _ _ _ _ _
  refine ⟨1000, ?_⟩
  unfold fleuronlaw15_ScopeBegins.f
  have hout : fleuronlaw15_ScopeBegins.j0 1000 l0 l1 l2 true = some true := by
    rw [fleuronlaw15_ScopeBegins.j0, if_pos rfl]
    exact sbBind (awake_f _ (by omega)) rfl
  by_cases h0 : (l0.length : Int) > 8
  · rw [if_pos h0]; exact hout
  · rw [if_neg h0]
    by_cases h1 : (l1.length : Int) > 8
    · rw [if_pos h1]; exact hout
    · rw [if_neg h1]
      by_cases h2 : (l2.length : Int) > 8
      · rw [decide_eq_true h2]; exact hout
      · rw [decide_eq_false h2, fleuronlaw15_ScopeBegins.j0, if_neg (by decide)]
        exact sb_l0 l0 l1 l2 (by omega) (by omega) (by omega) l0.length 0 999 [] (by omega) (by simp) (by omega)
end Go.Proofs.Ytejkbdlegnobcaa.Pure
