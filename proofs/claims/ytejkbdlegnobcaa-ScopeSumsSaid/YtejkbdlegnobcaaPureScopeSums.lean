/- The pure part of ScopeSums: for every start and every list of numbers the printed function of the law tells true with some number of rounds. No condition. -/
import Derived.Test.YtejkbdlegnobcaaPrint12
import Derived.OpenShut
namespace Go.Proofs.Ytejkbdlegnobcaa.Pure
open Go.RowKit Go.Proofs.Ytejkbdlegnobcaa.Print Go.Proofs.YtejkbdlegnobcaaW.PrintWords Go.Proofs.YtejkbdlegnobcaaW.PrintLast Go.Proofs.YtejkbdlegnobcaaW.PrintMore

theorem ssAwake : fleuronlaw15_awake.f 20 = some true := by decide +kernel

/-- The one counter of the law. -/
def cnt (v : Int) : S38 := ⟨⟨#[110]⟩, 1, v, false⟩
theorem rd_cnt (v : Int) : rd_T38 [cnt v] 0 = cnt v := rfl
theorem cnt_f2 (v : Int) : (cnt v).f2 = v := rfl
theorem inner_cnt (v : Int) : scope_inner.f [cnt v] ⟨#[110]⟩ = some 0 := by
  show some (if (rd_T38 [cnt v] 0).f0.toList = _ then (0 : Int) else -1) = some 0
  rw [if_pos (by rfl)]
theorem value_cnt (v : Int) : scope_Value.f [cnt v] ⟨#[110]⟩ = some (v, true) := by
  unfold scope_Value.f
  rw [inner_cnt]
  rfl
theorem some_cnt (v : Int) : scope_some.f [cnt v] 2 ⟨#[110]⟩ = some ([cnt v], 0) := by
  unfold scope_some.f
  rw [inner_cnt]
  rfl
/-- The sum, as long as it has 32 digits. -/
def sum32 (v k : Int) : Int := if v + k ≥ -2147483648 ∧ v + k < 2147483648 then v + k else v
theorem add_cnt (v k : Int) (hv0 : -2147483648 ≤ v) (hv : v < 2147483648) (hk0 : -2147483648 ≤ k) (hk : k ≤ 2147483647) :
    scope_Add.f [cnt v] 2 ⟨#[110]⟩ k false false = some [cnt (sum32 v k)] := by
  unfold scope_Add.f
  rw [some_cnt]
  have e1 : wrap64 (v + k) = v + k := by unfold wrap64; omega
  simp only [Option.bind_some, rd_cnt, cnt_f2, e1]
  rw [if_pos (by omega), if_pos (by simp)]
  unfold sum32
  by_cases h1 : v + k < -2147483648
  · rw [if_pos h1, if_neg (by omega)]
  · rw [if_neg h1]
    by_cases h2 : v + k > 2147483647
    · rw [if_pos h2, if_neg (by omega)]
    · have h3 : (decide (v + k < v)) = (decide (k < 0)) := by rw [decide_eq_decide]; omega
      have h4 : v + k ≥ -2147483648 ∧ v + k < 2147483648 := by omega
      rw [if_neg h2, if_neg (by rw [h3]; simp), if_pos h4]
      rfl
theorem reset_cnt (v : Int) (k : Nat) (hk : 6 ≤ k) : scope_Reset.f k ([] : List S38) 1 ([] : List Int) ⟨#[110]⟩ v false false = some [cnt v] := by
  obtain ⟨k, rfl⟩ : ∃ m, k = m + 3 := ⟨k - 3, by omega⟩
  rfl

theorem sums_loop (l : List Int) (d : Nat) : ∀ (k : Nat) (v i : Int), -2147483648 ≤ v → v < 2147483648 → 0 ≤ i → l.length ≤ 40 → i ≤ l.length → (l.length : Int) - i = d → 2 * d + 30 ≤ k →
    fleuronlaw15_ScopeSums.l0 k l [cnt v] v i = some true := by
  induction d with
  | zero =>
    intro k v i hv0 hv hi hl hil hd hk
    obtain ⟨k, rfl⟩ : ∃ m, k = m + 1 := ⟨k - 1, by omega⟩
    have h5 : fleuronlaw15_awake.f k = some true := at_rounds (fun k => fleuronlaw15_awake.mono k) (show 20 ≤ k by omega) ssAwake
    simp only [fleuronlaw15_ScopeSums.l0]
    rw [if_neg (by omega), h5]; rfl
  | succ d ih =>
    intro k v i hv0 hv hi hl hil hd hk
    obtain ⟨k, rfl⟩ : ∃ m, k = m + 2 := ⟨k - 2, by omega⟩
    obtain ⟨m, hm⟩ : ∃ m, mx (mn (rd l i) 2147483647) (-2147483648) = m := ⟨_, rfl⟩
    have hm0 : -2147483648 ≤ m ∧ m ≤ 2147483647 := by rw [← hm]; unfold mx mn; split <;> split <;> omega
    have e1 : wrap64 (v + m) = v + m := by unfold wrap64; omega
    have e2 : wrap64 (i + 1) = i + 1 := by unfold wrap64; omega
    have hs0 : -2147483648 ≤ sum32 v m := by unfold sum32; split <;> omega
    have hs1 : sum32 v m < 2147483648 := by unfold sum32; split <;> omega
    have hr := ih k (sum32 v m) (i + 1) hs0 hs1 (by omega) hl (by omega) (by omega) (by omega)
    have hj : ∀ b : Bool, b = decide (v + m ≥ -2147483648 ∧ v + m < 2147483648) → fleuronlaw15_ScopeSums.j2 (k + 1) l [cnt (sum32 v m)] v i m b = some true := by
      intro b hb
      cases b with
      | true =>
        have h1 := of_decide_eq_true hb.symm
        have h2 : sum32 v m = v + m := by unfold sum32; rw [if_pos h1]
        simp only [fleuronlaw15_ScopeSums.j2]
        rw [value_cnt, e1, e2, h2]
        rw [h2] at hr
        simp [hr]
      | false =>
        have h1 := of_decide_eq_false hb.symm
        have h2 : sum32 v m = v := by unfold sum32; rw [if_neg h1]
        simp only [fleuronlaw15_ScopeSums.j2]
        rw [value_cnt, e2, h2]
        rw [h2] at hr
        simp [hr]
    rw [show k + 2 = (k + 1) + 1 from rfl]
    simp only [fleuronlaw15_ScopeSums.l0]
    rw [if_pos (by omega), if_pos hi, hm, add_cnt v m hv0 hv hm0.1 hm0.2]
    simp only [Option.bind_some, e1]
    by_cases h : v + m ≥ -2147483648
    · rw [if_pos h]; exact hj _ (by rw [decide_eq_decide]; omega)
    · rw [if_neg h]; exact hj _ (by symm; exact decide_eq_false (by omega))

theorem ScopeSums : fleuronlaw15_ScopeSums.Pure := by
  intro v l _ _ _ _
  refine ⟨200, ?_⟩
  have h5 : fleuronlaw15_awake.f 199 = some true := at_rounds (fun k => fleuronlaw15_awake.mono k) (by omega) ssAwake
  have hj : ∀ b : Bool, (b = false → l.length ≤ 40 ∧ -2147483648 ≤ v ∧ v < 2147483648) → fleuronlaw15_ScopeSums.j0 200 v l b = some true := by
    intro b hb
    cases b with
    | true => simp only [fleuronlaw15_ScopeSums.j0]; rw [if_pos trivial, h5]; rfl
    | false =>
      obtain ⟨h1, h2, h3⟩ := hb rfl
      simp only [fleuronlaw15_ScopeSums.j0]
      rw [if_neg (by decide), reset_cnt v 199 (by omega)]
      exact sums_loop l l.length 199 v 0 h2 h3 (by omega) h1 (by omega) (by omega) (by omega)
  unfold fleuronlaw15_ScopeSums.f
  by_cases c1 : (l.length : Int) > 40
  · rw [if_pos c1]; exact hj true (fun h => by cases h)
  · rw [if_neg c1]
    by_cases c2 : v < -2147483648
    · rw [if_pos c2]; exact hj true (fun h => by cases h)
    · rw [if_neg c2]; exact hj _ (fun h => ⟨by omega, by omega, by have := of_decide_eq_false h; omega⟩)

end Go.Proofs.Ytejkbdlegnobcaa.Pure
