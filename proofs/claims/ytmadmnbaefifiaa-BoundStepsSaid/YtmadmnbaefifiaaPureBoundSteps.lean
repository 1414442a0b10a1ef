/- The pure part of BoundSteps: for all four numbers the printed function of the law tells true with some number of rounds. No condition. -/
import Derived.Test.YtmadmnbaefifiaaPBoundStepsx2
import Derived.Shelf.Bits.Mul64
import Derived.OpenShut
namespace Go.Proofs.Ytmadmnbaefifiaa.Pure
open Go.RowKit Go.Proofs.Ytmadmnbaefifiaa.PBoundSteps Go.Proofs.YtmadmnbaefifiaaW.PrintWords Go.Proofs.YtmadmnbaefifiaaW.PrintLast Go.Proofs.YtmadmnbaefifiaaW.PrintMore

theorem stAwake5 : fleuronlaw23_awake.f 5 = some true := by decide +kernel

theorem mul64_pure (x y : Nat) (hx : x < 18446744073709551616) (hy : y < 18446744073709551616) :
    bits_Mul64.f (x : Int) (y : Int) = some (((x * y / 18446744073709551616 : Nat) : Int), ((x * y % 18446744073709551616 : Nat) : Int)) := by
  obtain ⟨bd, bt, bw, hhi⟩ := Lib.mul64_hi x y hx hy
  have ba := Lib.half_mul_le (a := x / 4294967296) (b := y / 4294967296) (by omega) (by omega)
  have bb := Lib.half_mul_le (a := x / 4294967296) (b := y % 4294967296) (by omega) (by omega)
  have bc := Lib.half_mul_le (a := x % 4294967296) (b := y / 4294967296) (by omega) (by omega)
  have ba' : x / 4294967296 * (y / 4294967296) < 18446744073709551616 := by omega
  have bb' : x / 4294967296 * (y % 4294967296) < 18446744073709551616 := by omega
  have bc' : x % 4294967296 * (y / 4294967296) < 18446744073709551616 := by omega
  have bh1 : x / 4294967296 * (y / 4294967296) + (x / 4294967296 * (y % 4294967296) + x % 4294967296 * (y % 4294967296) / 4294967296) / 4294967296 < 18446744073709551616 := by omega
  have bh : x / 4294967296 * (y / 4294967296) + (x / 4294967296 * (y % 4294967296) + x % 4294967296 * (y % 4294967296) / 4294967296) / 4294967296 + ((x / 4294967296 * (y % 4294967296) + x % 4294967296 * (y % 4294967296) / 4294967296) % 4294967296 + x % 4294967296 * (y / 4294967296)) / 4294967296 < 18446744073709551616 := by omega
  unfold bits_Mul64.f
  simp only [Mul64.maskN x hx, Mul64.maskN y hy, Mul64.divN, Mul64.mulN, Mul64.addN, Mul64.wrapN _ bd, Mul64.wrapN _ bb', Mul64.wrapN _ bt, Mul64.maskN _ bt, Mul64.wrapN _ bc', Mul64.wrapN _ bw, Mul64.wrapN _ ba', Mul64.wrapN _ bh1, Mul64.wrapN _ bh, Mul64.wrapM (x * y)]
  rw [hhi]

/-- Two numbers' product, held to 2^62. -/
theorem product_pure (a b : Int) (ha0 : 0 ≤ a) (ha : a < 18446744073709551616) (hb0 : 0 ≤ b) (hb : b < 18446744073709551616) :
    bound_product.f a b = some (min (a * b) 4611686018427387904) := by
  obtain ⟨x, rfl⟩ := Int.eq_ofNat_of_zero_le ha0
  obtain ⟨y, rfl⟩ := Int.eq_ofNat_of_zero_le hb0
  unfold bound_product.f
  rw [mul64_pure x y (by omega) (by omega)]
  simp only [Option.bind_some]
  rw [← Int.natCast_mul]
  generalize x * y = p
  by_cases h : ((p / 18446744073709551616 : Nat) : Int) > 0
  · rw [if_pos h]; congr 1; omega
  · rw [if_neg h]; congr 1; unfold mn; split <;> omega

theorem more_pure (n : Int) (h : n < 9223372036854775808) : bound_more.f n = some (max n 0 + 1) := by
  unfold bound_more.f
  congr 1
  rw [IntKind.wrap_u64, IntKind.wrap_u64]
  unfold mx
  split <;> omega

/-- How many steps: the document's number. -/
def stepsOf (a b c : Int) : Int := min (min ((max a 0 + 1) * 100) 4611686018427387904 + min (min ((max b 0 + 1) * (max c 0 + 1)) 4611686018427387904 * 1000) 4611686018427387904) 4611686018427387904

theorem steps_pure (a b c : Int) (ha : a < 9223372036854775808) (hb : b < 9223372036854775808) (hc : c < 9223372036854775808) :
    bound_Steps.f a b c = some (stepsOf a b c) := by
  unfold bound_Steps.f
  rw [more_pure a ha]; simp only [Option.bind_some]
  rw [product_pure _ _ (by omega) (by omega) (by omega) (by omega)]; simp only [Option.bind_some]
  rw [more_pure b hb]; simp only [Option.bind_some]
  rw [more_pure c hc]; simp only [Option.bind_some]
  rw [product_pure _ _ (by omega) (by omega) (by omega) (by omega)]; simp only [Option.bind_some]
  have h0 : 0 ≤ (max b 0 + 1) * (max c 0 + 1) := Int.mul_nonneg (by omega) (by omega)
  rw [product_pure _ _ (by omega) (by omega) (by omega) (by omega)]; simp only [Option.bind_some]
  unfold stepsOf
  generalize (max b 0 + 1) * (max c 0 + 1) = t at h0 ⊢
  rw [IntKind.wrap_u64]
  have hA : 0 ≤ min ((max a 0 + 1) * 100) 4611686018427387904 ∧ min ((max a 0 + 1) * 100) 4611686018427387904 ≤ 4611686018427387904 := by omega
  have hB : 0 ≤ min (min t 4611686018427387904 * 1000) 4611686018427387904 ∧ min (min t 4611686018427387904 * 1000) 4611686018427387904 ≤ 4611686018427387904 := by omega
  generalize min ((max a 0 + 1) * 100) 4611686018427387904 = A at hA ⊢
  generalize min (min t 4611686018427387904 * 1000) 4611686018427387904 = B at hB ⊢
  congr 1
  unfold mn wrap64
  split <;> omega

theorem steps_low (a b c : Int) : 1100 ≤ stepsOf a b c := by
  unfold stepsOf
  have h0 : 1 * 1 ≤ (max b 0 + 1) * (max c 0 + 1) := Int.mul_le_mul (by omega) (by omega) (by omega) (by omega)
  omega
theorem steps_high (a b c : Int) : stepsOf a b c ≤ 4611686018427387904 := by unfold stepsOf; omega
theorem steps_max (a b c : Int) : stepsOf (max a 0) (max b 0) (max c 0) = stepsOf a b c := by
  unfold stepsOf
  rw [show max (max a 0) 0 = max a 0 from by omega, show max (max b 0) 0 = max b 0 from by omega, show max (max c 0) 0 = max c 0 from by omega]
theorem steps_mono (a b c a' b' c' : Int) (ha : max a 0 ≤ max a' 0) (hb : max b 0 ≤ max b' 0) (hc : max c 0 ≤ max c' 0) : stepsOf a b c ≤ stepsOf a' b' c' := by
  unfold stepsOf
  have h0 : (max b 0 + 1) * (max c 0 + 1) ≤ (max b' 0 + 1) * (max c' 0 + 1) := Int.mul_le_mul (by omega) (by omega) (by omega) (by omega)
  omega
theorem steps_small (p q r : Int) (hp0 : 0 ≤ p) (hp : p < 1073741824) (hq0 : 0 ≤ q) (hq : q < 1048576) (hr0 : 0 ≤ r) (hr : r < 1048576) :
    stepsOf p q r = wrap64 ((wrap64 ((wrap64 (p + 1)) * 100)) + (wrap64 ((wrap64 ((wrap64 (q + 1)) * (wrap64 (r + 1)))) * 1000))) := by
  have e1 : wrap64 (p + 1) = p + 1 := by unfold wrap64; omega
  have e2 : wrap64 (q + 1) = q + 1 := by unfold wrap64; omega
  have e3 : wrap64 (r + 1) = r + 1 := by unfold wrap64; omega
  rw [e1, e2, e3]
  unfold stepsOf
  rw [show max p 0 = p from by omega, show max q 0 = q from by omega, show max r 0 = r from by omega]
  have h0 : 0 ≤ (q + 1) * (r + 1) := Int.mul_nonneg (by omega) (by omega)
  have h1 : (q + 1) * (r + 1) ≤ 1048576 * 1048576 := Int.mul_le_mul (by omega) (by omega) (by omega) (by omega)
  generalize (q + 1) * (r + 1) = t at h0 h1 ⊢
  unfold wrap64
  omega

theorem j2_true (k : Nat) (x p q r : Int) (e : Bool) (he : e = false) (hx : 1100 ≤ x) (hx2 : x ≤ 4611686018427387904) (hs : bound_Steps.f p q r = some x) (hk : 6 ≤ k) :
    fleuronlaw23_BoundSteps.j2 k x p q r e = some true := by
  obtain ⟨k, rfl⟩ : ∃ m, k = m + 1 := ⟨k - 1, by omega⟩
  have h5 : fleuronlaw23_awake.f k = some true := at_rounds (fun k => fleuronlaw23_awake.mono k) (show 5 ≤ k by omega) stAwake5
  simp only [fleuronlaw23_BoundSteps.j2, he]
  simp [hx, hx2, hs, h5]

theorem j1_true (k : Nat) (m p q r : Int) (y : Bool) (hm0 : 0 ≤ m) (hm : m ≤ 1000) (hp0 : 0 ≤ p) (hp : p < 9223372036854775808) (hq0 : 0 ≤ q) (hq : q < 9223372036854775808) (hr0 : 0 ≤ r) (hr : r < 9223372036854775808)
    (hy : y = true → p < 1073741824 ∧ q < 1048576 ∧ r < 1048576) (hk : 7 ≤ k) :
    fleuronlaw23_BoundSteps.j1 k m (stepsOf p q r) p q r y = some true := by
  obtain ⟨k, rfl⟩ : ∃ m, k = m + 1 := ⟨k - 1, by omega⟩
  have h5 : fleuronlaw23_awake.f k = some true := at_rounds (fun k => fleuronlaw23_awake.mono k) (show 5 ≤ k by omega) stAwake5
  have hl := steps_low p q r
  have hh := steps_high p q r
  have hs := steps_pure p q r hp hq hr
  cases y with
  | false =>
    simp only [fleuronlaw23_BoundSteps.j1]
    simp [hl, hh, hs, h5]
  | true =>
    obtain ⟨sp, sq, sr⟩ := hy rfl
    simp only [fleuronlaw23_BoundSteps.j1]
    have e1 : wrap64 (p + m) = p + m := by unfold wrap64; omega
    have e2 : wrap64 (q + m) = q + m := by unfold wrap64; omega
    have e3 : wrap64 (r + m) = r + m := by unfold wrap64; omega
    have m1 := steps_mono p q r (p + m) q r (by omega) (by omega) (by omega)
    have m2 := steps_mono p q r p (q + m) r (by omega) (by omega) (by omega)
    have m3 := steps_mono p q r p q (r + m) (by omega) (by omega) (by omega)
    rw [if_pos trivial, if_pos (steps_small p q r hp0 sp hq0 sq hr0 sr), e1, e2, e3]
    rw [steps_pure (p + m) q r (by omega) (by omega) (by omega)]; simp only [Option.bind_some]
    rw [if_neg (by omega), steps_pure p (q + m) r (by omega) (by omega) (by omega)]; simp only [Option.bind_some]
    rw [if_neg (by omega), steps_pure p q (r + m) (by omega) (by omega) (by omega)]; simp only [Option.bind_some]
    exact j2_true k _ p q r _ (decide_eq_false (by omega)) hl hh hs (by omega)

theorem mx0 (a : Int) : mx a 0 = max a 0 := by unfold mx; split <;> omega

theorem BoundSteps : fleuronlaw23_BoundSteps.Pure := by
  intro a b c m wa wb wc wm
  have hwf : ∀ x : Int, (Lit.int .i64 x).wf = true → -9223372036854775808 ≤ x ∧ x < 9223372036854775808 := by
    intro x hx
    have := bounds_i64 hx
    omega
  have ba := hwf a wa; have bb := hwf b wb; have bc := hwf c wc
  refine ⟨9, ?_⟩
  unfold fleuronlaw23_BoundSteps.f
  rw [steps_pure a b c (by omega) (by omega) (by omega)]; simp only [Option.bind_some]
  rw [mx0, mx0, mx0]
  have hl := steps_low a b c
  have hh := steps_high a b c
  have h5 : fleuronlaw23_awake.f 8 = some true := at_rounds (fun k => fleuronlaw23_awake.mono k) (by omega) stAwake5
  have hj : ∀ y : Bool, (y = false → 0 ≤ m ∧ m ≤ 1000) → fleuronlaw23_BoundSteps.j0 9 m (stepsOf a b c) (max a 0) (max b 0) (max c 0) y = some true := by
    intro y hy
    cases y with
    | true => simp only [fleuronlaw23_BoundSteps.j0]; simp [hl, hh, h5]
    | false =>
      obtain ⟨hm0, hm⟩ := hy rfl
      rw [← steps_max a b c]
      simp only [fleuronlaw23_BoundSteps.j0]
      rw [if_neg (by decide)]
      have jj := fun (y : Bool) (hy : y = true → max a 0 < 1073741824 ∧ max b 0 < 1048576 ∧ max c 0 < 1048576) => j1_true 8 m (max a 0) (max b 0) (max c 0) y hm0 hm (by omega) (by omega) (by omega) (by omega) (by omega) (by omega) hy (by omega)
      by_cases h1 : max a 0 < 1073741824
      · rw [if_pos h1]
        by_cases h2 : max b 0 < 1048576
        · rw [if_pos h2]; exact jj _ (fun h => ⟨h1, h2, of_decide_eq_true h⟩)
        · rw [if_neg h2]; exact jj _ (fun h => by cases h)
      · rw [if_neg h1]; exact jj _ (fun h => by cases h)
  by_cases hm0 : m < 0
  · rw [if_pos hm0]; exact hj true (fun h => by cases h)
  · rw [if_neg hm0]; exact hj _ (fun h => ⟨by omega, by have := of_decide_eq_false h; omega⟩)

end Go.Proofs.Ytmadmnbaefifiaa.Pure
