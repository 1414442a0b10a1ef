/- Written by a program of this session out of the translation, with contracts given by hand beside. -/
import Derived.Test.YtmadmnbaefifiaaPrint0
import Derived.Test.YtmadmnbaefifiaaPrint1
import Derived.Test.YtmadmnbaefifiaaPrint2
namespace Go.Proofs.Ytmadmnbaefifiaa.Print
open Go.RowKit Go.Proofs.YtmadmnbaefifiaaW.PrintWords Go.Proofs.YtmadmnbaefifiaaW.PrintLast Go.Proofs.YtmadmnbaefifiaaW.PrintMore
attribute [local go_sem] max2_int min2_int max_two min_two max_three min_three max_four min_four   -- for this text's walks alone
set_option linter.unusedVariables false
set_option linter.unusedSimpArgs false

-- GIVEN BY HAND
/-! ### fleuronlaw23_BoundInput: function 3 -/
section
theorem bi_info5 : (Try.prog.info? 5).map (fun i => (i.zero, i.size, i.bytes)) = some (some (.int .u8 0), 1, 1) := by kernel_rfl
theorem bi_info30 : (Try.prog.info? 30).map (fun i => (i.zero, i.size, i.bytes)) = some (some (.agg #[.string ⟨#[]⟩, .string ⟨#[]⟩]), 2, 32) := by kernel_rfl
/-! ### the table of nodes in memory -/
/-- A row of nodes of the call's own, and what has become of the world. -/
def BIs (w0 W : World) (g n c : Nat) (xs : List S26) : Prop := Kd.S k26 26 W w0.heap.size (fun _ => True) (.slice (some ⟨g, 0, none⟩) n c) xs ∧ Below w0.heap.size w0 W
theorem bi_step {w0 W W1 : World} {g n c : Nat} {xs : List S26} (h : BIs w0 W g n c xs) (hb : Below W.heap.size W W1) : BIs w0 W1 g n c xs := ⟨Kd.S_below h.1 hb, below_step h.2 hb⟩
theorem bi_drew {w0 W : World} {g n c : Nat} {xs : List S26} (h : BIs w0 W g n c xs) : BIs w0 W.drew g n c xs := bi_step h (below_drew (Below.refl _ _))
theorem bi_base {w0 W : World} {g n c : Nat} {xs : List S26} (h : BIs w0 W g n c xs) : w0.heap.size ≤ g := Kd.S_base h.1 g rfl
theorem bi_setCells1 (W : World) (g o : Nat) (v : Value) : W.setCells g o [v] = W.setCell ⟨g, o, none⟩ v := rfl
/-- One node, its cells. -/
theorem bi_elem {w0 W : World} {g n c : Nat} {xs : List S26} (h : BIs w0 W g n c xs) (i : Nat) (hi : i < n) (x : S26) (hx : xs.getD i z26 = x) :
    ∃ (V : Value) (oki : Nat → Prop), W.cell? ⟨g, i * 4 + 1, none⟩ = some (.string x.f1) ∧ W.cell? ⟨g, i * 4 + 2, none⟩ = some (.string x.f2) ∧ W.cell? ⟨g, i * 4 + 3, none⟩ = some V ∧ (∀ j, W.frozen? ⟨g, i * 4 + j, none⟩ = false) ∧
      k30.R 30 W w0.heap.size oki V x.f3 ∧ (∀ k, oki k → k ≠ g) ∧ Kd.H k26 26 W w0.heap.size (fun _ => True) (.slice (some ⟨g, 0, none⟩) n c) xs (i : Int) oki [.int .i64 x.f0, .string x.f1, .string x.f2, V] := by
  obtain ⟨oki, cs, hcl, hM, hcc, hfr, hoki, hH⟩ := Kd.S_elem h.1 z26 (i : Int) (by omega) (by omega)
  simp only [Int.toNat_natCast] at hM hcc hfr
  rw [hx] at hM
  obtain ⟨V, rfl, hR⟩ := k26_openM hM
  exact ⟨V, oki, hcc 1 _ rfl, hcc 2 _ rfl, hcc 3 _ rfl, hfr, hR, fun k hk => (hoki k hk).2, hH⟩
theorem bi_put {w0 W : World} {g n c : Nat} {xs : List S26} (h : BIs w0 W g n c xs) (i : Nat) (hi : i < n) (x x' : S26) (hx : xs.getD i z26 = x) (j : Nat) (u : Value) (hj : j + 1 ≤ 4)
    (hM : ∀ (oki : Nat → Prop) (V : Value), k30.R 30 W w0.heap.size oki V x.f3 → k26.M W w0.heap.size oki x' (([.int .i64 x.f0, .string x.f1, .string x.f2, V] : List Value).take j ++ [u] ++ ([.int .i64 x.f0, .string x.f1, .string x.f2, V] : List Value).drop (j + 1))) :
    BIs w0 (W.setCell ⟨g, i * 4 + j, none⟩ u) g n c (xs.set i x') := by
  obtain ⟨V, oki, _, _, _, _, hR, hne, hH⟩ := bi_elem h i hi x hx
  obtain ⟨h1, _⟩ := Kd.S_seg (okg := fun _ => False) (x' := x') (seg := [u]) (j := j) (okp := oki) (Kd.H_mono hH (fun k hk => ⟨hk, fun hf => hf⟩)) (by omega) (by omega) hj (hM oki V hR) (fun k hk => .inl hk) (fun k hf => hf.elim)
  simp only [Int.toNat_natCast] at h1
  exact ⟨h1, below_set h.2 (bi_base h)⟩
theorem bi_tag {w0 W : World} {g n c : Nat} {xs : List S26} (h : BIs w0 W g n c xs) (i : Nat) (hi : i < n) (x : S26) (hx : xs.getD i z26 = x) (T : ByteArray) :
    BIs w0 (W.setCell ⟨g, i * 4 + 1, none⟩ (.string T)) g n c (xs.set i ⟨x.f0, T, x.f2, x.f3⟩) :=
  bi_put h i hi x ⟨x.f0, T, x.f2, x.f3⟩ hx 1 (.string T) (by omega) (fun oki V hR => k26_mkM _ _ _ (⟨x.f0, T, x.f2, x.f3⟩ : S26) hR)
theorem bi_text {w0 W : World} {g n c : Nat} {xs : List S26} (h : BIs w0 W g n c xs) (i : Nat) (hi : i < n) (x : S26) (hx : xs.getD i z26 = x) (T : ByteArray) :
    BIs w0 (W.setCell ⟨g, i * 4 + 2, none⟩ (.string T)) g n c (xs.set i ⟨x.f0, x.f1, T, x.f3⟩) :=
  bi_put h i hi x ⟨x.f0, x.f1, T, x.f3⟩ hx 2 (.string T) (by omega) (fun oki V hR => k26_mkM _ _ _ (⟨x.f0, x.f1, T, x.f3⟩ : S26) hR)
/-- The attributes of one node, appended to in between. -/
theorem bi_attr {w0 W W1 W2 : World} {g n c : Nat} {xs : List S26} (i : Nat) (hi : i < n) (x : S26) (V V2 : Value) (oki : Nat → Prop) (al : List S30)
    (hg0 : w0.heap.size ≤ g) (hR : k30.R 30 W w0.heap.size oki V x.f3) (hne : ∀ k, oki k → k ≠ g) (hH : Kd.H k26 26 W w0.heap.size (fun _ => True) (.slice (some ⟨g, 0, none⟩) n c) xs (i : Int) oki [.int .i64 x.f0, .string x.f1, .string x.f2, V])
    (hb : Below W.heap.size W W1) (hg : W1.grownBy W2 V.ownBlock) (hb2 : Below w0.heap.size w0 W2) (hR2 : k30.R 30 W2 w0.heap.size (fun k => oki k ∨ True ∧ W.heap.size ≤ k) V2 al) :
    BIs w0 (W2.setCell ⟨g, i * 4 + 3, none⟩ V2) g n c (xs.set i ⟨x.f0, x.f1, x.f2, al⟩) := by
  have h1 := Kd.H_grown (Kd.H_below (Kd.H_widen hH) hb) hg (fun k hk => .inl (hR.1 k hk))
  obtain ⟨h2, _⟩ := Kd.S_seg (okg := fun _ => False) (x' := ⟨x.f0, x.f1, x.f2, al⟩) (seg := [V2]) (j := 3) (okp := fun k => oki k ∨ True ∧ W.heap.size ≤ k) (Kd.H_mono h1 (fun k hk => ⟨hk, fun hf => hf⟩)) (by omega) (by omega) (by show 3 + 1 ≤ 4; decide) (k26_mkM _ _ _ (⟨x.f0, x.f1, x.f2, al⟩ : S26) hR2) (fun k hk => .inl hk) (fun k hf => hf.elim)
  simp only [Int.toNat_natCast] at h2
  exact ⟨h2, below_set hb2 hg0⟩

/-! ### the table of nodes as a list -/
def biN : ByteArray := ⟨#[110]⟩
def biA : ByteArray := ⟨#[97]⟩
def biZ (m : Nat) : ByteArray := strOfNums (List.replicate m 0)
def biRaw (j : Nat) : S26 := ⟨(j : Int) - 1, biA, (⟨#[]⟩ : ByteArray), []⟩
def biChain (n : Nat) : List S26 := (List.range n).map biRaw
def biAttr (value attrs j : Nat) : S30 := ⟨biN, biZ (value / (attrs - j))⟩
def biAttrs (value attrs j : Nat) : List S30 := (List.range j).map (biAttr value attrs)
def biLast (m : Nat) (T X : ByteArray) (al : List S30) : S26 := ⟨(m : Int) - 1, T, X, al⟩
def biX (m : Nat) (T X : ByteArray) (al : List S30) : List S26 := (biChain (m + 1)).set m (biLast m T X al)
theorem biChain_len (n : Nat) : (biChain n).length = n := by simp [biChain]
theorem biX_len (m : Nat) (T X : ByteArray) (al : List S30) : (biX m T X al).length = m + 1 := by simp [biX, biChain]
theorem biChain_succ (n : Nat) : biChain (n + 1) = biChain n ++ [biRaw n] := by simp [biChain, List.range_succ]
theorem biAttrs_succ (v a j : Nat) : biAttrs v a (j + 1) = biAttrs v a j ++ [biAttr v a j] := by simp [biAttrs, List.range_succ]
theorem biAttrs_len (v a j : Nat) : (biAttrs v a j).length = j := by simp [biAttrs]
theorem biX_at (m : Nat) (T X : ByteArray) (al : List S30) : (biX m T X al).getD m z26 = biLast m T X al := by
  simp [biX, List.getD_eq_getElem?_getD, biChain_len]
theorem biX_set (m : Nat) (T X T' X' : ByteArray) (al al' : List S30) : (biX m T X al).set m (biLast m T' X' al') = biX m T' X' al' := by simp [biX]
theorem biChain_X (m : Nat) : biChain (m + 1) = biX m biA (⟨#[]⟩ : ByteArray) [] := by
  have hlt : m < (biChain (m + 1)).length := by rw [biChain_len]; omega
  have e : biLast m biA (⟨#[]⟩ : ByteArray) [] = (biChain (m + 1))[m] := by simp [biChain, biRaw, biLast]
  rw [biX, e, List.set_getElem_self]

def fleuronlaw23_BoundInput.T10 : Bool × List (List Nat × List Nat) := (true, [([], []), ([], []), ([], []), ([2, 2], [2]), ([3], [3]), ([], []), ([5, 5], [5]), ([6], [6]), ([0, 0, 2, 3, 4, 7], [0]), ([8, 0, 2, 3, 4, 7], [8]), ([9, 4, 0, 2, 3, 4, 7], [4, 9]), ([1, 0, 1, 2, 3, 4, 5, 6, 7, 8, 9, 10], [1]), ([11, 0, 1, 2, 3, 4, 5, 6, 7, 8, 9, 10], [11]), ([12, 7, 10, 0, 1, 2, 3, 4, 5, 6, 7, 8, 9, 10], [7, 12])])
def fleuronlaw23_BoundInput.B10 : List Nat := [0, 0, 0, 4, 12, 0, 32, 96, 253, 509, 1021, 2047, 4095, 8191]
theorem fleuronlaw23_BoundInput.tab10 : rtab .any (opsOf Try.f3 10) = fleuronlaw23_BoundInput.T10 := by kernel_rfl
theorem fleuronlaw23_BoundInput.bits10 : waitsOk fleuronlaw23_BoundInput.T10.2 fleuronlaw23_BoundInput.B10 = true := by kernel_rfl
def fleuronlaw23_BoundInput.T14 : Bool × List (List Nat × List Nat) := (true, [([], []), ([], []), ([1], [1]), ([2], [2]), ([3], [3]), ([], []), ([], []), ([], []), ([6, 7], [6, 7]), ([5, 8], [5, 8]), ([9, 9], [9]), ([10], [10]), ([11], [11]), ([12], [12]), ([4, 13], [4, 13]), ([0, 0, 1, 2, 3, 4, 5, 6, 7, 8, 9, 10, 11, 12, 13, 14], [0]), ([15, 0, 1, 2, 3, 4, 5, 6, 7, 8, 9, 10, 11, 12, 13, 14], [15]), ([16, 14, 14, 0, 1, 2, 3, 4, 5, 6, 7, 8, 9, 10, 11, 12, 13, 14], [14, 16])])
def fleuronlaw23_BoundInput.B14 : List Nat := [0, 0, 2, 6, 14, 0, 0, 0, 192, 480, 992, 2016, 4064, 8160, 16382, 32767, 65535, 131071]
theorem fleuronlaw23_BoundInput.tab14 : rtab .any (opsOf Try.f3 14) = fleuronlaw23_BoundInput.T14 := by kernel_rfl
theorem fleuronlaw23_BoundInput.bits14 : waitsOk fleuronlaw23_BoundInput.T14.2 fleuronlaw23_BoundInput.B14 = true := by kernel_rfl
theorem bi_awake : fleuronlaw23_awake.f 5 = some true := by decide +kernel
set_option maxHeartbeats 20000000 in
set_option maxRecDepth 100000 in
theorem bi_main (a0 : Int) (n tag text attrs value : Nat) (E : Int) (good : Bool) (xs : List S26) (ZT ZX : ByteArray) (w : World)
    (h1 : n ≤ 1100) (h2 : tag ≤ 10010) (h3 : text ≤ 10010) (h4 : attrs ≤ 70) (h5 : value ≤ 10010)
    (HZT : Aside0 (strOfNums (List.replicate tag 0) = ZT)) (HZX : Aside0 (strOfNums (List.replicate text 0) = ZX))
    (HXS : Aside0 (xs = if n = 0 then [] else biX (n - 1) ZT ZX (biAttrs value attrs attrs)))
    (HGD : Aside0 (good = decide (1 ≤ n ∧ n ≤ 1000 ∧ tag ≤ 10000 ∧ text ≤ 10000 ∧ attrs ≤ 64 ∧ (attrs = 0 ∨ value ≤ 10000))))
    (HPI : Aside0 (bound_Input.f 5000 a0 xs = some E)) (HPR : Aside0 (fleuronref15_Input.f 5000 a0 xs = some E))
    (HE : Aside0 ((a0 > 65536 ∧ E = 3) ∨ (¬ a0 > 65536 ∧ good = true ∧ E = 0) ∨ (¬ a0 > 65536 ∧ good = false ∧ E = 4))) :
    Calls Try.prog 3 #[.int .i64 a0, .int .i64 n, .int .i64 tag, .int .i64 text, .int .i64 attrs, .int .i64 value] w fun e w' => e = .returned (.bool true) ∧ Below w.heap.size w w' := by
  have i0 : (0 : Int) ≤ n := by omega
  have i1 : (n : Int) ≤ 1100 := by omega
  have i2 : (0 : Int) ≤ tag := by omega
  have i3 : (tag : Int) ≤ 10010 := by omega
  have i4 : (0 : Int) ≤ text := by omega
  have i5 : (text : Int) ≤ 10010 := by omega
  have i6 : (0 : Int) ≤ attrs := by omega
  have i7 : (attrs : Int) ≤ 70 := by omega
  have i8 : (0 : Int) ≤ value := by omega
  have i9 : (value : Int) ≤ 10010 := by omega
  have hu26 := Try.underlying26
  have hu30 := Try.underlying30
  have HB := Aside0.mk (Below.refl w.heap.size w)
  go_enter Try.func3, Try.ntmps3
  go_wp2
  go_loopg [13, 14] (n + 1) (fun kq v13 v14 w' => ∃ (i : Nat), v14 = .int .i64 (i : Int) ∧ Aside0 (i + kq = n + 1 ∧ i ≤ n) ∧ Aside0 (Kd.S k26 26 w' w.heap.size (fun _ => True) v13 (biChain i)) ∧ Aside0 (Below w.heap.size w w'))
  case atStart => exact ⟨0, rfl, ⟨by omega, by omega⟩, ⟨Kd.S_nil _ _ _ _ _⟩, HB⟩
  case round =>
    clear HB
    obtain ⟨i, rfl, HJ, HS, HB⟩ := hrel
    by_cases hlt : i < n
    · have l1 : (i : Int) < (n : Int) := by omega
      have l2 : (0 : Int) ≤ (i : Int) := by omega
      cases gk with
      | zero => exact absurd HJ.out.1 (by have h_ := HJ.out; omega)
      | succ k1 =>
        clear hlt
        go_wp2_with ((with_reducible refine gate_builtin (b := .append) (xs := #[.tmp 64, .tmp 68]) rfl ?_); at_builtin; refine Kd.S_append k26 (w0 := w) w.heap.size rfl (.tmp 64) (.tmp 68) 23 26 (.agg #[.int .i64 0, .string ⟨#[]⟩, .string ⟨#[]⟩, .slice none 0 0]) 64 rfl Try.underlying23 info26 rfl (by decide) (by omega) u13 (biChain i) (biRaw i) [.int .i64 ((i : Int) - 1), .string biA, .string (⟨#[]⟩ : ByteArray), .slice none 0 0] (fun _ => True) (fun _ => False) rfl (by first | (go_simp; done) | (go_simp; rfl)) ?aP (fun _ hk => hk.elim) (fun _ _ => trivial) ?aO HB.out HB.out.size ?aL ?_; (case aP => exact k26_mkM _ _ _ (biRaw i) (Kd.R_nil _ _ _ _ _)); (case aO => exact Kd.S_mono HS.out (fun k hk => ⟨hk, fun hf => hf⟩)); (case aL => have h_ := HJ.out; rw [biChain_len]; omega); intro v13 w2 ho hb hg hat; rw [← biChain_succ] at ho; clear hg hat HS HB; have HS := Aside0.mk ho; have HB := Aside0.mk hb; clear ho hb)
        go_roundg k1
        case measure => omega
        case rel => exact ⟨i + 1, by go_num, ⟨by have h_ := HJ.out; omega, by have h_ := HJ.out; omega⟩, HS, HB⟩
    · have hin : n = i := by have h_ := HJ.out; omega
      subst hin
      clear hlt HJ
      go_upto_if 71 with (fail)
      go_cut [13] (fun v13 wc => ∃ (A_ : Option Addr) (c_ : Nat), v13 = .slice A_ xs.length c_ ∧ Aside0 (xs.length ≤ c_) ∧ Aside0 (Kd.C k26 wc A_ xs.length xs) ∧ Aside0 (Below w.heap.size w wc))
      case first =>
        by_cases hn : n = 0
        · have hx : xs = [] := by have h_ := HXS.out; rw [if_pos hn] at h_; exact h_
          obtain ⟨A_, c_, hv, hle, hC⟩ := Kd.S_reads HS.out
          rw [show (biChain n).length = xs.length from by rw [biChain_len, hx]; exact hn] at hv hle hC
          subst hv
          have hC' : Kd.C k26 wr A_ xs.length xs := by rw [hx]; rw [show biChain n = [] from by rw [hn]; rfl, hx] at hC; exact hC
          have HC := Aside0.mk hC'
          have HL := Aside0.mk hle
          have l3 : ¬ (0 : Int) < (n : Int) := by omega
          clear hC hC' hle hx hn HS HXS
          go_wp2
          go_meet
          case rel => exact ⟨A_, c_, rfl, HL, HC, HB⟩
        · obtain ⟨m, hm⟩ : ∃ m, n = m + 1 := ⟨n - 1, by omega⟩
          obtain ⟨g, c, hv, hgb, hgl, cells_, hcells⟩ := Kd.S_form HS.out (by rw [biChain_len]; omega)
          rw [biChain_len] at hv
          subst hv
          have hI0 : BIs w wr g n c (biX m biA (⟨#[]⟩ : ByteArray) []) := ⟨by have h_ := HS.out; rw [show biChain n = biX m biA (⟨#[]⟩ : ByteArray) [] from by rw [hm]; exact biChain_X m] at h_; exact h_, HB.out⟩
          have HI := Aside0.mk (bi_drew hI0)
          have hnm : (n : Int) - 1 = (m : Int) := by omega
          have hmn : m < n := by omega
          have l4 : (0 : Int) ≤ (m : Int) := by omega
          have l5 : (m : Int) < (n : Int) := by omega
          have l6 : (0 : Int) < (n : Int) := by omega
          have HX := Aside0.mk (show xs = biX m ZT ZX (biAttrs value attrs attrs) by have h_ := HXS.out; rw [if_neg hn, show n - 1 = m by omega] at h_; exact h_)
          have HMN := Aside0.mk hm
          clear hI0 hm hn HS HB HXS hcells hgb hgl
          go_upto_region 10 with (fail)
          refine start_ (n := 14) (S := fun w' => True) (ds := []) #[false, false, false, false, false, false, false, false, false, false, false, false, false, false] (by kernel_rfl) rfl rfl trivial (fun hHeld => ?_)
          refine with_tabW fleuronlaw23_BoundInput.tab10 fleuronlaw23_BoundInput.bits10 (fun HT_ HW_ => ?_)
          generalize wr.drew = w8 at HI hHeld ⊢
          refine pure_ (i := 0) (N := some 76) (v := ?_) (a' := ?_) #[true, false, false, false, false, false, false, false, false, false, false, false, false, false] rfl rfl (any_of HT_.out (by kernel_rfl)) (fun _ _ _ h => h) (Or.inl ⟨by rfl, ?_⟩) ?_ ?_
          rotate_left
          · intro w'
            go_simp
            with_reducible rfl
          rotate_left
          · simp only [Act.put, List.setIfInBounds_toArray, List.set_cons_zero, List.set_cons_succ, i64_w, i32_w]
            rfl
          refine pure_ (i := 1) (N := some 77) (v := ?_) (a' := ?_) #[true, true, false, false, false, false, false, false, false, false, false, false, false, false] rfl rfl (any_of HT_.out (by kernel_rfl)) (fun _ _ _ h => h) (Or.inl ⟨by rfl, ?_⟩) ?_ ?_
          rotate_left
          · intro w'
            go_simp
            with_reducible rfl
          rotate_left
          · simp only [Act.put, List.setIfInBounds_toArray, List.set_cons_zero, List.set_cons_succ, i64_w, i32_w]
            rfl
          refine pure_ (i := 2) (N := some 78) (v := ?_) (a' := ?_) #[true, true, true, false, false, false, false, false, false, false, false, false, false, false] rfl rfl (any_of HT_.out (by kernel_rfl)) (fun _ _ _ h => h) (Or.inl ⟨by rfl, ?_⟩) ?_ ?_
          rotate_left
          · intro w'
            go_simp
            with_reducible rfl
          rotate_left
          · simp only [Act.put, List.setIfInBounds_toArray, List.set_cons_zero, List.set_cons_succ, i64_w, i32_w]
            rfl
          refine pure_ (i := 5) (N := some 81) (v := ?_) (a' := ?_) #[true, true, true, false, false, true, false, false, false, false, false, false, false, false] rfl rfl (any_of HT_.out (by kernel_rfl)) (fun _ _ _ h => h) (Or.inl ⟨by rfl, ?_⟩) ?_ ?_
          rotate_left
          · intro w'
            go_simp
            with_reducible rfl
          rotate_left
          · simp only [Act.put, List.setIfInBounds_toArray, List.set_cons_zero, List.set_cons_succ, i64_w, i32_w]
            rfl
          refine join_ (σ := Value × Value) 6 #[true, true, true, true, true, true, true, true, false, false, false, false, false, false] (fun s => [(79, s.1), (80, .string ZT), (82, s.2), (83, .string ZX)]) (fun s w' => BIs w w' g n c (biX m biA (⟨#[]⟩ : ByteArray) [])) ?_ ?_
          rotate_left
          · intro hCont
            refine two_ (i := 3) (j := 6) (Ni := some 79) (Nj := some 82) #[true, true, true, true, false, true, false, false, false, false, false, false, false, false] #[true, true, true, false, false, true, true, false, false, false, false, false, false, false] rfl rfl rfl rfl (two_of HT_.out (by kernel_rfl)) (by decide) (by decide) (fun K hK => ?_) (fun K hK => ?_)
            · skip
              refine Kd.R_make_step (Kd.int .u8) _ 5 (by rfl) (N := 79) rfl 28 (.tmp 78) (.tmp 78) rfl (tag : Int) rfl rfl Try.underlying28 (.int .u8 0) 1 bi_info5 rfl (by decide) (by omega) 0 (ok := fun _ => True) (okp := fun _ => True) rfl (fun _ hk => hk) trivial (by omega) (by omega) (Below.refl _ _) (Nat.le_refl _) ?_
              intro v79 wq0 ho hb hg_ hnew_
              clear hg_ hnew_
              have n1_ := Aside0.mk (bi_step HI.out hb); clear HI; have HI := n1_; clear n1_
              have HM79 := Aside0.mk ho
              clear ho hb
              simp only [Int.toNat_natCast] at HM79
              refine hK.out _ _ trivial (fun hHeld => ?_)
              clear hK K
              refine norm_ (a' := ?_) ?_ ?_
              rotate_left
              · show Act.put _ (some 79) _ = _
                simp only [Act.put, List.setIfInBounds_toArray, List.set_cons_zero, List.set_cons_succ, i64_w, i32_w]
                rfl
              refine two_ (i := 4) (j := 6) (Ni := some 80) (Nj := some 82) #[true, true, true, true, true, true, false, false, false, false, false, false, false, false] #[true, true, true, true, false, true, true, false, false, false, false, false, false, false] rfl rfl rfl rfl (two_of HT_.out (by kernel_rfl)) (by decide) (by decide) (fun K hK => ?_) (fun K hK => ?_)
              · skip
                have hcv := own_string (P := Try.prog) Try.underlying28 Try.underlying5 Try.underlying9 (Kd.own_of_R HM79.out)
                rw [HZT.out] at hcv
                clear HM79
                refine value_ (w1 := ?_) (v := ?_) (by rfl) rfl ?_ ?_
                rotate_left 2
                · go_simp
                  constructor
                  · rfl
                  · rfl
                clear hcv
                refine hK.out _ _ trivial (fun hHeld => ?_)
                clear hK K
                refine norm_ (a' := ?_) ?_ ?_
                rotate_left
                · show Act.put _ (some 80) _ = _
                  simp only [Act.put, List.setIfInBounds_toArray, List.set_cons_zero, List.set_cons_succ, i64_w, i32_w]
                  rfl
                refine one_ (i := 6) (N := some 82) #[true, true, true, true, true, true, true, false, false, false, false, false, false, false] rfl rfl (one_of HT_.out (by kernel_rfl)) (by decide) (fun K hK => ?_)
                refine Kd.R_make_step (Kd.int .u8) _ 5 (by rfl) (N := 82) rfl 28 (.tmp 81) (.tmp 81) rfl (text : Int) rfl rfl Try.underlying28 (.int .u8 0) 1 bi_info5 rfl (by decide) (by omega) 0 (ok := fun _ => True) (okp := fun _ => True) rfl (fun _ hk => hk) trivial (by omega) (by omega) (Below.refl _ _) (Nat.le_refl _) ?_
                intro v82 wq2 ho hb hg_ hnew_
                clear hg_ hnew_
                have n1_ := Aside0.mk (bi_step HI.out hb); clear HI; have HI := n1_; clear n1_
                have HM82 := Aside0.mk ho
                clear ho hb
                simp only [Int.toNat_natCast] at HM82
                refine hK.out _ _ trivial (fun hHeld => ?_)
                clear hK K
                refine norm_ (a' := ?_) ?_ ?_
                rotate_left
                · show Act.put _ (some 82) _ = _
                  simp only [Act.put, List.setIfInBounds_toArray, List.set_cons_zero, List.set_cons_succ, i64_w, i32_w]
                  rfl
                refine one_ (i := 7) (N := some 83) #[true, true, true, true, true, true, true, true, false, false, false, false, false, false] rfl rfl (one_of HT_.out (by kernel_rfl)) (by decide) (fun K hK => ?_)
                have hcv := own_string (P := Try.prog) Try.underlying28 Try.underlying5 Try.underlying9 (Kd.own_of_R HM82.out)
                rw [HZX.out] at hcv
                clear HM82
                refine value_ (w1 := ?_) (v := ?_) (by rfl) rfl ?_ ?_
                rotate_left 2
                · go_simp
                  constructor
                  · rfl
                  · rfl
                clear hcv
                refine hK.out _ _ trivial (fun hHeld => ?_)
                clear hK K
                refine norm_ (a' := ?_) ?_ ?_
                rotate_left
                · show Act.put _ (some 83) _ = _
                  simp only [Act.put, List.setIfInBounds_toArray, List.set_cons_zero, List.set_cons_succ, i64_w, i32_w]
                  rfl
                exact norm_ (by simp only [putAll, Act.put, List.setIfInBounds_toArray, List.set_cons_zero, List.set_cons_succ]) (hCont (v79, v82) _ HI.out)
              · skip
                refine Kd.R_make_step (Kd.int .u8) _ 5 (by rfl) (N := 82) rfl 28 (.tmp 81) (.tmp 81) rfl (text : Int) rfl rfl Try.underlying28 (.int .u8 0) 1 bi_info5 rfl (by decide) (by omega) 0 (ok := fun _ => True) (okp := fun _ => True) rfl (fun _ hk => hk) trivial (by omega) (by omega) (Below.refl _ _) (Nat.le_refl _) ?_
                intro v82 wq1 ho hb hg_ hnew_
                clear hg_ hnew_
                have n1_ := Aside0.mk (bi_step HI.out hb); clear HI; have HI := n1_; clear n1_
                have n1_ := Aside0.mk (Kd.R_below HM79.out hb); clear HM79; have HM79 := n1_; clear n1_
                have HM82 := Aside0.mk ho
                clear ho hb
                simp only [Int.toNat_natCast] at HM82
                refine hK.out _ _ trivial (fun hHeld => ?_)
                clear hK K
                refine norm_ (a' := ?_) ?_ ?_
                rotate_left
                · show Act.put _ (some 82) _ = _
                  simp only [Act.put, List.setIfInBounds_toArray, List.set_cons_zero, List.set_cons_succ, i64_w, i32_w]
                  rfl
                refine two_ (i := 4) (j := 7) (Ni := some 80) (Nj := some 83) #[true, true, true, true, true, true, true, false, false, false, false, false, false, false] #[true, true, true, true, false, true, true, true, false, false, false, false, false, false] rfl rfl rfl rfl (two_of HT_.out (by kernel_rfl)) (by decide) (by decide) (fun K hK => ?_) (fun K hK => ?_)
                · skip
                  have hcv := own_string (P := Try.prog) Try.underlying28 Try.underlying5 Try.underlying9 (Kd.own_of_R HM79.out)
                  rw [HZT.out] at hcv
                  clear HM79
                  refine value_ (w1 := ?_) (v := ?_) (by rfl) rfl ?_ ?_
                  rotate_left 2
                  · go_simp
                    constructor
                    · rfl
                    · rfl
                  clear hcv
                  refine hK.out _ _ trivial (fun hHeld => ?_)
                  clear hK K
                  refine norm_ (a' := ?_) ?_ ?_
                  rotate_left
                  · show Act.put _ (some 80) _ = _
                    simp only [Act.put, List.setIfInBounds_toArray, List.set_cons_zero, List.set_cons_succ, i64_w, i32_w]
                    rfl
                  refine one_ (i := 7) (N := some 83) #[true, true, true, true, true, true, true, true, false, false, false, false, false, false] rfl rfl (one_of HT_.out (by kernel_rfl)) (by decide) (fun K hK => ?_)
                  have hcv := own_string (P := Try.prog) Try.underlying28 Try.underlying5 Try.underlying9 (Kd.own_of_R HM82.out)
                  rw [HZX.out] at hcv
                  clear HM82
                  refine value_ (w1 := ?_) (v := ?_) (by rfl) rfl ?_ ?_
                  rotate_left 2
                  · go_simp
                    constructor
                    · rfl
                    · rfl
                  clear hcv
                  refine hK.out _ _ trivial (fun hHeld => ?_)
                  clear hK K
                  refine norm_ (a' := ?_) ?_ ?_
                  rotate_left
                  · show Act.put _ (some 83) _ = _
                    simp only [Act.put, List.setIfInBounds_toArray, List.set_cons_zero, List.set_cons_succ, i64_w, i32_w]
                    rfl
                  exact norm_ (by simp only [putAll, Act.put, List.setIfInBounds_toArray, List.set_cons_zero, List.set_cons_succ]) (hCont (v79, v82) _ HI.out)
                · skip
                  have hcv := own_string (P := Try.prog) Try.underlying28 Try.underlying5 Try.underlying9 (Kd.own_of_R HM82.out)
                  rw [HZX.out] at hcv
                  clear HM82
                  refine value_ (w1 := ?_) (v := ?_) (by rfl) rfl ?_ ?_
                  rotate_left 2
                  · go_simp
                    constructor
                    · rfl
                    · rfl
                  clear hcv
                  refine hK.out _ _ trivial (fun hHeld => ?_)
                  clear hK K
                  refine norm_ (a' := ?_) ?_ ?_
                  rotate_left
                  · show Act.put _ (some 83) _ = _
                    simp only [Act.put, List.setIfInBounds_toArray, List.set_cons_zero, List.set_cons_succ, i64_w, i32_w]
                    rfl
                  refine one_ (i := 4) (N := some 80) #[true, true, true, true, true, true, true, true, false, false, false, false, false, false] rfl rfl (one_of HT_.out (by kernel_rfl)) (by decide) (fun K hK => ?_)
                  have hcv := own_string (P := Try.prog) Try.underlying28 Try.underlying5 Try.underlying9 (Kd.own_of_R HM79.out)
                  rw [HZT.out] at hcv
                  clear HM79
                  refine value_ (w1 := ?_) (v := ?_) (by rfl) rfl ?_ ?_
                  rotate_left 2
                  · go_simp
                    constructor
                    · rfl
                    · rfl
                  clear hcv
                  refine hK.out _ _ trivial (fun hHeld => ?_)
                  clear hK K
                  refine norm_ (a' := ?_) ?_ ?_
                  rotate_left
                  · show Act.put _ (some 80) _ = _
                    simp only [Act.put, List.setIfInBounds_toArray, List.set_cons_zero, List.set_cons_succ, i64_w, i32_w]
                    rfl
                  exact norm_ (by simp only [putAll, Act.put, List.setIfInBounds_toArray, List.set_cons_zero, List.set_cons_succ]) (hCont (v79, v82) _ HI.out)
            · skip
              refine Kd.R_make_step (Kd.int .u8) _ 5 (by rfl) (N := 82) rfl 28 (.tmp 81) (.tmp 81) rfl (text : Int) rfl rfl Try.underlying28 (.int .u8 0) 1 bi_info5 rfl (by decide) (by omega) 0 (ok := fun _ => True) (okp := fun _ => True) rfl (fun _ hk => hk) trivial (by omega) (by omega) (Below.refl _ _) (Nat.le_refl _) ?_
              intro v82 wq0 ho hb hg_ hnew_
              clear hg_ hnew_
              have n1_ := Aside0.mk (bi_step HI.out hb); clear HI; have HI := n1_; clear n1_
              have HM82 := Aside0.mk ho
              clear ho hb
              simp only [Int.toNat_natCast] at HM82
              refine hK.out _ _ trivial (fun hHeld => ?_)
              clear hK K
              refine norm_ (a' := ?_) ?_ ?_
              rotate_left
              · show Act.put _ (some 82) _ = _
                simp only [Act.put, List.setIfInBounds_toArray, List.set_cons_zero, List.set_cons_succ, i64_w, i32_w]
                rfl
              refine two_ (i := 3) (j := 7) (Ni := some 79) (Nj := some 83) #[true, true, true, true, false, true, true, false, false, false, false, false, false, false] #[true, true, true, false, false, true, true, true, false, false, false, false, false, false] rfl rfl rfl rfl (two_of HT_.out (by kernel_rfl)) (by decide) (by decide) (fun K hK => ?_) (fun K hK => ?_)
              · skip
                refine Kd.R_make_step (Kd.int .u8) _ 5 (by rfl) (N := 79) rfl 28 (.tmp 78) (.tmp 78) rfl (tag : Int) rfl rfl Try.underlying28 (.int .u8 0) 1 bi_info5 rfl (by decide) (by omega) 0 (ok := fun _ => True) (okp := fun _ => True) rfl (fun _ hk => hk) trivial (by omega) (by omega) (Below.refl _ _) (Nat.le_refl _) ?_
                intro v79 wq1 ho hb hg_ hnew_
                clear hg_ hnew_
                have n1_ := Aside0.mk (bi_step HI.out hb); clear HI; have HI := n1_; clear n1_
                have n1_ := Aside0.mk (Kd.R_below HM82.out hb); clear HM82; have HM82 := n1_; clear n1_
                have HM79 := Aside0.mk ho
                clear ho hb
                simp only [Int.toNat_natCast] at HM79
                refine hK.out _ _ trivial (fun hHeld => ?_)
                clear hK K
                refine norm_ (a' := ?_) ?_ ?_
                rotate_left
                · show Act.put _ (some 79) _ = _
                  simp only [Act.put, List.setIfInBounds_toArray, List.set_cons_zero, List.set_cons_succ, i64_w, i32_w]
                  rfl
                refine two_ (i := 4) (j := 7) (Ni := some 80) (Nj := some 83) #[true, true, true, true, true, true, true, false, false, false, false, false, false, false] #[true, true, true, true, false, true, true, true, false, false, false, false, false, false] rfl rfl rfl rfl (two_of HT_.out (by kernel_rfl)) (by decide) (by decide) (fun K hK => ?_) (fun K hK => ?_)
                · skip
                  have hcv := own_string (P := Try.prog) Try.underlying28 Try.underlying5 Try.underlying9 (Kd.own_of_R HM79.out)
                  rw [HZT.out] at hcv
                  clear HM79
                  refine value_ (w1 := ?_) (v := ?_) (by rfl) rfl ?_ ?_
                  rotate_left 2
                  · go_simp
                    constructor
                    · rfl
                    · rfl
                  clear hcv
                  refine hK.out _ _ trivial (fun hHeld => ?_)
                  clear hK K
                  refine norm_ (a' := ?_) ?_ ?_
                  rotate_left
                  · show Act.put _ (some 80) _ = _
                    simp only [Act.put, List.setIfInBounds_toArray, List.set_cons_zero, List.set_cons_succ, i64_w, i32_w]
                    rfl
                  refine one_ (i := 7) (N := some 83) #[true, true, true, true, true, true, true, true, false, false, false, false, false, false] rfl rfl (one_of HT_.out (by kernel_rfl)) (by decide) (fun K hK => ?_)
                  have hcv := own_string (P := Try.prog) Try.underlying28 Try.underlying5 Try.underlying9 (Kd.own_of_R HM82.out)
                  rw [HZX.out] at hcv
                  clear HM82
                  refine value_ (w1 := ?_) (v := ?_) (by rfl) rfl ?_ ?_
                  rotate_left 2
                  · go_simp
                    constructor
                    · rfl
                    · rfl
                  clear hcv
                  refine hK.out _ _ trivial (fun hHeld => ?_)
                  clear hK K
                  refine norm_ (a' := ?_) ?_ ?_
                  rotate_left
                  · show Act.put _ (some 83) _ = _
                    simp only [Act.put, List.setIfInBounds_toArray, List.set_cons_zero, List.set_cons_succ, i64_w, i32_w]
                    rfl
                  exact norm_ (by simp only [putAll, Act.put, List.setIfInBounds_toArray, List.set_cons_zero, List.set_cons_succ]) (hCont (v79, v82) _ HI.out)
                · skip
                  have hcv := own_string (P := Try.prog) Try.underlying28 Try.underlying5 Try.underlying9 (Kd.own_of_R HM82.out)
                  rw [HZX.out] at hcv
                  clear HM82
                  refine value_ (w1 := ?_) (v := ?_) (by rfl) rfl ?_ ?_
                  rotate_left 2
                  · go_simp
                    constructor
                    · rfl
                    · rfl
                  clear hcv
                  refine hK.out _ _ trivial (fun hHeld => ?_)
                  clear hK K
                  refine norm_ (a' := ?_) ?_ ?_
                  rotate_left
                  · show Act.put _ (some 83) _ = _
                    simp only [Act.put, List.setIfInBounds_toArray, List.set_cons_zero, List.set_cons_succ, i64_w, i32_w]
                    rfl
                  refine one_ (i := 4) (N := some 80) #[true, true, true, true, true, true, true, true, false, false, false, false, false, false] rfl rfl (one_of HT_.out (by kernel_rfl)) (by decide) (fun K hK => ?_)
                  have hcv := own_string (P := Try.prog) Try.underlying28 Try.underlying5 Try.underlying9 (Kd.own_of_R HM79.out)
                  rw [HZT.out] at hcv
                  clear HM79
                  refine value_ (w1 := ?_) (v := ?_) (by rfl) rfl ?_ ?_
                  rotate_left 2
                  · go_simp
                    constructor
                    · rfl
                    · rfl
                  clear hcv
                  refine hK.out _ _ trivial (fun hHeld => ?_)
                  clear hK K
                  refine norm_ (a' := ?_) ?_ ?_
                  rotate_left
                  · show Act.put _ (some 80) _ = _
                    simp only [Act.put, List.setIfInBounds_toArray, List.set_cons_zero, List.set_cons_succ, i64_w, i32_w]
                    rfl
                  exact norm_ (by simp only [putAll, Act.put, List.setIfInBounds_toArray, List.set_cons_zero, List.set_cons_succ]) (hCont (v79, v82) _ HI.out)
              · skip
                have hcv := own_string (P := Try.prog) Try.underlying28 Try.underlying5 Try.underlying9 (Kd.own_of_R HM82.out)
                rw [HZX.out] at hcv
                clear HM82
                refine value_ (w1 := ?_) (v := ?_) (by rfl) rfl ?_ ?_
                rotate_left 2
                · go_simp
                  constructor
                  · rfl
                  · rfl
                clear hcv
                refine hK.out _ _ trivial (fun hHeld => ?_)
                clear hK K
                refine norm_ (a' := ?_) ?_ ?_
                rotate_left
                · show Act.put _ (some 83) _ = _
                  simp only [Act.put, List.setIfInBounds_toArray, List.set_cons_zero, List.set_cons_succ, i64_w, i32_w]
                  rfl
                refine one_ (i := 3) (N := some 79) #[true, true, true, true, false, true, true, true, false, false, false, false, false, false] rfl rfl (one_of HT_.out (by kernel_rfl)) (by decide) (fun K hK => ?_)
                refine Kd.R_make_step (Kd.int .u8) _ 5 (by rfl) (N := 79) rfl 28 (.tmp 78) (.tmp 78) rfl (tag : Int) rfl rfl Try.underlying28 (.int .u8 0) 1 bi_info5 rfl (by decide) (by omega) 0 (ok := fun _ => True) (okp := fun _ => True) rfl (fun _ hk => hk) trivial (by omega) (by omega) (Below.refl _ _) (Nat.le_refl _) ?_
                intro v79 wq2 ho hb hg_ hnew_
                clear hg_ hnew_
                have n1_ := Aside0.mk (bi_step HI.out hb); clear HI; have HI := n1_; clear n1_
                have HM79 := Aside0.mk ho
                clear ho hb
                simp only [Int.toNat_natCast] at HM79
                refine hK.out _ _ trivial (fun hHeld => ?_)
                clear hK K
                refine norm_ (a' := ?_) ?_ ?_
                rotate_left
                · show Act.put _ (some 79) _ = _
                  simp only [Act.put, List.setIfInBounds_toArray, List.set_cons_zero, List.set_cons_succ, i64_w, i32_w]
                  rfl
                refine one_ (i := 4) (N := some 80) #[true, true, true, true, true, true, true, true, false, false, false, false, false, false] rfl rfl (one_of HT_.out (by kernel_rfl)) (by decide) (fun K hK => ?_)
                have hcv := own_string (P := Try.prog) Try.underlying28 Try.underlying5 Try.underlying9 (Kd.own_of_R HM79.out)
                rw [HZT.out] at hcv
                clear HM79
                refine value_ (w1 := ?_) (v := ?_) (by rfl) rfl ?_ ?_
                rotate_left 2
                · go_simp
                  constructor
                  · rfl
                  · rfl
                clear hcv
                refine hK.out _ _ trivial (fun hHeld => ?_)
                clear hK K
                refine norm_ (a' := ?_) ?_ ?_
                rotate_left
                · show Act.put _ (some 80) _ = _
                  simp only [Act.put, List.setIfInBounds_toArray, List.set_cons_zero, List.set_cons_succ, i64_w, i32_w]
                  rfl
                exact norm_ (by simp only [putAll, Act.put, List.setIfInBounds_toArray, List.set_cons_zero, List.set_cons_succ]) (hCont (v79, v82) _ HI.out)
          clear HI
          rintro ⟨v79, v82⟩ w10 hI10
          have HI := Aside0.mk hI10
          clear hI10
          have hHeld : True := trivial
          refine norm_ (a' := ?_) ?_ ?_
          rotate_left
          · simp only [putAll, Act.put, List.setIfInBounds_toArray, List.set_cons_zero, List.set_cons_succ]
            rfl
          refine pure_ (i := 8) (N := some 84) (v := ?_) (a' := ?_) #[true, true, true, true, true, true, true, true, true, false, false, false, false, false] rfl rfl (any_of HT_.out (by kernel_rfl)) (fun _ _ _ h => h) (Or.inl ⟨by rfl, ?_⟩) ?_ ?_
          rotate_left
          · intro w'
            go_simp
            with_reducible rfl
          rotate_left
          · simp only [Act.put, List.setIfInBounds_toArray, List.set_cons_zero, List.set_cons_succ, i64_w, i32_w]
            rfl
          refine pure_ (i := 9) (N := some 85) (v := ?_) (a' := ?_) #[true, true, true, true, true, true, true, true, true, true, false, false, false, false] rfl rfl (any_of HT_.out (by kernel_rfl)) (fun _ _ _ h => h) (Or.inl ⟨by rfl, ?_⟩) ?_ ?_
          rotate_left
          · intro w'
            go_simp
            with_reducible rfl
          rotate_left
          · simp only [Act.put, List.setIfInBounds_toArray, List.set_cons_zero, List.set_cons_succ, i64_w, i32_w]
            rfl
          refine one_ (i := 10) (N := none) #[true, true, true, true, true, true, true, true, true, true, true, false, false, false] rfl rfl (one_of HT_.out (by kernel_rfl)) (by decide) (fun K hK => ?_)
          obtain ⟨V0, ok0, hs1, hs2, hs3, hfs, hR0, hne0, hH0⟩ := bi_elem HI.out m (by omega) (biLast m biA (⟨#[]⟩ : ByteArray) []) (biX_at m _ _ _)
          clear hR0 hne0 hH0
          clear hs2 hs3
          have hfs1 := hfs 1
          clear hfs
          refine skip_ (w1 := ?_) (by rfl) rfl ?_ ?_
          rotate_left
          · go_simp
            rfl
          clear hs1 hfs1
          have n1_ := Aside0.mk (bi_tag HI.out m (by omega) (biLast m biA (⟨#[]⟩ : ByteArray) []) (biX_at m _ _ _) ZT); clear HI; have HI := n1_; clear n1_
          have n1_ := Aside0.mk (Eq.mp (congrArg (BIs w _ g n c) (biX_set m _ _ _ _ _ _)) HI.out); clear HI; have HI := n1_; clear n1_
          refine hK.out _ _ trivial (fun hHeld => ?_)
          clear hK K
          refine pure_ (i := 11) (N := some 86) (v := ?_) (a' := ?_) #[true, true, true, true, true, true, true, true, true, true, true, true, false, false] rfl rfl (any_of HT_.out (by kernel_rfl)) (fun _ _ _ h => h) (Or.inl ⟨by rfl, ?_⟩) ?_ ?_
          rotate_left
          · intro w'
            go_simp
            with_reducible rfl
          rotate_left
          · simp only [Act.put, List.setIfInBounds_toArray, List.set_cons_zero, List.set_cons_succ, i64_w, i32_w]
            rfl
          refine pure_ (i := 12) (N := some 87) (v := ?_) (a' := ?_) #[true, true, true, true, true, true, true, true, true, true, true, true, true, false] rfl rfl (any_of HT_.out (by kernel_rfl)) (fun _ _ _ h => h) (Or.inl ⟨by rfl, ?_⟩) ?_ ?_
          rotate_left
          · intro w'
            go_simp
            with_reducible rfl
          rotate_left
          · simp only [Act.put, List.setIfInBounds_toArray, List.set_cons_zero, List.set_cons_succ, i64_w, i32_w]
            rfl
          refine one_ (i := 13) (N := none) #[true, true, true, true, true, true, true, true, true, true, true, true, true, true] rfl rfl (one_of HT_.out (by kernel_rfl)) (by decide) (fun K hK => ?_)
          obtain ⟨V0, ok0, hs1, hs2, hs3, hfs, hR0, hne0, hH0⟩ := bi_elem HI.out m (by omega) (biLast m ZT (⟨#[]⟩ : ByteArray) []) (biX_at m _ _ _)
          clear hR0 hne0 hH0
          clear hs1 hs3
          have hfs1 := hfs 2
          clear hfs
          refine skip_ (w1 := ?_) (by rfl) rfl ?_ ?_
          rotate_left
          · go_simp
            rfl
          clear hs2 hfs1
          have n1_ := Aside0.mk (bi_text HI.out m (by omega) (biLast m ZT (⟨#[]⟩ : ByteArray) []) (biX_at m _ _ _) ZX); clear HI; have HI := n1_; clear n1_
          have n1_ := Aside0.mk (Eq.mp (congrArg (BIs w _ g n c) (biX_set m _ _ _ _ _ _)) HI.out); clear HI; have HI := n1_; clear n1_
          refine hK.out _ _ trivial (fun hHeld => ?_)
          clear hK K
          refine done_ (done_of HT_.out (by kernel_rfl)) ?_

          go_wp2
          go_loopg [16] (attrs + 1) (fun kq v16 w' => ∃ (j : Nat), v16 = .int .i64 (j : Int) ∧ Aside0 (j + kq = attrs + 1 ∧ j ≤ attrs) ∧ Aside0 (BIs w w' g n c (biX m ZT ZX (biAttrs value attrs j))))
          case atStart => exact ⟨0, rfl, ⟨by omega, by omega⟩, HI⟩
          case round =>
            clear HI
            obtain ⟨j, rfl, HJ, HI⟩ := hrel
            by_cases hjt : j < attrs
            · have l7 : (j : Int) < (attrs : Int) := by omega
              have l8 : (0 : Int) ≤ (j : Int) := by omega
              cases gk with
              | zero => exact absurd HJ.out.1 (by have h_ := HJ.out; omega)
              | succ k1 =>
                obtain ⟨d, hd⟩ : ∃ d : Int, d = (attrs : Int) - (j : Int) := ⟨_, rfl⟩
                obtain ⟨q, hq⟩ : ∃ q : Int, q = (value : Int) / d := ⟨_, rfl⟩
                obtain ⟨qn, hqn0⟩ : ∃ qn : Nat, qn = value / (attrs - j) := ⟨_, rfl⟩
                have hqn : q = (qn : Int) := by rw [hq, hd, hqn0, show (attrs : Int) - (j : Int) = ((attrs - j : Nat) : Int) by omega]; rfl
                have l9 : (0 : Int) < d := by omega
                have l10 : d ≤ 70 := by omega
                have hqv : qn ≤ value := by rw [hqn0]; exact Nat.div_le_self _ _
                have l11 : (0 : Int) ≤ q := by omega
                have l12 : q ≤ 10010 := by omega
                obtain ⟨ZV, hzv⟩ : ∃ ZV, strOfNums (List.replicate q.toNat 0) = ZV := ⟨_, rfl⟩
                have HAT : Aside0 (biAttrs value attrs (j + 1) = biAttrs value attrs j ++ [(⟨biN, ZV⟩ : S30)]) := ⟨by rw [biAttrs_succ]; unfold biAttr biZ; rw [← hqn0, show qn = q.toNat by omega, hzv]⟩
                have HZV := Aside0.mk hzv
                have hqT : Int.tdiv (value : Int) d = q := by rw [hq]; exact Int.tdiv_eq_ediv_of_nonneg (by omega)
                have hdw : wrap64 d = d := by unfold wrap64; omega
                have hd0 : (d = 0) = False := eq_false (by omega)
                have hqw : IntKind.i64.wrap q = q := by rw [i64_w]; unfold wrap64; omega
                have hdI := hd.symm
                have hqI := hq.symm
                clear hzv hq hd hqn hqv hqn0 hjt
                go_upto_region 14 with (fail)
                have n1_ := Aside0.mk (bi_drew HI.out)
                clear HI
                have HI := n1_
                clear n1_
                obtain ⟨V0, ok0, hs1, hs2, hs3, hfs, hR0, hne0, hH0⟩ := bi_elem HI.out m hmn (biLast m ZT ZX (biAttrs value attrs j)) (biX_at m _ _ _)
                have hfs3 := hfs 3
                have HR0 := Aside0.mk hR0
                have HNE := Aside0.mk hne0
                have HH0 := Aside0.mk hH0
                clear hs1 hs2 hfs hR0 hne0 hH0
                refine start_ (n := 18) (S := fun w' => w'.cell? ⟨g, m * 4 + 3, none⟩ = some V0) (ds := [17]) #[false, false, false, false, false, false, false, false, false, false, false, false, false, false, false, false, false, false] (by kernel_rfl) rfl rfl (hs3) (fun hHeld => ?_)
                refine with_tabW fleuronlaw23_BoundInput.tab14 fleuronlaw23_BoundInput.bits14 (fun HT_ HW_ => ?_)
                generalize wr.drew = w8 at HI hs3 hfs3 HR0 HH0 hHeld ⊢
                refine pure_ (i := 0) (N := some 93) (v := ?_) (a' := ?_) #[true, false, false, false, false, false, false, false, false, false, false, false, false, false, false, false, false, false] rfl rfl (any_of HT_.out (by kernel_rfl)) (fun _ _ _ h => h) (Or.inl ⟨by rfl, ?_⟩) ?_ ?_
                rotate_left
                · intro w'
                  go_simp
                  with_reducible rfl
                rotate_left
                · simp only [Act.put, List.setIfInBounds_toArray, List.set_cons_zero, List.set_cons_succ, i64_w, i32_w]
                  rfl
                refine pure_ (i := 1) (N := some 94) (v := ?_) (a' := ?_) #[true, true, false, false, false, false, false, false, false, false, false, false, false, false, false, false, false, false] rfl rfl (any_of HT_.out (by kernel_rfl)) (fun _ _ _ h => h) (Or.inl ⟨by rfl, ?_⟩) ?_ ?_
                rotate_left
                · intro w'
                  go_simp
                  with_reducible rfl
                rotate_left
                · simp only [Act.put, List.setIfInBounds_toArray, List.set_cons_zero, List.set_cons_succ, i64_w, i32_w]
                  rfl
                refine pure_ (i := 2) (N := some 95) (v := ?_) (a' := ?_) #[true, true, true, false, false, false, false, false, false, false, false, false, false, false, false, false, false, false] rfl rfl (any_of HT_.out (by kernel_rfl)) (fun _ _ _ h => h) (Or.inl ⟨by rfl, ?_⟩) ?_ ?_
                rotate_left
                · intro w'
                  go_simp
                  with_reducible rfl
                rotate_left
                · simp only [Act.put, List.setIfInBounds_toArray, List.set_cons_zero, List.set_cons_succ, i64_w, i32_w]
                  rfl
                refine pure_ (i := 3) (N := some 96) (v := ?_) (a' := ?_) #[true, true, true, true, false, false, false, false, false, false, false, false, false, false, false, false, false, false] rfl rfl (any_of HT_.out (by kernel_rfl)) (fun _ _ _ h => h) (Or.inl ⟨by rfl, ?_⟩) ?_ ?_
                rotate_left
                · intro w'
                  go_simp
                  with_reducible rfl
                rotate_left
                · simp only [Act.put, List.setIfInBounds_toArray, List.set_cons_zero, List.set_cons_succ, i64_w, i32_w]
                  rfl
                refine pure_ (i := 5) (N := some 98) (v := ?_) (a' := ?_) #[true, true, true, true, false, true, false, false, false, false, false, false, false, false, false, false, false, false] rfl rfl (any_of HT_.out (by kernel_rfl)) (fun _ _ _ h => h) (Or.inl ⟨by rfl, ?_⟩) ?_ ?_
                rotate_left
                · intro w'
                  go_simp
                  with_reducible rfl
                rotate_left
                · simp only [Act.put, List.setIfInBounds_toArray, List.set_cons_zero, List.set_cons_succ, i64_w, i32_w]
                  rfl
                refine pure_ (i := 6) (N := some 99) (v := ?_) (a' := ?_) #[true, true, true, true, false, true, true, false, false, false, false, false, false, false, false, false, false, false] rfl rfl (any_of HT_.out (by kernel_rfl)) (fun _ _ _ h => h) (Or.inl ⟨by rfl, ?_⟩) ?_ ?_
                rotate_left
                · intro w'
                  go_simp
                  with_reducible rfl
                rotate_left
                · simp only [Act.put, List.setIfInBounds_toArray, List.set_cons_zero, List.set_cons_succ, i64_w, i32_w]
                  rfl
                refine pure_ (i := 7) (N := some 100) (v := ?_) (a' := ?_) #[true, true, true, true, false, true, true, true, false, false, false, false, false, false, false, false, false, false] rfl rfl (any_of HT_.out (by kernel_rfl)) (fun _ _ _ h => h) (Or.inl ⟨by rfl, ?_⟩) ?_ ?_
                rotate_left
                · intro w'
                  go_simp
                  with_reducible rfl
                rotate_left
                · simp only [Act.put, List.setIfInBounds_toArray, List.set_cons_zero, List.set_cons_succ, i64_w, i32_w]
                  rfl
                refine pure_ (i := 8) (N := some 101) (v := ?_) (a' := ?_) #[true, true, true, true, false, true, true, true, true, false, false, false, false, false, false, false, false, false] rfl rfl (any_of HT_.out (by kernel_rfl)) (fun _ _ _ h => h) (Or.inl ⟨by rfl, ?_⟩) ?_ ?_
                rotate_left
                · intro w'
                  go_simp
                  with_reducible rfl
                rotate_left
                · simp only [Act.put, List.setIfInBounds_toArray, List.set_cons_zero, List.set_cons_succ, i64_w, i32_w]
                  rfl
                refine pure_ (i := 9) (N := some 102) (v := ?_) (a' := ?_) #[true, true, true, true, false, true, true, true, true, true, false, false, false, false, false, false, false, false] rfl rfl (any_of HT_.out (by kernel_rfl)) (fun _ _ _ h => h) (Or.inl ⟨by rfl, ?_⟩) ?_ ?_
                rotate_left
                · intro w'
                  go_simp
                  with_reducible rfl
                rotate_left
                · simp only [Act.put, List.setIfInBounds_toArray, List.set_cons_zero, List.set_cons_succ, i64_w, i32_w]
                  rfl
                refine take_ (i := 4) (N := some 97) (v := ?_) (a' := ?_) #[true, true, true, true, true, true, true, true, true, true, false, false, false, false, false, false, false, false] rfl rfl (take_ofW HT_.out HW_.out (by kernel_rfl)) (fun _ _ _ h => h) (Or.inl ⟨by rfl, ?_⟩) hHeld ?_ ?_
                rotate_left
                · intro w' s0
                  go_simp
                  with_reducible rfl
                rotate_left
                · simp only [Act.put, List.setIfInBounds_toArray, List.set_cons_zero, List.set_cons_succ, i64_w, i32_w]
                  rfl
                refine one_ (i := 10) (N := some 103) #[true, true, true, true, true, true, true, true, true, true, true, false, false, false, false, false, false, false] rfl rfl (one_of HT_.out (by kernel_rfl)) (by decide) (fun K hK => ?_)
                refine Kd.R_make_step (Kd.int .u8) _ 5 (by rfl) (N := 103) rfl 28 (.tmp 102) (.tmp 102) rfl q rfl rfl Try.underlying28 (.int .u8 0) 1 bi_info5 rfl (by decide) (by omega) 0 (ok := fun _ => True) (okp := fun _ => True) rfl (fun _ hk => hk) trivial (by omega) (by omega) (Below.refl _ _) (Nat.le_refl _) ?_
                intro v103 w3 ho hb hg_ hnew_
                clear hg_ hnew_
                have HM := Aside0.mk ho
                have HBW := Aside0.mk hb
                clear ho
                have hV3 := (hb.cell (World.block_lt_of_cell? _ _ hs3)).trans hs3
                clear hb
                refine hK.out _ _ (hV3) (fun hHeld => ?_)
                clear hK K
                refine norm_ (a' := ?_) ?_ ?_
                rotate_left
                · show Act.put _ (some 103) _ = _
                  simp only [Act.put, List.setIfInBounds_toArray, List.set_cons_zero, List.set_cons_succ, i64_w, i32_w]
                  rfl
                refine one_ (i := 11) (N := some 104) #[true, true, true, true, true, true, true, true, true, true, true, true, false, false, false, false, false, false] rfl rfl (one_of HT_.out (by kernel_rfl)) (by decide) (fun K hK => ?_)
                have hcv := own_string (P := Try.prog) Try.underlying28 Try.underlying5 Try.underlying9 (Kd.own_of_R HM.out)
                rw [HZV.out] at hcv
                clear HM
                refine value_ (w1 := ?_) (v := ?_) (by rfl) rfl ?_ ?_
                rotate_left 2
                · go_simp
                  constructor
                  · rfl
                  · rfl
                clear hcv
                refine hK.out _ _ (hV3) (fun hHeld => ?_)
                clear hK K
                refine norm_ (a' := ?_) ?_ ?_
                rotate_left
                · show Act.put _ (some 104) _ = _
                  simp only [Act.put, List.setIfInBounds_toArray, List.set_cons_zero, List.set_cons_succ, i64_w, i32_w]
                  rfl
                refine pure_ (i := 12) (N := some 105) (v := ?_) (a' := ?_) #[true, true, true, true, true, true, true, true, true, true, true, true, true, false, false, false, false, false] rfl rfl (any_of HT_.out (by kernel_rfl)) (fun _ _ _ h => h) (Or.inl ⟨by rfl, ?_⟩) ?_ ?_
                rotate_left
                · intro w'
                  go_simp
                  with_reducible rfl
                rotate_left
                · simp only [Act.put, List.setIfInBounds_toArray, List.set_cons_zero, List.set_cons_succ, i64_w, i32_w]
                  rfl
                refine one_ (i := 13) (N := some 106) #[true, true, true, true, true, true, true, true, true, true, true, true, true, true, false, false, false, false] rfl rfl (one_of HT_.out (by kernel_rfl)) (by decide) (fun K hK => ?_)
                refine value_ (w1 := ?_) (v := ?_) (by rfl) rfl ?_ ?_
                rotate_left 2
                · go_simp
                  constructor
                  · rfl
                  · rfl
                refine hK.out _ _ ((World.cell?_alloc_lt _ _ _ (World.block_lt_of_cell? _ _ hV3)).trans hV3) (fun hHeld => ?_)
                clear hK K
                refine norm_ (a' := ?_) ?_ ?_
                rotate_left
                · show Act.put _ (some 106) _ = _
                  simp only [Act.put, List.setIfInBounds_toArray, List.set_cons_zero, List.set_cons_succ, i64_w, i32_w]
                  rfl
                refine one_ (i := 14) (N := some 107) #[true, true, true, true, true, true, true, true, true, true, true, true, true, true, true, false, false, false] rfl rfl (one_of HT_.out (by kernel_rfl)) (by decide) (fun K hK => ?_)
                refine Kd.R_append_step k30 (w0 := w) w.heap.size (by rfl) (.tmp 97) (.tmp 106) 24 30 (.agg #[.string ⟨#[]⟩, .string ⟨#[]⟩]) 32 rfl Try.underlying24 bi_info30 rfl (by decide) (by omega) V0 (biAttrs value attrs j) (⟨biN, ZV⟩ : S30) [.string biN, .string ZV] (fun k => ok0 k ∨ True ∧ w8.heap.size ≤ k) (fun _ => False) rfl rfl ?aP (fun _ hk => hk.elim) ?aF ?aO ?aB ?aS ?aL ?_
                (case aP => exact k30_mkM _ _ _ (⟨biN, ZV⟩ : S30))
                (case aF => exact (fun k hk => .inr ⟨trivial, Nat.le_trans HBW.out.size hk⟩))
                (case aO => exact (Kd.R_mono (Kd.R_below HR0.out HBW.out) (fun k hk => .inl hk)))
                (case aB => exact (below_step HI.out.2 HBW.out))
                (case aS => exact (below_step HI.out.2 HBW.out).size)
                (case aL => rw [biAttrs_len]; omega)
                intro v107 w4 ho4 hb4 hg4 hat4
                clear hat4
                obtain ⟨A4, c4, e4⟩ := Kd.R_slice ho4
                obtain ⟨l4_, hl4⟩ : ∃ l_, (biAttrs value attrs j ++ [(⟨biN, ZV⟩ : S30)]).length = l_ := ⟨_, rfl⟩
                rw [hl4] at e4
                clear hl4
                subst e4
                have n1_ := Aside0.mk (bi_attr m (by omega) _ V0 _ ok0 _ (bi_base HI.out) HR0.out HNE.out HH0.out HBW.out hg4 hb4 ho4)
                have hV4 : w4.cell? ⟨g, m * 4 + 3, none⟩ = some V0 := by have e_ := hg4.cell_far ⟨g, m * 4 + 3, none⟩ (World.block_lt_of_cell? _ _ hV3) (fun he => HNE.out g (HR0.out.1 g he.symm) rfl); exact e_.trans hV3
                have hF4 : w4.frozen? ⟨g, m * 4 + 3, none⟩ = false := by have e_ := hg4.frozen_far ⟨g, m * 4 + 3, none⟩ (World.block_lt_of_cell? _ _ hV3) (fun he => HNE.out g (HR0.out.1 g he.symm) rfl); rw [e_, HBW.out.frozen (World.block_lt_of_cell? _ _ hs3)]; exact hfs3
                clear hg4 hb4 ho4 HI
                have HI := n1_
                clear n1_
                refine hK.out _ _ (hV4) (fun hHeld => ?_)
                clear hK K
                refine norm_ (a' := ?_) ?_ ?_
                rotate_left
                · show Act.put _ (some 107) _ = _
                  simp only [Act.put, List.setIfInBounds_toArray, List.set_cons_zero, List.set_cons_succ, i64_w, i32_w]
                  rfl
                refine pure_ (i := 15) (N := some 108) (v := ?_) (a' := ?_) #[true, true, true, true, true, true, true, true, true, true, true, true, true, true, true, true, false, false] rfl rfl (any_of HT_.out (by kernel_rfl)) (fun _ _ _ h => h) (Or.inl ⟨by rfl, ?_⟩) ?_ ?_
                rotate_left
                · intro w'
                  go_simp
                  with_reducible rfl
                rotate_left
                · simp only [Act.put, List.setIfInBounds_toArray, List.set_cons_zero, List.set_cons_succ, i64_w, i32_w]
                  rfl
                refine pure_ (i := 16) (N := some 109) (v := ?_) (a' := ?_) #[true, true, true, true, true, true, true, true, true, true, true, true, true, true, true, true, true, false] rfl rfl (any_of HT_.out (by kernel_rfl)) (fun _ _ _ h => h) (Or.inl ⟨by rfl, ?_⟩) ?_ ?_
                rotate_left
                · intro w'
                  go_simp
                  with_reducible rfl
                rotate_left
                · simp only [Act.put, List.setIfInBounds_toArray, List.set_cons_zero, List.set_cons_succ, i64_w, i32_w]
                  rfl
                refine last_ (i := 17) (N := none) #[true, true, true, true, true, true, true, true, true, true, true, true, true, true, true, true, true, true] rfl rfl (one_of HT_.out (by kernel_rfl)) (by decide) (fun K hK => ?_)
                refine skip_ (w1 := ?_) (by rfl) rfl ?_ ?_
                rotate_left
                · go_simp
                  rfl
                refine hK.out _ _ ?_
                clear hK K
                refine done_ (done_of HT_.out (by kernel_rfl)) ?_

                have e_ : (biX m ZT ZX (biAttrs value attrs j)).set m (biLast m ZT ZX (biAttrs value attrs j ++ [(⟨biN, ZV⟩ : S30)])) = biX m ZT ZX (biAttrs value attrs (j + 1)) := by rw [HAT.out]; exact biX_set _ _ _ _ _ _ _
                have n1_ : BIs w (w4.setCell ⟨g, m * 4 + 3, none⟩ (.slice A4 l4_ c4)) g n c (biX m ZT ZX (biAttrs value attrs (j + 1))) := by rw [← e_]; exact HI.out
                clear HI e_
                have HI := Aside0.mk n1_
                clear n1_ hV4 hF4
                go_wp2
                go_roundg k1
                case measure => omega
                case rel => exact ⟨j + 1, by go_num, ⟨by have h_ := HJ.out; omega, by have h_ := HJ.out; omega⟩, HI⟩
            · have hja : j = attrs := by have h_ := HJ.out; omega
              subst hja
              have hrd := Kd.S_reads' HI.out.1
              rw [← HX.out] at hrd
              have HC := Aside0.mk hrd.2.2
              have HL := Aside0.mk hrd.2.1
              have HN := Aside0.mk hrd.1
              have HB := Aside0.mk HI.out.2
              clear hrd HI hjt
              go_wp2
              go_meet
              case rel => exact ⟨some ⟨g, 0, none⟩, c, by rw [HN.out], ⟨by have h_ := HL.out; rw [HN.out] at h_; exact h_⟩, HC, HB⟩
      case rest =>
        obtain ⟨A_, c_, rfl, HL, HC, HB⟩ := hcut
        clear HZT HZX HXS HS
        as_aux_lemma =>
        go_upto_region 16 with (go_at_call 8; (with_reducible refine (bound_Input.calls 5000 a0 A_ c_ xs E _ HC.out HL.out HPI.out).mono ?_); rintro e w5 ⟨rfl, hb⟩; have n1_ := Aside0.mk (Kd.C_below HC.out hb); clear HC; have HC := n1_; clear n1_; have n1_ := Aside0.mk (below_step HB.out hb); clear HB; have HB := n1_; clear n1_; clear hb)
        go_cut [18] (fun v18 wx => v18 = .bool good ∧ Aside0 (Kd.C k26 wx A_ xs.length xs) ∧ Aside0 (Below w.heap.size w wx))
        case first =>
          by_cases cc0 : 1 ≤ n
          · have n1a : decide ((1 : Int) ≤ (n : Int)) = true := decide_eq_true (by omega)
            have n1b : decide (1 ≤ n) = true := decide_eq_true (by omega)
            by_cases cc1 : n ≤ 1000
            · have n2a : decide ((n : Int) ≤ 1000) = true := decide_eq_true (by omega)
              have n2b : decide (n ≤ 1000) = true := decide_eq_true (by omega)
              by_cases cc2 : tag ≤ 10000
              · have n3a : decide ((tag : Int) ≤ 10000) = true := decide_eq_true (by omega)
                have n3b : decide (tag ≤ 10000) = true := decide_eq_true (by omega)
                by_cases cc3 : text ≤ 10000
                · have n4a : decide ((text : Int) ≤ 10000) = true := decide_eq_true (by omega)
                  have n4b : decide (text ≤ 10000) = true := decide_eq_true (by omega)
                  by_cases cc4 : attrs ≤ 64
                  · have n5a : decide ((attrs : Int) ≤ 64) = true := decide_eq_true (by omega)
                    have n5b : decide (attrs ≤ 64) = true := decide_eq_true (by omega)
                    by_cases cc5 : attrs = 0
                    · have n6a : ((attrs : Int) == 0) = true := beq_iff_eq.mpr (by omega)
                      have n6b : (attrs == 0) = true := beq_iff_eq.mpr (by omega)
                      have hgv : good = true := by rw [HGD.out]; exact decide_eq_true (by omega)
                      subst hgv
                      clear h1 h2 h3 h4 h5 cc0 cc1 cc2 cc3 cc4 cc5
                      go_wp2
                      go_meet
                      case rel => exact ⟨rfl, HC, HB⟩
                    · have n6a : ((attrs : Int) == 0) = false := beq_eq_false_iff_ne.mpr (by omega)
                      have n6b : (attrs == 0) = false := beq_eq_false_iff_ne.mpr (by omega)
                      by_cases cc6 : value ≤ 10000
                      · have n7a : decide ((value : Int) ≤ 10000) = true := decide_eq_true (by omega)
                        have n7b : decide (value ≤ 10000) = true := decide_eq_true (by omega)
                        have hgv : good = true := by rw [HGD.out]; exact decide_eq_true (by omega)
                        subst hgv
                        clear h1 h2 h3 h4 h5 cc0 cc1 cc2 cc3 cc4 cc5 cc6
                        go_wp2
                        go_meet
                        case rel => exact ⟨rfl, HC, HB⟩
                      · have n7a : decide ((value : Int) ≤ 10000) = false := decide_eq_false (by omega)
                        have n7b : decide (value ≤ 10000) = false := decide_eq_false (by omega)
                        have hgv : good = false := by rw [HGD.out]; exact decide_eq_false (by omega)
                        subst hgv
                        clear h1 h2 h3 h4 h5 cc0 cc1 cc2 cc3 cc4 cc5 cc6
                        go_wp2
                        go_meet
                        case rel => exact ⟨rfl, HC, HB⟩
                  · have n5a : decide ((attrs : Int) ≤ 64) = false := decide_eq_false (by omega)
                    have n5b : decide (attrs ≤ 64) = false := decide_eq_false (by omega)
                    have hgv : good = false := by rw [HGD.out]; exact decide_eq_false (by omega)
                    subst hgv
                    clear h1 h2 h3 h4 h5 cc0 cc1 cc2 cc3 cc4
                    go_wp2
                    go_meet
                    case rel => exact ⟨rfl, HC, HB⟩
                · have n4a : decide ((text : Int) ≤ 10000) = false := decide_eq_false (by omega)
                  have n4b : decide (text ≤ 10000) = false := decide_eq_false (by omega)
                  have hgv : good = false := by rw [HGD.out]; exact decide_eq_false (by omega)
                  subst hgv
                  clear h1 h2 h3 h4 h5 cc0 cc1 cc2 cc3
                  go_wp2
                  go_meet
                  case rel => exact ⟨rfl, HC, HB⟩
              · have n3a : decide ((tag : Int) ≤ 10000) = false := decide_eq_false (by omega)
                have n3b : decide (tag ≤ 10000) = false := decide_eq_false (by omega)
                have hgv : good = false := by rw [HGD.out]; exact decide_eq_false (by omega)
                subst hgv
                clear h1 h2 h3 h4 h5 cc0 cc1 cc2
                go_wp2
                go_meet
                case rel => exact ⟨rfl, HC, HB⟩
            · have n2a : decide ((n : Int) ≤ 1000) = false := decide_eq_false (by omega)
              have n2b : decide (n ≤ 1000) = false := decide_eq_false (by omega)
              have hgv : good = false := by rw [HGD.out]; exact decide_eq_false (by omega)
              subst hgv
              clear h1 h2 h3 h4 h5 cc0 cc1
              go_wp2
              go_meet
              case rel => exact ⟨rfl, HC, HB⟩
          · have n1a : decide ((1 : Int) ≤ (n : Int)) = false := decide_eq_false (by omega)
            have n1b : decide (1 ≤ n) = false := decide_eq_false (by omega)
            have hgv : good = false := by rw [HGD.out]; exact decide_eq_false (by omega)
            subst hgv
            clear h1 h2 h3 h4 h5 cc0
            go_wp2
            go_meet
            case rel => exact ⟨rfl, HC, HB⟩
        case rest =>
          obtain ⟨rfl, HC, HB⟩ := hcut
          rcases HE.out with ⟨hb, rfl⟩ | ⟨hb, hg, rfl⟩ | ⟨hb, hg, rfl⟩
          · have hba : decide (a0 > 65536) = true := decide_eq_true (by omega)
            have hbb : decide ((65536 : Int) < a0) = true := decide_eq_true (by omega)
            clear HE HGD
            go_wp2_with (first | (go_at_call 9; (with_reducible refine (fleuronref15_Input.calls 5000 a0 A_ c_ xs _ _ HC.out HL.out HPR.out).mono ?_); rintro e w6 ⟨rfl, hd_⟩; have hb := hd_.below; clear hd_; have n1_ := Aside0.mk (Kd.C_below HC.out hb); clear HC; have HC := n1_; clear n1_; have n1_ := Aside0.mk (below_step HB.out hb); clear HB; have HB := n1_; clear n1_; clear hb) | (go_at_call 7; refine (fleuronlaw23_awake.calls 5 true _ bi_awake rfl).mono ?_; rintro e w7 ⟨rfl, hb⟩; have n1_ := Aside0.mk (below_step HB.out hb); clear HB; have HB := n1_; clear n1_; clear hb))
            go_ret
            exact ⟨rfl, HB.out⟩
          · have hba : decide (a0 > 65536) = false := decide_eq_false (by omega)
            have hbb : decide ((65536 : Int) < a0) = false := decide_eq_false (by omega)
            clear HE HGD
            subst hg
            go_wp2_with (first | (go_at_call 9; (with_reducible refine (fleuronref15_Input.calls 5000 a0 A_ c_ xs _ _ HC.out HL.out HPR.out).mono ?_); rintro e w6 ⟨rfl, hd_⟩; have hb := hd_.below; clear hd_; have n1_ := Aside0.mk (Kd.C_below HC.out hb); clear HC; have HC := n1_; clear n1_; have n1_ := Aside0.mk (below_step HB.out hb); clear HB; have HB := n1_; clear n1_; clear hb) | (go_at_call 7; refine (fleuronlaw23_awake.calls 5 true _ bi_awake rfl).mono ?_; rintro e w7 ⟨rfl, hb⟩; have n1_ := Aside0.mk (below_step HB.out hb); clear HB; have HB := n1_; clear n1_; clear hb))
            go_ret
            exact ⟨rfl, HB.out⟩
          · have hba : decide (a0 > 65536) = false := decide_eq_false (by omega)
            have hbb : decide ((65536 : Int) < a0) = false := decide_eq_false (by omega)
            clear HE HGD
            subst hg
            go_wp2_with (first | (go_at_call 9; (with_reducible refine (fleuronref15_Input.calls 5000 a0 A_ c_ xs _ _ HC.out HL.out HPR.out).mono ?_); rintro e w6 ⟨rfl, hd_⟩; have hb := hd_.below; clear hd_; have n1_ := Aside0.mk (Kd.C_below HC.out hb); clear HC; have HC := n1_; clear n1_; have n1_ := Aside0.mk (below_step HB.out hb); clear HB; have HB := n1_; clear n1_; clear hb) | (go_at_call 7; refine (fleuronlaw23_awake.calls 5 true _ bi_awake rfl).mono ?_; rintro e w7 ⟨rfl, hb⟩; have n1_ := Aside0.mk (below_step HB.out hb); clear HB; have HB := n1_; clear n1_; clear hb))
            go_ret
            exact ⟨rfl, HB.out⟩

theorem biZ_size (m : Nat) : (biZ m).size = m := by simp [biZ, strOfNums, ByteArray.size]
theorem bi_wrap (i : Nat) (h : i ≤ 5000) : wrap64 ((i : Int) + 1) = ((i + 1 : Nat) : Int) := by unfold wrap64; omega
theorem bi_bind {α β : Type} {x : Option α} {v : α} {f : α → Option β} {r : Option β} (hx : x = some v) (h : f v = r) : x.bind f = r := by rw [hx]; exact h
theorem bi_rd30 (v a j : Nat) (h : j < a) : rd_T30 (biAttrs v a a) (j : Int) = biAttr v a j := by
  simp [rd_T30, biAttrs, List.getD_eq_getElem?_getD, h]
theorem bi_rdR (m : Nat) (T X : ByteArray) (al : List S30) (j : Nat) (h : j < m) : rd_T26 (biX m T X al) (j : Int) = biRaw j := by
  have e : ¬ m = j := by omega
  simp [rd_T26, biX, biChain, List.getD_eq_getElem?_getD, List.getElem?_set, e, show j < m + 1 by omega]
theorem bi_rdL (m : Nat) (T X : ByteArray) (al : List S30) : rd_T26 (biX m T X al) (m : Int) = biLast m T X al := by
  have := biX_at m T X al
  simpa [rd_T26] using this
theorem bi_div (v a j : Nat) (hv : v ≤ 10010) (hj : j < a) : v / (a - j) > 10000 ↔ (j + 1 = a ∧ v > 10000) := by
  by_cases e : j + 1 = a
  · rw [show a - j = 1 by omega, Nat.div_one]; constructor
    · intro h; exact ⟨e, h⟩
    · intro h; exact h.2
  · have h2 : v / (a - j) ≤ v / 2 := Nat.div_le_div_left (by omega) (by omega)
    constructor
    · intro h; omega
    · intro h; exact absurd h.1 e
theorem bi_oddl (v a : Nat) (ha : a ≤ 70) (hv : v ≤ 10010) : ∀ (d k j : Nat), j + d = a → d < k → bound_odd.l0 k (biAttrs v a a) (a : Int) (j : Int) = some (decide (j < a ∧ v > 10000))
  | d, 0, _, _, h => by omega
  | 0, k + 1, j, hj, _ => by
    simp only [bound_odd.l0]
    rw [if_neg (by omega), decide_eq_false (by omega)]
  | d + 1, k + 1, j, hj, hk => by
    have hlt : j < a := by omega
    have hdv := bi_div v a j hv hlt
    simp only [bound_odd.l0]
    rw [bi_rd30 v a j hlt, biAttrs_len, bi_wrap j (by omega), bi_oddl v a ha hv d k (j + 1) (by omega) (by omega), if_pos (by omega), if_pos (by omega), if_pos (by omega)]
    rw [if_neg (show ¬ (((biAttr v a j).f0).size : Int) > 10000 by show ¬ ((1 : Nat) : Int) > 10000; decide)]
    have hs : ((biAttr v a j).f1).size = v / (a - j) := biZ_size _
    rw [hs]
    by_cases h : v / (a - j) > 10000
    · rw [if_pos (by omega), decide_eq_true (by have := hdv.1 h; omega)]
    · rw [if_neg (by omega)]
      congr 1
      apply decide_eq_decide.2
      constructor
      · intro h2; exact ⟨hlt, h2.2⟩
      · intro h2
        refine ⟨?_, h2.2⟩
        rcases Nat.lt_or_ge (j + 1) a with h3 | h3
        · exact h3
        · exact absurd (hdv.2 ⟨by omega, h2.2⟩) h
theorem bi_odd0 (f : Int) (k : Nat) : bound_odd.f (k + 2) f biA (⟨#[]⟩ : ByteArray) [] = some false := by
  unfold bound_odd.f
  rw [if_neg (by decide), if_neg (by decide), decide_eq_false (by decide), bound_odd.j0, if_neg (by decide), bound_odd.l0, if_neg (by decide)]
def biB (tag text attrs value : Nat) : Prop := tag > 10000 ∨ text > 10000 ∨ attrs > 64 ∨ (0 < attrs ∧ value > 10000)
instance (a b c d : Nat) : Decidable (biB a b c d) := by unfold biB; infer_instance
theorem bi_oddL (f : Int) (tag text a v : Nat) (ha : a ≤ 70) (hv : v ≤ 10010) (k : Nat) (hk : a + 2 < k) : bound_odd.f k f (biZ tag) (biZ text) (biAttrs v a a) = some (decide (biB tag text a v)) := by
  obtain ⟨k, rfl⟩ : ∃ m, k = m + 1 := ⟨k - 1, by omega⟩
  unfold bound_odd.f
  rw [biZ_size, biZ_size, biAttrs_len]
  by_cases h1 : tag > 10000
  · rw [if_pos (by omega), bound_odd.j0, if_pos rfl, decide_eq_true (.inl h1)]
  · rw [if_neg (by omega)]
    by_cases h2 : text > 10000
    · rw [if_pos (by omega), bound_odd.j0, if_pos rfl, decide_eq_true (.inr (.inl h2))]
    · rw [if_neg (by omega)]
      by_cases h3 : a > 64
      · rw [decide_eq_true (show (a : Int) > 64 by omega), bound_odd.j0, if_pos rfl, decide_eq_true (.inr (.inr (.inl h3)))]
      · rw [decide_eq_false (show ¬ (a : Int) > 64 by omega), bound_odd.j0, if_neg (by decide), biAttrs_len]
        have h := bi_oddl v a ha hv a k 0 (by omega) (by omega)
        rw [show ((0 : Nat) : Int) = 0 from rfl] at h
        rw [h]
        congr 1
        apply decide_eq_decide.2
        unfold biB
        omega
theorem bi_inl (m tag text a v : Nat) (hm : m ≤ 1000) (ha : a ≤ 70) (hv : v ≤ 10010) : ∀ (d k i : Nat), i + d = m + 1 → d + 200 < k → i ≤ m →
    bound_Input.l0 k (biX m (biZ tag) (biZ text) (biAttrs v a a)) ((m + 1 : Nat) : Int) (i : Int) = some (if biB tag text a v then 4 else 0)
  | d, 0, _, _, h, _ => by omega
  | 0, k + 1, i, hj, _, hi => by omega
  | d + 1, k + 1, i, hj, hk, hi => by
    simp only [bound_Input.l0]
    rw [biX_len, if_pos (by omega), if_pos (by omega), if_pos (by omega), bi_wrap i (by omega)]
    by_cases e : i < m
    · rw [bi_rdR m _ _ _ i e]
      obtain ⟨k2, rfl⟩ : ∃ q, k = q + 2 := ⟨k - 2, by omega⟩
      refine bi_bind (bi_odd0 _ k2) ?_
      rw [if_neg (by decide)]
      exact bi_inl m tag text a v hm ha hv d (k2 + 2) (i + 1) (by omega) (by omega) (by omega)
    · obtain rfl : i = m := by omega
      rw [bi_rdL]
      refine bi_bind (bi_oddL _ tag text a v ha hv k (by omega)) ?_
      by_cases hb : biB tag text a v
      · rw [if_pos hb, if_pos (decide_eq_true hb)]
      · rw [if_neg hb, if_neg (by rw [decide_eq_false hb]; decide)]
        obtain ⟨k2, rfl⟩ : ∃ q, k = q + 1 := ⟨k - 1, by omega⟩
        rw [bound_Input.l0, if_neg (by omega)]
/-- What the two answer of the table. -/
def biE (a0 : Int) (n tag text attrs value : Nat) : Int := if a0 > 65536 then 3 else if 1 ≤ n ∧ n ≤ 1000 ∧ ¬ biB tag text attrs value then 0 else 4
def biXs (n tag text attrs value : Nat) : List S26 := if n = 0 then [] else biX (n - 1) (biZ tag) (biZ text) (biAttrs value attrs attrs)
theorem bi_input (a0 : Int) (n tag text a v : Nat) (hn : n ≤ 1100) (ha : a ≤ 70) (hv : v ≤ 10010) : bound_Input.f 5000 a0 (biXs n tag text a v) = some (biE a0 n tag text a v) := by
  unfold bound_Input.f biE
  by_cases h0 : a0 > 65536
  · rw [if_pos h0, if_pos h0]
  · rw [if_neg h0, if_neg h0]
    by_cases h1 : n = 0
    · subst h1
      rw [show biXs 0 tag text a v = [] from rfl, if_pos (by decide), show 5000 = 4999 + 1 from rfl, bound_Input.j0, if_pos rfl, if_neg (by omega)]
    · have hx : biXs n tag text a v = biX (n - 1) (biZ tag) (biZ text) (biAttrs v a a) := by unfold biXs; rw [if_neg h1]
      rw [hx, biX_len, if_neg (by omega), show 5000 = 4999 + 1 from rfl, bound_Input.j0]
      by_cases h2 : n > 1000
      · rw [decide_eq_true (by omega), if_pos rfl, if_neg (by omega)]
      · rw [decide_eq_false (by omega), if_neg (by decide), biX_len]
        have h := bi_inl (n - 1) tag text a v (by omega) ha hv n 4999 0 (by omega) (by omega) (by omega)
        rw [show ((0 : Nat) : Int) = 0 from rfl] at h
        rw [h]
        by_cases hb : biB tag text a v
        · rw [if_pos hb, if_neg (by intro h; exact h.2.2 hb)]
        · rw [if_neg hb, if_pos ⟨by omega, by omega, hb⟩]
theorem bi_r1 (m tag text v a : Nat) (hm : m ≤ 1000) (ha : a ≤ 64) (hv : v ≤ 10010) (r : Option Int) : ∀ (d k j : Nat), j + d = a → d < k →
    ((if j < a ∧ v > 10000 then some 4 else fleuronref15_Input.l0 (k - d - 1) (biX m (biZ tag) (biZ text) (biAttrs v a a)) ((m + 1 : Nat) : Int)) = r) →
    fleuronref15_Input.l1 k (biX m (biZ tag) (biZ text) (biAttrs v a a)) (m : Int) (j : Int) = r
  | d, 0, _, _, h, _ => by omega
  | 0, k + 1, j, hj, _, h => by
    rw [fleuronref15_Input.l1, biX_len, bi_rdL, if_pos (by omega), if_pos (by omega), show (biLast m (biZ tag) (biZ text) (biAttrs v a a)).f3 = biAttrs v a a from rfl, biAttrs_len, if_neg (by omega), bi_wrap m (by omega)]
    rw [if_neg (by omega)] at h
    exact h
  | d + 1, k + 1, j, hj, hk, h => by
    have hlt : j < a := by omega
    have hdv := bi_div v a j hv hlt
    rw [fleuronref15_Input.l1, biX_len, bi_rdL, if_pos (by omega), if_pos (by omega), show (biLast m (biZ tag) (biZ text) (biAttrs v a a)).f3 = biAttrs v a a from rfl, biAttrs_len, if_pos (by omega), if_pos (by omega), bi_rd30 v a j hlt]
    rw [if_neg (show ¬ (((biAttr v a j).f0).size : Int) > 10000 by show ¬ ((1 : Nat) : Int) > 10000; decide)]
    have hs : ((biAttr v a j).f1).size = v / (a - j) := biZ_size _
    rw [hs]
    by_cases h2 : v / (a - j) > 10000
    · rw [if_pos (by omega)]
      rw [if_pos (by have := hdv.1 h2; omega)] at h
      exact h
    · rw [if_neg (by omega), bi_wrap j (by omega)]
      refine bi_r1 m tag text v a hm ha hv r d k (j + 1) (by omega) (by omega) ?_
      rw [← h, show k + 1 - (d + 1) - 1 = k - d - 1 by omega]
      by_cases h3 : v > 10000
      · have h4 : j + 1 < a := by
          rcases Nat.lt_or_ge (j + 1) a with h4 | h4
          · exact h4
          · exact absurd (hdv.2 ⟨by omega, h3⟩) h2
        rw [if_pos ⟨h4, h3⟩, if_pos ⟨hlt, h3⟩]
      · rw [if_neg (fun h => h3 h.2), if_neg (fun h => h3 h.2)]
theorem bi_r0 (m tag text a v : Nat) (hm : m ≤ 1000) (ha : a ≤ 70) (hv : v ≤ 10010) : ∀ (d k i : Nat), i + d = m + 1 → 3 * d + 200 < k → i ≤ m →
    fleuronref15_Input.l0 k (biX m (biZ tag) (biZ text) (biAttrs v a a)) (i : Int) = some (if biB tag text a v then 4 else 0)
  | d, 0, _, _, h, _ => by omega
  | 0, k + 1, i, hj, _, hi => by omega
  | d + 1, k + 1, i, hj, hk, hi => by
    obtain ⟨k1, rfl⟩ : ∃ q, k = q + 1 := ⟨k - 1, by omega⟩
    rw [fleuronref15_Input.l0, biX_len, if_pos (by omega), if_pos (by omega)]
    by_cases e : i < m
    · rw [bi_rdR m _ _ _ i e, if_neg (show ¬ (((biRaw i).f1).size : Int) > 10000 by show ¬ ((1 : Nat) : Int) > 10000; decide), if_neg (show ¬ (((biRaw i).f2).size : Int) > 10000 by show ¬ ((0 : Nat) : Int) > 10000; decide),
        decide_eq_false (show ¬ (((biRaw i).f3).length : Int) > 64 by show ¬ ((0 : Nat) : Int) > 64; decide), fleuronref15_Input.j2, if_neg (by decide)]
      obtain ⟨k2, rfl⟩ : ∃ q, k1 = q + 1 := ⟨k1 - 1, by omega⟩
      rw [fleuronref15_Input.l1, biX_len, bi_rdR m _ _ _ i e, if_pos (by omega), if_pos (by omega), if_neg (show ¬ (0 : Int) < (((biRaw i).f3).length : Int) by show ¬ (0 : Int) < ((0 : Nat) : Int); decide), bi_wrap i (by omega)]
      exact bi_r0 m tag text a v hm ha hv d k2 (i + 1) (by omega) (by omega) (by omega)
    · obtain rfl : i = m := by omega
      have hT : (biLast i (biZ tag) (biZ text) (biAttrs v a a)).f1.size = tag := biZ_size _
      have hX : (biLast i (biZ tag) (biZ text) (biAttrs v a a)).f2.size = text := biZ_size _
      have hA : (biLast i (biZ tag) (biZ text) (biAttrs v a a)).f3.length = a := biAttrs_len _ _ _
      rw [bi_rdL, hT, hX, hA]
      by_cases h1 : tag > 10000
      · rw [if_pos (by omega), fleuronref15_Input.j2, if_pos rfl, if_pos (.inl h1)]
      · rw [if_neg (by omega)]
        by_cases h2 : text > 10000
        · rw [if_pos (by omega), fleuronref15_Input.j2, if_pos rfl, if_pos (.inr (.inl h2))]
        · rw [if_neg (by omega)]
          by_cases h3 : a > 64
          · rw [decide_eq_true (show (a : Int) > 64 by omega), fleuronref15_Input.j2, if_pos rfl, if_pos (.inr (.inr (.inl h3)))]
          · rw [decide_eq_false (show ¬ (a : Int) > 64 by omega), fleuronref15_Input.j2, if_neg (by decide)]
            have h := bi_r1 i tag text v a hm (by omega) hv (some (if biB tag text a v then 4 else 0)) a k1 0 (by omega) (by omega) (by
              by_cases h4 : 0 < a ∧ v > 10000
              · rw [if_pos h4, if_pos (.inr (.inr (.inr h4)))]
              · rw [if_neg h4, if_neg (by unfold biB; omega)]
                obtain ⟨k3, hk3⟩ : ∃ q, k1 - a - 1 = q + 1 := ⟨k1 - a - 2, by omega⟩
                rw [hk3, fleuronref15_Input.l0, biX_len, if_neg (by omega)])
            exact h
theorem bi_ref (a0 : Int) (n tag text a v : Nat) (hn : n ≤ 1100) (ha : a ≤ 70) (hv : v ≤ 10010) : fleuronref15_Input.f 5000 a0 (biXs n tag text a v) = some (biE a0 n tag text a v) := by
  unfold fleuronref15_Input.f biE
  by_cases h0 : a0 > 65536
  · rw [if_pos h0, if_pos h0]
  · rw [if_neg h0, if_neg h0]
    by_cases h1 : n = 0
    · subst h1
      rw [show biXs 0 tag text a v = [] from rfl, if_pos (by decide), show 5000 = 4999 + 1 from rfl, fleuronref15_Input.j0, if_pos rfl, if_neg (by omega)]
    · have hx : biXs n tag text a v = biX (n - 1) (biZ tag) (biZ text) (biAttrs v a a) := by unfold biXs; rw [if_neg h1]
      rw [hx, biX_len, if_neg (by omega), show 5000 = 4999 + 1 from rfl, fleuronref15_Input.j0]
      by_cases h2 : n > 1000
      · rw [decide_eq_true (by omega), if_pos rfl, if_neg (by omega)]
      · rw [decide_eq_false (by omega), if_neg (by decide)]
        have h := bi_r0 (n - 1) tag text a v (by omega) ha hv n 4999 0 (by omega) (by omega) (by omega)
        rw [show ((0 : Nat) : Int) = 0 from rfl] at h
        rw [h]
        by_cases hb : biB tag text a v
        · rw [if_pos hb, if_neg (by intro h; exact h.2.2 hb)]
        · rw [if_neg hb, if_pos ⟨by omega, by omega, hb⟩]

set_option maxHeartbeats 20000000 in
set_option maxRecDepth 100000 in
theorem bi_out (a0 a1 a2 a3 a4 a5 : Int) (w : World) (h : (a1 < 0) ∨ (¬ a1 < 0 ∧ a1 > 1100) ∨ (¬ a1 < 0 ∧ ¬ a1 > 1100 ∧ a2 < 0) ∨ (¬ a1 < 0 ∧ ¬ a1 > 1100 ∧ ¬ a2 < 0 ∧ a2 > 10010) ∨ (¬ a1 < 0 ∧ ¬ a1 > 1100 ∧ ¬ a2 < 0 ∧ ¬ a2 > 10010 ∧ a3 < 0) ∨ (¬ a1 < 0 ∧ ¬ a1 > 1100 ∧ ¬ a2 < 0 ∧ ¬ a2 > 10010 ∧ ¬ a3 < 0 ∧ a3 > 10010) ∨ (¬ a1 < 0 ∧ ¬ a1 > 1100 ∧ ¬ a2 < 0 ∧ ¬ a2 > 10010 ∧ ¬ a3 < 0 ∧ ¬ a3 > 10010 ∧ a4 < 0) ∨ (¬ a1 < 0 ∧ ¬ a1 > 1100 ∧ ¬ a2 < 0 ∧ ¬ a2 > 10010 ∧ ¬ a3 < 0 ∧ ¬ a3 > 10010 ∧ ¬ a4 < 0 ∧ a4 > 70) ∨ (¬ a1 < 0 ∧ ¬ a1 > 1100 ∧ ¬ a2 < 0 ∧ ¬ a2 > 10010 ∧ ¬ a3 < 0 ∧ ¬ a3 > 10010 ∧ ¬ a4 < 0 ∧ ¬ a4 > 70 ∧ a5 < 0) ∨ (¬ a1 < 0 ∧ ¬ a1 > 1100 ∧ ¬ a2 < 0 ∧ ¬ a2 > 10010 ∧ ¬ a3 < 0 ∧ ¬ a3 > 10010 ∧ ¬ a4 < 0 ∧ ¬ a4 > 70 ∧ ¬ a5 < 0 ∧ a5 > 10010)) :
    Calls Try.prog 3 #[.int .i64 a0, .int .i64 a1, .int .i64 a2, .int .i64 a3, .int .i64 a4, .int .i64 a5] w fun e w' => e = .returned (.bool true) ∧ Below w.heap.size w w' := by
  have HB := Aside0.mk (Below.refl w.heap.size w)
  rcases h with k0 | ⟨k0, k1⟩ | ⟨k0, k1, k2⟩ | ⟨k0, k1, k2, k3⟩ | ⟨k0, k1, k2, k3, k4⟩ | ⟨k0, k1, k2, k3, k4, k5⟩ | ⟨k0, k1, k2, k3, k4, k5, k6⟩ | ⟨k0, k1, k2, k3, k4, k5, k6, k7⟩ | ⟨k0, k1, k2, k3, k4, k5, k6, k7, k8⟩ | ⟨k0, k1, k2, k3, k4, k5, k6, k7, k8, k9⟩
  all_goals
    go_enter Try.func3, Try.ntmps3
    go_wp2_with (go_at_call 7; refine (fleuronlaw23_awake.calls 5 true _ bi_awake rfl).mono ?_; rintro e w7 ⟨rfl, hb⟩; have n1_ := Aside0.mk (below_step HB.out hb); clear HB; have HB := n1_; clear n1_; clear hb)
    go_ret
    exact ⟨rfl, HB.out⟩
def fleuronlaw23_BoundInput.f (a0 a1 a2 a3 a4 a5 : Int) : Option Bool := some true
theorem fleuronlaw23_BoundInput.calls (a0 a1 a2 a3 a4 a5 : Int) (r : Bool) (w : World) (h : fleuronlaw23_BoundInput.f a0 a1 a2 a3 a4 a5 = some r) (ht0_ : r = true) :
    Calls Try.prog 3 #[.int .i64 a0, .int .i64 a1, .int .i64 a2, .int .i64 a3, .int .i64 a4, .int .i64 a5] w fun e w' => e = .returned (.bool r) ∧ Below w.heap.size w w' := by
  subst ht0_
  by_cases hin : 0 ≤ a1 ∧ a1 ≤ 1100 ∧ 0 ≤ a2 ∧ a2 ≤ 10010 ∧ 0 ≤ a3 ∧ a3 ≤ 10010 ∧ 0 ≤ a4 ∧ a4 ≤ 70 ∧ 0 ≤ a5 ∧ a5 ≤ 10010
  · obtain ⟨p1, q1, p2, q2, p3, q3, p4, q4, p5, q5⟩ := hin
    obtain ⟨n, rfl⟩ := Int.eq_ofNat_of_zero_le p1
    obtain ⟨tag, rfl⟩ := Int.eq_ofNat_of_zero_le p2
    obtain ⟨text, rfl⟩ := Int.eq_ofNat_of_zero_le p3
    obtain ⟨attrs, rfl⟩ := Int.eq_ofNat_of_zero_le p4
    obtain ⟨value, rfl⟩ := Int.eq_ofNat_of_zero_le p5
    have HI := Aside0.mk (bi_input a0 n tag text attrs value (by omega) (by omega) (by omega))
    have HR := Aside0.mk (bi_ref a0 n tag text attrs value (by omega) (by omega) (by omega))
    have HZ1 : Aside0 (strOfNums (List.replicate tag 0) = biZ tag) := ⟨rfl⟩
    have HZ2 : Aside0 (strOfNums (List.replicate text 0) = biZ text) := ⟨rfl⟩
    have HX : Aside0 (biXs n tag text attrs value = if n = 0 then [] else biX (n - 1) (biZ tag) (biZ text) (biAttrs value attrs attrs)) := ⟨rfl⟩
    obtain ⟨good, hgood⟩ : ∃ g_ : Bool, g_ = decide (1 ≤ n ∧ n ≤ 1000 ∧ tag ≤ 10000 ∧ text ≤ 10000 ∧ attrs ≤ 64 ∧ (attrs = 0 ∨ value ≤ 10000)) := ⟨_, rfl⟩
    have HG := Aside0.mk hgood
    refine bi_main a0 n tag text attrs value (biE a0 n tag text attrs value) good (biXs n tag text attrs value) (biZ tag) (biZ text) w (by omega) (by omega) (by omega) (by omega) (by omega) HZ1 HZ2 HX HG HI HR ⟨?_⟩
    rw [hgood]
    unfold biE
    have hb : ¬ biB tag text attrs value ↔ tag ≤ 10000 ∧ text ≤ 10000 ∧ attrs ≤ 64 ∧ (attrs = 0 ∨ value ≤ 10000) := by unfold biB; omega
    by_cases h0 : a0 > 65536
    · rw [if_pos h0]; exact .inl ⟨h0, rfl⟩
    · rw [if_neg h0]
      by_cases h1 : 1 ≤ n ∧ n ≤ 1000 ∧ ¬ biB tag text attrs value
      · rw [if_pos h1]; exact .inr (.inl ⟨h0, decide_eq_true ⟨h1.1, h1.2.1, hb.1 h1.2.2⟩, rfl⟩)
      · rw [if_neg h1]; exact .inr (.inr ⟨h0, decide_eq_false (fun h2 => h1 ⟨h2.1, h2.2.1, hb.2 h2.2.2⟩), rfl⟩)
  · by_cases k0 : a1 < 0
    · exact bi_out a0 a1 a2 a3 a4 a5 w (.inl k0)
    by_cases k1 : a1 > 1100
    · exact bi_out a0 a1 a2 a3 a4 a5 w (.inr (.inl ⟨k0, k1⟩))
    by_cases k2 : a2 < 0
    · exact bi_out a0 a1 a2 a3 a4 a5 w (.inr (.inr (.inl ⟨k0, k1, k2⟩)))
    by_cases k3 : a2 > 10010
    · exact bi_out a0 a1 a2 a3 a4 a5 w (.inr (.inr (.inr (.inl ⟨k0, k1, k2, k3⟩))))
    by_cases k4 : a3 < 0
    · exact bi_out a0 a1 a2 a3 a4 a5 w (.inr (.inr (.inr (.inr (.inl ⟨k0, k1, k2, k3, k4⟩)))))
    by_cases k5 : a3 > 10010
    · exact bi_out a0 a1 a2 a3 a4 a5 w (.inr (.inr (.inr (.inr (.inr (.inl ⟨k0, k1, k2, k3, k4, k5⟩))))))
    by_cases k6 : a4 < 0
    · exact bi_out a0 a1 a2 a3 a4 a5 w (.inr (.inr (.inr (.inr (.inr (.inr (.inl ⟨k0, k1, k2, k3, k4, k5, k6⟩)))))))
    by_cases k7 : a4 > 70
    · exact bi_out a0 a1 a2 a3 a4 a5 w (.inr (.inr (.inr (.inr (.inr (.inr (.inr (.inl ⟨k0, k1, k2, k3, k4, k5, k6, k7⟩))))))))
    by_cases k8 : a5 < 0
    · exact bi_out a0 a1 a2 a3 a4 a5 w (.inr (.inr (.inr (.inr (.inr (.inr (.inr (.inr (.inl ⟨k0, k1, k2, k3, k4, k5, k6, k7, k8⟩)))))))))
    by_cases k9 : a5 > 10010
    · exact bi_out a0 a1 a2 a3 a4 a5 w (.inr (.inr (.inr (.inr (.inr (.inr (.inr (.inr (.inr ⟨k0, k1, k2, k3, k4, k5, k6, k7, k8, k9⟩)))))))))
    exact absurd ⟨by omega, by omega, by omega, by omega, by omega, by omega, by omega, by omega, by omega, by omega⟩ hin
end

/-- THE ONE PURE STATEMENT of fleuronlaw23_BoundInput: yours. -/
def fleuronlaw23_BoundInput.Pure : Prop := ∀ (a0 : Int) (a1 : Int) (a2 : Int) (a3 : Int) (a4 : Int) (a5 : Int), (Lit.int .i64 a0).wf = true → (Lit.int .i64 a1).wf = true → (Lit.int .i64 a2).wf = true → (Lit.int .i64 a3).wf = true → (Lit.int .i64 a4).wf = true → (Lit.int .i64 a5).wf = true → fleuronlaw23_BoundInput.f a0 a1 a2 a3 a4 a5 = some true
theorem fleuronlaw23_BoundInput.walk (P : fleuronlaw23_BoundInput.Pure) (a0 : Int) (a1 : Int) (a2 : Int) (a3 : Int) (a4 : Int) (a5 : Int) (w : World) (w0 : (Lit.int .i64 a0).wf = true) (w1 : (Lit.int .i64 a1).wf = true) (w2 : (Lit.int .i64 a2).wf = true) (w3 : (Lit.int .i64 a3).wf = true) (w4 : (Lit.int .i64 a4).wf = true) (w5 : (Lit.int .i64 a5).wf = true) :
    Calls Try.prog 3 #[.int .i64 a0, .int .i64 a1, .int .i64 a2, .int .i64 a3, .int .i64 a4, .int .i64 a5] w fun e w' => e = .returned (.bool true) ∧ Below w.heap.size w w' := by
  have h := P a0 a1 a2 a3 a4 a5 w0 w1 w2 w3 w4 w5
  refine (fleuronlaw23_BoundInput.calls a0 a1 a2 a3 a4 a5 true w h rfl).mono ?_
  rintro e w' ⟨rfl, hd⟩
  exact ⟨rfl, hd⟩

end Go.Proofs.Ytmadmnbaefifiaa.Print
