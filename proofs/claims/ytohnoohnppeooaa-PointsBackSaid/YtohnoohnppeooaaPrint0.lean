/- Written by a program of this session out of the translation, with contracts given by hand beside. -/
import Derived.Test.YtohnoohnppeooaaProg
import Derived.Below
import Derived.Deep.Draws
import Derived.Deep.AppendLies
import Derived.Maps.AppendAt
import Derived.OwnWalk
import Derived.Laws.BytesArg
import Derived.Laws.MakeOwn
import Derived.Laws.OwnMore
import Derived.Deep.OwnRows
import Derived.Tactics
import Derived.Lib.ConvBytes
import Derived.Laws.Slices
import Derived.WalkKit
import Derived.KernelRfl
import Derived.RowKit3
import Derived.Deep.LoopGhost
import Derived.Deep.QuietTactic
import Derived.BigQuiet
import Derived.WideLaws
import Derived.Deep.DeepCutAuto
import Derived.Deep.CutBlock
import Derived.Deep.RegionHeld3
import Derived.Laws.Rows
import Derived.Lib.AppendStr
import Derived.ArgAppend
import Derived.Laws.IdiomCopy
import Derived.OrdersHeld
import Derived.Laws.BitsLemmas
import Derived.RowKit
import Derived.Lib.Hide
import Derived.Lib.OthersKept
import Derived.Laws.Cover4
import Derived.Lib.ConvBytes
import Derived.Lib.AtoiErrMem
import Derived.Shelf.Strings.Builder1
import Derived.Shelf.RegionOpen
import Derived.Test.YtohnoohnppeooaaWWords
import Derived.Test.YtohnoohnppeooaaWLast
import Derived.Test.YtohnoohnppeooaaWTab
import Derived.Test.YtohnoohnppeooaaWFour
import Derived.Test.YtohnoohnppeooaaWQPut
import Derived.Test.YtohnoohnppeooaaWApart
import Derived.Test.YtohnoohnppeooaaWArr
import Derived.Test.YtohnoohnppeooaaWZeros
import Derived.Test.YtohnoohnppeooaaWFoot
import Derived.Test.YtohnoohnppeooaaWKept
import Derived.Test.YtohnoohnppeooaaWShare
import Derived.Test.YtohnoohnppeooaaWN
import Derived.Test.YtohnoohnppeooaaWFootNe
import Derived.Test.YtohnoohnppeooaaWAt
import Derived.Test.YtohnoohnppeooaaWEqStruct
import Derived.Test.YtohnoohnppeooaaWRepsOne
import Derived.Test.YtohnoohnppeooaaWInv
import Derived.Test.YtohnoohnppeooaaWInvWords
import Derived.Test.YtohnoohnppeooaaWGuard
import Derived.Test.YtohnoohnppeooaaWNEv
import Derived.Test.YtohnoohnppeooaaWMore
namespace Go.Proofs.Ytohnoohnppeooaa.Print
open Go.RowKit Go.Proofs.YtohnoohnppeooaaW.PrintWords Go.Proofs.YtohnoohnppeooaaW.PrintLast Go.Proofs.YtohnoohnppeooaaW.PrintMore
attribute [local go_sem] max2_int min2_int max_two min_two max_three min_three max_four min_four   -- for this text's walks alone
set_option linter.unusedVariables false
set_option linter.unusedSimpArgs false



def errW : Option Int → Value
  | none => .nilIface
  | some c => .iface 0 (.int .i64 c)
theorem errW_none : errW none = .nilIface := rfl
theorem errW_some (c : Int) : errW (some c) = .iface 0 (.int .i64 c) := rfl

theorem info5 : (Try.prog.info? 5).map (fun i => (i.zero, i.size, i.bytes)) = some (some (.int .u8 0), 1, 1) := by kernel_rfl
theorem info9 : (Try.prog.info? 9).map (fun i => (i.zero, i.size, i.bytes)) = some (some (.string ⟨#[]⟩), 1, 16) := by kernel_rfl
theorem info21 : (Try.prog.info? 21).map (fun i => (i.zero, i.size, i.bytes)) = some (some (.int .i32 0), 1, 4) := by kernel_rfl
-- the values' own types
def rd_L2 (xs : List (List Int)) (i : Int) : (List Int) := xs.getD i.toNat ([] : List Int)
theorem at_L2 {w : World} {A : Option Addr} {n : Nat} {xs : List (List Int)} (h : Kd.C (Kd.slice 5 (Kd.int .u8)) w A n xs) (i : Int) (h0 : 0 ≤ i) (h1 : i < n) : ∃ ad A0 c0, A = some ad ∧ w.cell? (ad.add i.toNat) = some (.slice A0 (rd_L2 xs i).length c0) ∧ (rd_L2 xs i).length ≤ c0 ∧ (Kd.int .u8).C w A0 (rd_L2 xs i).length (rd_L2 xs i) := by
  obtain ⟨ad, c, e, _, hK, hc0⟩ := Kd.C_get h ([] : List Int) i h0 h1
  have hc : ∀ j u, c[j]? = some u → w.cell? (ad.add (i.toNat * 1 + j)) = some u := hc0
  obtain ⟨A0, c0, rfl, l0, g0⟩ := hK
  exact ⟨ad, A0, c0, e, by have hq := hc 0 _ rfl; rwa [Nat.mul_one, Nat.add_zero] at hq, l0, g0⟩

def rd_L3 (xs : List (List Int)) (i : Int) : (List Int) := xs.getD i.toNat ([] : List Int)
theorem at_L3 {w : World} {A : Option Addr} {n : Nat} {xs : List (List Int)} (h : Kd.C (Kd.slice 21 (Kd.int .i32)) w A n xs) (i : Int) (h0 : 0 ≤ i) (h1 : i < n) : ∃ ad A0 c0, A = some ad ∧ w.cell? (ad.add i.toNat) = some (.slice A0 (rd_L3 xs i).length c0) ∧ (rd_L3 xs i).length ≤ c0 ∧ (Kd.int .i32).C w A0 (rd_L3 xs i).length (rd_L3 xs i) := by
  obtain ⟨ad, c, e, _, hK, hc0⟩ := Kd.C_get h ([] : List Int) i h0 h1
  have hc : ∀ j u, c[j]? = some u → w.cell? (ad.add (i.toNat * 1 + j)) = some u := hc0
  obtain ⟨A0, c0, rfl, l0, g0⟩ := hK
  exact ⟨ad, A0, c0, e, by have hq := hc 0 _ rfl; rwa [Nat.mul_one, Nat.add_zero] at hq, l0, g0⟩

/-- The signs of bytes as a range over the text has them: each with its place. -/
def runesFrom (s : ByteArray) : Nat → Nat → List (Nat × Int)
  | 0, _ => []
  | f + 1, p => if p < s.size then (p, ((Utf8.decode s p).1 : Int)) :: runesFrom s f (p + (Utf8.decode s p).2) else []
def runes (s : ByteArray) : List (Nat × Int) := runesFrom s s.size 0
theorem decode_width (s : ByteArray) (pos : Nat) (h : pos < s.size) : 1 ≤ (Utf8.decode s pos).2 := by
  rcases Nat.lt_or_ge (s[pos]'h).toNat 128 with ha | ha
  · rw [decode_ascii s pos h ha]; exact Nat.le_refl _
  · exact (decode_high s pos h ha).2
theorem size_strOfNums (l : List Int) : (strOfNums l).size = l.length := by simp [strOfNums, ByteArray.size]
/-- Read's step over one sign: was the last one a CR; what is out so far. -/
def readStep (st : Bool × List Int) (x : Nat × Int) : Bool × List Int :=
  (x.2 == 13, if (x.1 = 0 ∧ x.2 = 65279) ∨ (x.2 = 10 ∧ st.1 = true) then st.2 else st.2 ++ [if x.2 = 13 ∨ x.2 = 12 then 10 else if x.2 = 0 then 65533 else x.2])
def readOf (s : ByteArray) : List Int := ((runes s).foldl readStep (false, [])).2
/-- An owned row stays where an iterator is moved on. -/
theorem R_iterAt {α : Type} {d : Kd α} {e : Nat} {w : World} {base : Nat} {v : Value} {xs : List α} {g : Nat} (h : d.R e w base (fun k => k ≠ g) v xs) (s : ByteArray) (pos : Nat) : d.R e (w.iterAt g s pos) base (fun k => k ≠ g) v xs :=
  Kd.R_step h (fun k hk _ => Lib.iterAt_other w g k s pos hk)
/-- The document's step over one sign: is it the first; was the last one a CR; what is out so far. -/
def refStep (st : Bool × Bool × List Int) (x : Int) : Bool × Bool × List Int :=
  if st.1 = true ∧ x = 65279 then (false, st.2.1, st.2.2) else if st.2.1 = true ∧ x = 10 then (false, false, st.2.2) else (false, x == 13, st.2.2 ++ [if x = 13 ∨ x = 12 then 10 else if x = 0 then 65533 else x])
def refReadOf (s : ByteArray) : List Int := (((runes s).map Prod.snd).foldl refStep (true, false, [])).2.2
/-- A byte with a small letter. -/
def lowByte (c : UInt8) : UInt8 := if 65 ≤ c.toNat ∧ c.toNat ≤ 90 then c + 32 else c
def lowStr (s : ByteArray) : ByteArray := ⟨(s.data.toList.map lowByte).toArray⟩

/-- '[]byte("..")' of a constant: the row that was laid for it gets its mark; from there on it is read alone. -/
theorem conv_own {t e : Nat} {base : Nat} {ok : Nat → Prop} {A : Option Addr} {c n : Nat} {xs : List Int} {w0 w : World} (ht : Try.prog.underlying t = some (.slice e)) (he : Try.prog.underlying e = some (.int .u8)) (h : (Kd.int .u8).R e w base ok (.slice A n c) xs) (hne : xs ≠ []) (hB : Below base w0 w) :
    ∃ W', (convert t t (.slice A n c)).run Try.prog w = .ok (.slice A n c) W' ∧ (Kd.int .u8).C W' A n xs ∧ n ≤ c ∧ Below base w0 W' := by
  obtain ⟨hn, hc, hC⟩ := Kd.R_reads' h
  subst hn
  obtain ⟨g, cap, cur, hv, hg, hh, _⟩ : ∃ g cap cur, (Value.slice A xs.length c) = .slice (some ⟨g, 0, none⟩) xs.length cap ∧ base ≤ g ∧ w.heap[g]? = some (.cells cur e (0, 0)) ∧ True := by
    obtain ⟨_, inner, ⟨_, ho⟩, _⟩ := h
    rcases ho with ⟨_, h0⟩ | ⟨g, cap, cur, hv, hg, hh, _⟩
    · exact absurd (List.eq_nil_of_length_eq_zero h0) hne
    · exact ⟨g, cap, cur, hv, hg, hh, trivial⟩
  injection hv with hA _ hcc
  subst hA
  have hlt : g < w.heap.size := (Array.getElem?_eq_some_iff.1 hh).1
  have hsh : w.shape? g = some (e, cur.size) := by simp [World.shape?, hh]
  have hcell : ∀ a : Addr, (w.freeze ⟨g, cur.size, none⟩ 1).cell? a = w.cell? a := by
    intro a
    unfold World.freeze
    rw [if_neg (by decide)]
    simp only [World.cell?, Array.getElem?_modify]
    by_cases hb : g = a.block
    · subst hb
      simp [hh]
    · simp [hb]
  refine ⟨w.freeze ⟨g, cur.size, none⟩ 1, ?_, ?_, hc, Lib.below_freeze hB hg 1⟩
  · simp [convert, run_underlying ht, run_underlying he, markStringish, hsh, Result.andThen]
  · have hr := Kd.reads_of_C (enc := Value.int .u8) (d := (0 : Int)) (h1 := fun _ => rfl) hC
    refine Kd.C_of_reads (d := (0 : Int)) ⟨hr.1, hr.2.1, fun hp => ?_⟩
    obtain ⟨ad, e1, hc1⟩ := hr.2.2 hp
    exact ⟨ad, e1, fun j hj => (hcell _).trans (hc1 j hj)⟩
/-- '[]byte(s)' of any string. -/
theorem conv_str {src dst e : Nat} {s : ByteArray} {w W : World} (hs : Try.prog.underlying src = some .string) (ht : Try.prog.underlying dst = some (.slice e)) (he : Try.prog.underlying e = some (.int .u8)) (hsz : s.size ≤ 9223372036854775807) :
    ∃ g c W', (convert src dst (.string s)).run Try.prog W = .ok (.slice (some ⟨g, 0, none⟩) s.size c) W' ∧ (Kd.int .u8).C W' (some ⟨g, 0, none⟩) (bytesOf s).length (bytesOf s) ∧ (bytesOf s).length = s.size ∧ s.size ≤ c ∧ Below W.heap.size W W' :=
  ⟨_, _, _, print_bytes src dst e hs ht he s W, Kd.C_of_reads (d := (0 : Int)) (by rw [bytesOf_length]; exact bytes_reads W e s hsz), bytesOf_length s, grownCap_ge _ _ _ _, bytes_below (Below.refl _ _) (Nat.le_refl _) e s⟩
/-- '[]byte(s)' as one step of a region. -/
theorem conv_event {P : Program} {ops : Array Oper} {rest : List Oper} {o : Oper} {a : Act} {Q : Exit → Act → World → Prop} {W : World} (hgd : o.guard = none) {N : Tmp} (_hd : o.dst = some N) {src dst e : TypeId} {x : Operand} {s : ByteArray} {t : List Int}
    (ho : o.op = .convert src dst x) (hx : a.eval x = .string s) (hs : P.underlying src = some .string) (ht : P.underlying dst = some (.slice e)) (he : P.underlying e = some (.int .u8)) (hb : t = bytesOf s) (hz : s.size ≤ 9223372036854775807)
    (h : ∀ g c W', (Kd.int .u8).C W' (some ⟨g, 0, none⟩) t.length t → t.length ≤ c → Below W.heap.size W W' → wpList P ops Q rest (a.put o.dst (.slice (some ⟨g, 0, none⟩) t.length c)) W') : wpList P ops Q (o :: rest) a W := by
  subst hb
  refine Kd.event_run hgd ?_ (h _ (grownCap W s.size 0 e) _ (Kd.C_of_reads (d := (0 : Int)) (by rw [bytesOf_length]; exact bytes_reads W e s hz)) (by rw [bytesOf_length]; exact grownCap_ge _ _ _ _) (bytes_below (Below.refl _ _) (Nat.le_refl _) e s))
  unfold execOp
  simp [ho, hx, print_bytes src dst e hs ht he s W, bytesOf_length, Result.andThen]

/-! The shelf's contracts of strings.Builder at this program (written by the kit's lay-shelf.mjs and lay-plain.mjs and my shelf.py). -/
def shl_lays240_ren : Go.Shelf.Ren := ⟨fun | 240 => 28 | 276 => 29 | n => n, fun | 0 => 0 | 4 => 4 | 9 => 9 | 20 => 20 | 70 => 39 | 72 => 41 | 164 => 47 | 37 => 22 | 5 => 5 | n => n, fun | n => n⟩
theorem shl_lays240 : Go.Proofs.Lays.n240 Try.prog shl_lays240_ren := {
  mixed := by kernel_rfl
  f240 := Try.func28.trans (congrArg some (by kernel_rfl))
  f276 := Try.func29.trans (congrArg some (by kernel_rfl))
  t0 := Try.underlying0
  a0 := Try.isAgg0
  z0 := Try.sizeOf0
  v0 := Try.zeroValue0
  t4 := Try.underlying4
  a4 := Try.isAgg4
  z4 := Try.sizeOf4
  v4 := Try.zeroValue4
  t9 := Try.underlying9
  a9 := Try.isAgg9
  z9 := Try.sizeOf9
  v9 := Try.zeroValue9
  t20 := Try.underlying20
  a20 := Try.isAgg20
  z20 := Try.sizeOf20
  v20 := Try.zeroValue20
  t70 := Try.underlying39
  a70 := Try.isAgg39
  z70 := Try.sizeOf39
  v70 := Try.zeroValue39
  t72 := Try.underlying41
  a72 := Try.isAgg41
  z72 := Try.sizeOf41
  v72 := Try.zeroValue41
  t164 := Try.underlying47
  a164 := Try.isAgg47
  z164 := Try.sizeOf47
  v164 := Try.zeroValue47 }
open Go.Shelf in
theorem shl_Builder_X72_240 : Builder.X72 Try.prog shl_lays240_ren := {
  sizeBuilder := by kernel_rfl
  liesBuilder := by kernel_rfl }
open Go.Shelf in
theorem shl_Builder_copyCheck (B b : Nat) (bs : List Value) (w : World) (h : Lib.IsBuilder 41 5 B b bs w) :
    Calls Try.prog 28 #[.pointer (some ⟨b, 0, none⟩)] w fun e w' => e = .returned (.tuple #[]) ∧ (Lib.BuilderAt 41 5 B b (.pointer (some ⟨b, 0, none⟩)) bs w' ∧ Below B w w') := Any.Builder_copyCheck shl_lays240 shl_Builder_X72_240 B b bs w h
def shl_lays167_ren : Go.Shelf.Ren := ⟨fun | 167 => 26 | 240 => 28 | 276 => 29 | n => n, fun | 0 => 0 | 4 => 4 | 5 => 5 | 9 => 9 | 20 => 20 | 37 => 22 | 70 => 39 | 72 => 41 | 75 => 43 | 164 => 47 | 80 => 45 | n => n, fun | n => n⟩
theorem shl_lays167 : Go.Proofs.Lays.n167 Try.prog shl_lays167_ren := {
  mixed := by kernel_rfl
  f167 := Try.func26.trans (congrArg some (by kernel_rfl))
  f240 := Try.func28.trans (congrArg some (by kernel_rfl))
  f276 := Try.func29.trans (congrArg some (by kernel_rfl))
  t0 := Try.underlying0
  a0 := Try.isAgg0
  z0 := Try.sizeOf0
  v0 := Try.zeroValue0
  t4 := Try.underlying4
  a4 := Try.isAgg4
  z4 := Try.sizeOf4
  v4 := Try.zeroValue4
  t5 := Try.underlying5
  a5 := Try.isAgg5
  z5 := Try.sizeOf5
  v5 := Try.zeroValue5
  t9 := Try.underlying9
  a9 := Try.isAgg9
  z9 := Try.sizeOf9
  v9 := Try.zeroValue9
  t20 := Try.underlying20
  a20 := Try.isAgg20
  z20 := Try.sizeOf20
  v20 := Try.zeroValue20
  t37 := Try.underlying22
  a37 := Try.isAgg22
  z37 := Try.sizeOf22
  v37 := Try.zeroValue22
  t70 := Try.underlying39
  a70 := Try.isAgg39
  z70 := Try.sizeOf39
  v70 := Try.zeroValue39
  t72 := Try.underlying41
  a72 := Try.isAgg41
  z72 := Try.sizeOf41
  v72 := Try.zeroValue41
  t75 := Try.underlying43
  a75 := Try.isAgg43
  z75 := Try.sizeOf43
  v75 := Try.zeroValue43
  t164 := Try.underlying47
  a164 := Try.isAgg47
  z164 := Try.sizeOf47
  v164 := Try.zeroValue47 }
open Go.Shelf in
theorem shl_Builder_Extra_167 : Builder.Extra Try.prog shl_lays167_ren := {
  sizeBuilder := by kernel_rfl
  liesBuilder := by kernel_rfl
  t5 := Try.underlying5
  a5 := Try.isAgg5
  z5 := Try.sizeOf5
  v5 := Try.zeroValue5
  infoByte := by kernel_rfl
  cellsByte := by kernel_rfl
  sizeByte := by kernel_rfl
  neB5 := by decide }
open Go.Shelf in
theorem shl_Builder_WriteByte (B b : Nat) (bs : List Value) (c : Int) (w : World) (h : Lib.IsBuilder 41 5 B b bs w) (hlen : bs.length + 1 ≤ 140737488355328) (hBw : B ≤ w.heap.size) :
    Calls Try.prog 26 #[.pointer (some ⟨b, 0, none⟩), .int .u8 c] w fun e w' => e = .returned .nilIface ∧ (Lib.BuilderAt 41 5 B b (.pointer (some ⟨b, 0, none⟩)) (bs ++ [.int .u8 c]) w' ∧ Below B w w') := Any.Builder_WriteByte shl_lays167 shl_Builder_Extra_167 B b bs c w h hlen hBw
def shl_lays169_ren : Go.Shelf.Ren := ⟨fun | 169 => 27 | n => n, fun | 70 => 39 | 9 => 9 | 0 => 0 | 72 => 41 | 37 => 22 | 127 => 46 | 3 => 3 | 5 => 5 | n => n, fun | n => n⟩
theorem shl_lays169 : Go.Proofs.Lays.n169 Try.prog shl_lays169_ren := {
  mixed := by kernel_rfl
  f169 := Try.func27.trans (congrArg some (by kernel_rfl))
  t0 := Try.underlying0
  a0 := Try.isAgg0
  z0 := Try.sizeOf0
  v0 := Try.zeroValue0
  t3 := Try.underlying3
  a3 := Try.isAgg3
  z3 := Try.sizeOf3
  v3 := Try.zeroValue3
  t9 := Try.underlying9
  a9 := Try.isAgg9
  z9 := Try.sizeOf9
  v9 := Try.zeroValue9
  t37 := Try.underlying22
  a37 := Try.isAgg22
  z37 := Try.sizeOf22
  v37 := Try.zeroValue22
  t70 := Try.underlying39
  a70 := Try.isAgg39
  z70 := Try.sizeOf39
  v70 := Try.zeroValue39
  t72 := Try.underlying41
  a72 := Try.isAgg41
  z72 := Try.sizeOf41
  v72 := Try.zeroValue41
  t127 := Try.underlying46
  a127 := Try.isAgg46
  z127 := Try.sizeOf46
  v127 := Try.zeroValue46 }
open Go.Shelf in
theorem shl_Builder_Extra_169 : Builder.Extra Try.prog shl_lays169_ren := {
  sizeBuilder := by kernel_rfl
  liesBuilder := by kernel_rfl
  t5 := Try.underlying5
  a5 := Try.isAgg5
  z5 := Try.sizeOf5
  v5 := Try.zeroValue5
  infoByte := by kernel_rfl
  cellsByte := by kernel_rfl
  sizeByte := by kernel_rfl
  neB5 := by decide }
open Go.Shelf in
theorem shl_Builder_String (B b : Nat) (l : List UInt8) (w : World) (h : Lib.IsBuilder 41 5 B b (Lib.byteCells l) w) (h0 : l ≠ []) :
    Calls Try.prog 27 #[.pointer (some ⟨b, 0, none⟩)] w fun e w' => e = .returned (.string ⟨l.toArray⟩) ∧ Below B w w' := Any.Builder_String shl_lays169 shl_Builder_Extra_169 B b l w h h0
open Go.Shelf in
theorem shl_Builder_String_empty (B b : Nat) (w : World) (h : Lib.IsBuilder 41 5 B b [] w) (hBw : B ≤ w.heap.size) :
    Calls Try.prog 27 #[.pointer (some ⟨b, 0, none⟩)] w fun e w' => e = .returned (.string ⟨#[]⟩) ∧ Below B w w' := Any.Builder_String_empty shl_lays169 shl_Builder_Extra_169 B b w h hBw
open Go.Shelf in
theorem shl_Builder_String_any (B b : Nat) (l : List UInt8) (w : World) (h : Lib.IsBuilder 41 5 B b (Lib.byteCells l) w) (hBw : B ≤ w.heap.size) :
    Calls Try.prog 27 #[.pointer (some ⟨b, 0, none⟩)] w fun e w' => e = .returned (.string ⟨l.toArray⟩) ∧ Below B w w' := Any.Builder_String_any shl_lays169 shl_Builder_Extra_169 B b l w h hBw
end Go.Proofs.Ytohnoohnppeooaa.Print
