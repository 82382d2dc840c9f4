/- Part of a proof about a given program: see the last module of the claim. -/
import Derived.Shelf.Strings.Builder1
import Derived.Shelf.Strings.Builder2
import Derived.Shelf.Strings.OnBuilder
import Derived.Shelf.Small.Utf8
import Derived.Shelf.Small.Strs
import Derived.Shelf.Strings.BuilderF
import Derived.Shelf.Strings.BuilderK
import Derived.Shelf.Strconv.Itoa0
import Derived.Shelf.Strconv.Itoa1
import Derived.Shelf.LaysM
import Derived.Shelf.Strconv.Itoa2
import Derived.Shelf.Strconv.Itoa3
import Derived.Shelf.Strings.Search1
import Derived.Shelf.Strings.Search2
import Derived.Shelf.Strings.Search3
import Derived.Shelf.Strings.Cut
import Derived.Shelf.Strings.Count
import Derived.Shelf.Strings.Shaped
import Derived.Shelf.Strings.Prefix
import Derived.Shelf.Strings.Runes
import Derived.Shelf.Strings.AsciiSet
import Derived.Shelf.Bits.Mul64
import Derived.Shelf.Strings.Repeat
import Derived.Shelf.Unicode.DecodeSlow
import Derived.Test.YtloaeinogiplbaaGreatDoorProg
import Derived.WalkKit
import Derived.BigCall
import Derived.Test.YtloaeinogiplbaaGreatDoorB
section
namespace Go.Proofs
open Go.Shelf
def Tryz.lays169_ren : Go.Shelf.Ren := ⟨fun | 169 => 174 | n => n, fun | 70 => 189 | 9 => 9 | 0 => 0 | 72 => 192 | 37 => 190 | 127 => 226 | 3 => 3 | 5 => 5 | n => n, fun | n => n⟩
theorem Tryz.lays169 : Go.Proofs.Lays.n169 Tryz.prog Tryz.lays169_ren := {
  mixed := by kernel_rfl
  f169 := Tryz.func174.trans (congrArg some (by kernel_rfl))
  t0 := Tryz.underlying0
  a0 := Tryz.isAgg0
  z0 := Tryz.sizeOf0
  v0 := Tryz.zeroValue0
  t3 := Tryz.underlying3
  a3 := Tryz.isAgg3
  z3 := Tryz.sizeOf3
  v3 := Tryz.zeroValue3
  t9 := Tryz.underlying9
  a9 := Tryz.isAgg9
  z9 := Tryz.sizeOf9
  v9 := Tryz.zeroValue9
  t37 := Tryz.underlying190
  a37 := Tryz.isAgg190
  z37 := Tryz.sizeOf190
  v37 := Tryz.zeroValue190
  t70 := Tryz.underlying189
  a70 := Tryz.isAgg189
  z70 := Tryz.sizeOf189
  v70 := Tryz.zeroValue189
  t72 := Tryz.underlying192
  a72 := Tryz.isAgg192
  z72 := Tryz.sizeOf192
  v72 := Tryz.zeroValue192
  t127 := Tryz.underlying226
  a127 := Tryz.isAgg226
  z127 := Tryz.sizeOf226
  v127 := Tryz.zeroValue226 }
theorem Tryz.Builder_Extra_169 : Builder.Extra Tryz.prog Tryz.lays169_ren := {
  sizeBuilder := by kernel_rfl
  liesBuilder := by kernel_rfl
  t5 := Tryz.underlying5
  a5 := Tryz.isAgg5
  z5 := Tryz.sizeOf5
  v5 := Tryz.zeroValue5
  infoByte := by kernel_rfl
  cellsByte := by kernel_rfl
  sizeByte := by kernel_rfl
  neB5 := by decide }
def Tryz.lays156_ren : Go.Shelf.Ren := ⟨fun | 156 => 131 | 165 => 172 | 166 => 173 | 169 => 174 | 240 => 211 | 241 => 212 | 276 => 240 | 277 => 241 | n => n, fun | 31 => 150 | 9 => 9 | 3 => 3 | 4 => 4 | 0 => 0 | 20 => 20 | 72 => 192 | 76 => 185 | 70 => 189 | 37 => 190 | 75 => 184 | 127 => 226 | 164 => 245 | 5 => 5 | 80 => 187 | n => n, fun | n => n⟩
theorem Tryz.lays156 : Go.Proofs.Lays.n156 Tryz.prog Tryz.lays156_ren := {
  mixed := by kernel_rfl
  f156 := Tryz.func131.trans (congrArg some (by kernel_rfl))
  f165 := Tryz.func172.trans (congrArg some (by kernel_rfl))
  f166 := Tryz.func173.trans (congrArg some (by kernel_rfl))
  f169 := Tryz.func174.trans (congrArg some (by kernel_rfl))
  f240 := Tryz.func211.trans (congrArg some (by kernel_rfl))
  f241 := Tryz.func212.trans (congrArg some (by kernel_rfl))
  f276 := Tryz.func240.trans (congrArg some (by kernel_rfl))
  f277 := Tryz.func241.trans (congrArg some (by kernel_rfl))
  t0 := Tryz.underlying0
  a0 := Tryz.isAgg0
  z0 := Tryz.sizeOf0
  v0 := Tryz.zeroValue0
  t3 := Tryz.underlying3
  a3 := Tryz.isAgg3
  z3 := Tryz.sizeOf3
  v3 := Tryz.zeroValue3
  t4 := Tryz.underlying4
  a4 := Tryz.isAgg4
  z4 := Tryz.sizeOf4
  v4 := Tryz.zeroValue4
  t9 := Tryz.underlying9
  a9 := Tryz.isAgg9
  z9 := Tryz.sizeOf9
  v9 := Tryz.zeroValue9
  t20 := Tryz.underlying20
  a20 := Tryz.isAgg20
  z20 := Tryz.sizeOf20
  v20 := Tryz.zeroValue20
  t31 := Tryz.underlying150
  a31 := Tryz.isAgg150
  z31 := Tryz.sizeOf150
  v31 := Tryz.zeroValue150
  t37 := Tryz.underlying190
  a37 := Tryz.isAgg190
  z37 := Tryz.sizeOf190
  v37 := Tryz.zeroValue190
  t70 := Tryz.underlying189
  a70 := Tryz.isAgg189
  z70 := Tryz.sizeOf189
  v70 := Tryz.zeroValue189
  t72 := Tryz.underlying192
  a72 := Tryz.isAgg192
  z72 := Tryz.sizeOf192
  v72 := Tryz.zeroValue192
  t75 := Tryz.underlying184
  a75 := Tryz.isAgg184
  z75 := Tryz.sizeOf184
  v75 := Tryz.zeroValue184
  t76 := Tryz.underlying185
  a76 := Tryz.isAgg185
  z76 := Tryz.sizeOf185
  v76 := Tryz.zeroValue185
  t127 := Tryz.underlying226
  a127 := Tryz.isAgg226
  z127 := Tryz.sizeOf226
  v127 := Tryz.zeroValue226
  t164 := Tryz.underlying245
  a164 := Tryz.isAgg245
  z164 := Tryz.sizeOf245
  v164 := Tryz.zeroValue245 }
theorem Tryz.Builder_Extra_156 : Builder.Extra Tryz.prog Tryz.lays156_ren := {
  sizeBuilder := by kernel_rfl
  liesBuilder := by kernel_rfl
  t5 := Tryz.underlying5
  a5 := Tryz.isAgg5
  z5 := Tryz.sizeOf5
  v5 := Tryz.zeroValue5
  infoByte := by kernel_rfl
  cellsByte := by kernel_rfl
  sizeByte := by kernel_rfl
  neB5 := by decide }
open Go.RowKit in
theorem Tryz.strings_Join (bk o c : Nat) (xs : List ByteArray) (sep : ByteArray) (w : World) (hcells : ∀ (j : Nat) x, xs[j]? = some x → w.cell? ⟨bk, o + j, none⟩ = some (.string x)) (hbk : bk < w.heap.size) (hN : xs.length ≤ 140737488355328) (hcap : xs.length ≤ c) (hlen : (Lib.join (xs.map (·.data.toList)) sep.data.toList).length ≤ 140737488355328) :
    Calls Tryz.prog 131 #[.slice (some ⟨bk, o, none⟩) xs.length c, .string sep] w fun e w' => e = .returned (.string ⟨(Lib.join (xs.map (·.data.toList)) sep.data.toList).toArray⟩) ∧ Below w.heap.size w w' := Any.strings_Join Tryz.lays156 Tryz.Builder_Extra_156 bk o c xs sep w hcells hbk hN hcap hlen
open Go.RowKit in
theorem Tryz.Builder_String_any_k (B b : Nat) (l : List UInt8) (w : World) (h : Lib.IsBuilderF 192 5 B b (Lib.byteCells l) w) (hBw : B ≤ w.heap.size) :
    Calls Tryz.prog 174 #[.pointer (some ⟨b, 0, none⟩)] w fun e w' => e = .returned (.string ⟨l.toArray⟩) ∧ (Lib.IsBuilderF 192 5 B b (Lib.byteCells l) w' ∧ Below B w w' ∧ Lib.OthersKept 5 (some b) w w') := Any.Builder_String_any_k Tryz.lays169 Tryz.Builder_Extra_169 B b l w h hBw
def Tryz.lays171_ren : Go.Shelf.Ren := ⟨fun | 171 => 206 | 243 => 234 | 246 => 250 | 283 => 257 | 284 => 258 | 285 => 259 | 286 => 260 | 129 => 262 | 317 => 261 | 318 => 263 | 319 => 264 | 320 => 265 | 337 => 266 | 338 => 267 | n => n, fun | 3 => 3 | 9 => 9 | 2 => 2 | 4 => 4 | 171 => 273 | 0 => 0 | 53 => 252 | 37 => 190 | 5 => 5 | 173 => 276 | 212 => 279 | 51 => 248 | 20 => 20 | 213 => 280 | 46 => 230 | 232 => 283 | 233 => 284 | n => n, fun | 17 => 5 | 18 => 6 | 19 => 7 | n => n⟩
theorem Tryz.lays171 : Go.Proofs.Lays.n171 Tryz.prog Tryz.lays171_ren := {
  mixed := by kernel_rfl
  f129 := Tryz.func262.trans (congrArg some (by kernel_rfl))
  f171 := Tryz.func206.trans (congrArg some (by kernel_rfl))
  f243 := Tryz.func234.trans (congrArg some (by kernel_rfl))
  f246 := Tryz.func250.trans (congrArg some (by kernel_rfl))
  f283 := Tryz.func257.trans (congrArg some (by kernel_rfl))
  f284 := Tryz.func258.trans (congrArg some (by kernel_rfl))
  f285 := Tryz.func259.trans (congrArg some (by kernel_rfl))
  f286 := Tryz.func260.trans (congrArg some (by kernel_rfl))
  f317 := Tryz.func261.trans (congrArg some (by kernel_rfl))
  f318 := Tryz.func263.trans (congrArg some (by kernel_rfl))
  f319 := Tryz.func264.trans (congrArg some (by kernel_rfl))
  f320 := Tryz.func265.trans (congrArg some (by kernel_rfl))
  f337 := Tryz.func266.trans (congrArg some (by kernel_rfl))
  f338 := Tryz.func267.trans (congrArg some (by kernel_rfl))
  t0 := Tryz.underlying0
  a0 := Tryz.isAgg0
  z0 := Tryz.sizeOf0
  v0 := Tryz.zeroValue0
  t2 := Tryz.underlying2
  a2 := Tryz.isAgg2
  z2 := Tryz.sizeOf2
  v2 := Tryz.zeroValue2
  t3 := Tryz.underlying3
  a3 := Tryz.isAgg3
  z3 := Tryz.sizeOf3
  v3 := Tryz.zeroValue3
  t4 := Tryz.underlying4
  a4 := Tryz.isAgg4
  z4 := Tryz.sizeOf4
  v4 := Tryz.zeroValue4
  t5 := Tryz.underlying5
  a5 := Tryz.isAgg5
  z5 := Tryz.sizeOf5
  v5 := Tryz.zeroValue5
  t9 := Tryz.underlying9
  a9 := Tryz.isAgg9
  z9 := Tryz.sizeOf9
  v9 := Tryz.zeroValue9
  t20 := Tryz.underlying20
  a20 := Tryz.isAgg20
  z20 := Tryz.sizeOf20
  v20 := Tryz.zeroValue20
  t37 := Tryz.underlying190
  a37 := Tryz.isAgg190
  z37 := Tryz.sizeOf190
  v37 := Tryz.zeroValue190
  t46 := Tryz.underlying230
  a46 := Tryz.isAgg230
  z46 := Tryz.sizeOf230
  v46 := Tryz.zeroValue230
  t51 := Tryz.underlying248
  a51 := Tryz.isAgg248
  z51 := Tryz.sizeOf248
  v51 := Tryz.zeroValue248
  t53 := Tryz.underlying252
  a53 := Tryz.isAgg252
  z53 := Tryz.sizeOf252
  v53 := Tryz.zeroValue252
  t171 := Tryz.underlying273
  a171 := Tryz.isAgg273
  z171 := Tryz.sizeOf273
  v171 := Tryz.zeroValue273
  t173 := Tryz.underlying276
  a173 := Tryz.isAgg276
  z173 := Tryz.sizeOf276
  v173 := Tryz.zeroValue276
  t212 := Tryz.underlying279
  a212 := Tryz.isAgg279
  z212 := Tryz.sizeOf279
  v212 := Tryz.zeroValue279
  t213 := Tryz.underlying280
  a213 := Tryz.isAgg280
  z213 := Tryz.sizeOf280
  t232 := Tryz.underlying283
  a232 := Tryz.isAgg283
  z232 := Tryz.sizeOf283
  v232 := Tryz.zeroValue283
  t233 := Tryz.underlying284
  a233 := Tryz.isAgg284
  z233 := Tryz.sizeOf284
  v233 := Tryz.zeroValue284
  g17 := by kernel_rfl
  g18 := by kernel_rfl
  g19 := by kernel_rfl }
open Go.RowKit Go.Sort Go.Lib in
theorem Tryz.strconv_Itoa_small (i : Nat) (hi : i < 100) (w : World) :
    Calls Tryz.prog 206 #[.int .i64 i] w fun e w' => e = .returned (.string ⟨(Lib.decDigits i).toArray⟩) ∧ w' = w := Any.strconv_Itoa_small Tryz.lays171 i hi w
end Go.Proofs
end

section
open Go Go.RowKit
namespace Go.Proofs
set_option maxRecDepth 100000
set_option maxHeartbeats 4000000
set_option linter.unusedVariables false
set_option linter.unusedSimpArgs false

theorem Tryz.write_k (B b : Nat) (bs : List Value) (s : ByteArray) (w : World) (h : Lib.IsBuilderF 192 5 B b bs w) (hlen : bs.length + s.size ≤ 140737488355328) (hBw : B ≤ w.heap.size) :
    Calls Tryz.prog 173 #[.pointer (some ⟨b, 0, none⟩), .string s] w fun e w' => e = .returned (.tuple #[.int .i64 s.size, .nilIface]) ∧ (Lib.BuilderAtF 192 5 B b (.pointer (some ⟨b, 0, none⟩)) (bs ++ Lib.strCells s) w' ∧ Below B w w' ∧ Lib.OthersKept 5 (some b) w w') :=
  Any.Builder_WriteString_k { Tryz.lays156 with } Tryz.Builder_Extra_156 B b bs s w h hlen hBw

def TxtIs (w : World) (l : List UInt8) (e : Ending) (w' : World) : Prop := e = .returned (.string ⟨l.toArray⟩) ∧ Below w.heap.size w w'

theorem text_zero (neg : Bool) (a : Option Addr) (cap : Nat) (w : World) :
    Calls Tryz.prog 170 #[.agg #[.bool neg, .slice a 0 cap]] w (TxtIs w [48]) := by
  go_enter Tryz.func170, Tryz.ntmps170
  go_wp2
  go_ret
  exact ⟨rfl, (Below.refl _ _).alloc (Nat.le_refl _) _⟩

/-- Between the rounds of text at one digit: before the digit is written, and behind it. -/
def TR (B : Nat) (W1 : World) (l0 l1 : List UInt8) (i : Value) (wr : World) : Prop :=
  (i = .int .i64 0 ∧ Lib.IsBuilderF 192 5 B B (Lib.byteCells l0) wr ∧ Below B W1 wr) ∨ (i = .int .i64 (-1) ∧ Lib.IsBuilderF 192 5 B B (Lib.byteCells l1) wr ∧ Below B W1 wr)

theorem decDigits_len (d : Nat) (hd : d < 100) : (Lib.decDigits d).length ≤ 2 := by
  by_cases h : d < 10
  · rw [Lib.decDigits_one h]; simp
  · rw [Lib.decDigits_two h hd]; simp

theorem text_one (neg : Bool) (b o cap d : Nat) (w : World) (hd : d < 100) (hcap : 1 ≤ cap) (hc : w.cell? ⟨b, o, none⟩ = some (.int .i64 d)) :
    Calls Tryz.prog 170 #[.agg #[.bool neg, .slice (some ⟨b, o, none⟩) 1 cap]] w (TxtIs w ((if neg then [45] else []) ++ Lib.decDigits d)) := by
  have hbw : b < w.heap.size := by
    rcases Nat.lt_or_ge b w.heap.size with h | h
    · exact h
    · have : w.heap[b]? = none := by simp; omega
      simp [World.cell?, this] at hc
  go_enter Tryz.func170, Tryz.ntmps170
  cases neg with
  | false =>
    go_wp2
    go_loopw [4] (fun i wr => TR (w.heap.size + 1) ((w.alloc (.cells #[.bool false, .slice (some ⟨b, o, none⟩) 1 cap] 100)).alloc (.cells #[.pointer none, .slice none 0 0] 192)) [] (Lib.decDigits d) i wr) (fun i _ => (intOf i + 1).toNat)
    case atStart =>
      exact .inl ⟨rfl, Lib.IsBuilderF.of (by have := Lib.fresh_isBuilder 192 5 (w.alloc (.cells #[.bool false, .slice (some ⟨b, o, none⟩) 1 cap] 100)); simpa [Lib.byteCells] using this), Below.refl _ _⟩
    case round =>
      have hsz : w.heap.size + 2 ≤ wr.heap.size := by
        rcases hrel with ⟨_, _, hB⟩ | ⟨_, _, hB⟩ <;> (have := hB.size; simp at this; omega)
      have hcells : wr.cell? ⟨w.heap.size, 1, none⟩ = some (.slice (some ⟨b, o, none⟩) 1 cap) ∧ wr.cell? ⟨b, o, none⟩ = some (.int .i64 d) := by
        rcases hrel with ⟨_, _, hB⟩ | ⟨_, _, hB⟩ <;>
        · refine ⟨(hB.cell (p := ⟨w.heap.size, 1, none⟩) (by simp)).trans ?_, (hB.cell (p := ⟨b, o, none⟩) (by simp; omega)).trans ?_⟩
          · exact World.cell?_alloc2_first ..
          · exact (World.cell?_alloc_past _ _ _ (by simp; omega)).trans ((World.cell?_alloc_past _ _ _ hbw).trans hc)
      obtain ⟨c1, cd⟩ := hcells
      obtain ⟨rfl, hI, hB⟩ | ⟨rfl, hI, hB⟩ := hrel
      · go_wp2_with (go_at_call 206; refine (Tryz.strconv_Itoa_small d hd _).mono ?_)
        rintro e W2 ⟨rfl, rfl⟩
        go_wp2_with (go_at_call 173; refine (Tryz.write_k (w.heap.size + 1) (w.heap.size + 1) _ _ _ hI (by have := decDigits_len d hd; simp [Lib.byteCells, ByteArray.size]; omega) (by omega)).mono ?_)
        rintro e W3 ⟨rfl, h1, b1, k1⟩
        go_wp2
        go_roundw
        case rel => exact .inr ⟨rfl, .inr (by simpa [Lib.byteCells, Lib.strCells] using h1), hB.trans b1⟩
        case measure => simp [intOf]
      · go_wp2_with (go_at_call 174; refine (Tryz.Builder_String_any_k (w.heap.size + 1) (w.heap.size + 1) _ _ hI (by omega)).mono ?_)
        rintro e W2 ⟨rfl, h1, b1, k1⟩
        go_wp2
        go_ret
        exact ⟨by simp, (((Below.refl _ w).alloc (Nat.le_refl _) _).alloc (by simp) _).trans ((hB.mono (by omega)).trans (b1.mono (by omega)))⟩
  | true =>
    have hI0 : Lib.IsBuilderF 192 5 (w.heap.size + 1) (w.heap.size + 1) (Lib.byteCells []) ((w.alloc (.cells #[.bool true, .slice (some ⟨b, o, none⟩) 1 cap] 100)).alloc (.cells #[.pointer none, .slice none 0 0] 192)) :=
      Lib.IsBuilderF.of (by have := Lib.fresh_isBuilder 192 5 (w.alloc (.cells #[.bool true, .slice (some ⟨b, o, none⟩) 1 cap] 100)); simpa [Lib.byteCells] using this)
    go_wp2_with (go_at_call 173; refine (Tryz.write_k (w.heap.size + 1) (w.heap.size + 1) _ _ _ hI0 (by simp [Lib.byteCells, ByteArray.size]) (by simp)).mono ?_)
    rintro e W0 rfl h0 b0 k0
    have hz0 : w.heap.size + 2 ≤ W0.heap.size := by have := b0.size; simp at this; omega
    have cc : ∀ W : World, Below (w.heap.size + 1) W0 W → W.cell? ⟨w.heap.size, 0, none⟩ = some (.bool true) ∧ W.cell? ⟨w.heap.size, 1, none⟩ = some (.slice (some ⟨b, o, none⟩) 1 cap) ∧ W.cell? ⟨b, o, none⟩ = some (.int .i64 d) := by
      intro W hB
      have hB2 := b0.trans hB
      exact ⟨(hB2.cell (p := ⟨w.heap.size, 0, none⟩) (by simp)).trans (World.cell?_alloc2_first ..), (hB2.cell (p := ⟨w.heap.size, 1, none⟩) (by simp)).trans (World.cell?_alloc2_first ..),
        (hB2.cell (p := ⟨b, o, none⟩) (by simp; omega)).trans ((World.cell?_alloc_past _ _ _ (by simp; omega)).trans ((World.cell?_alloc_past _ _ _ hbw).trans hc))⟩
    have cw0 := cc W0 (Below.refl _ _)
    obtain ⟨k0a, k0b, k0c⟩ := cw0
    go_wp2
    go_loopw [4] (fun i wr => TR (w.heap.size + 1) W0 [45] ([45] ++ Lib.decDigits d) i wr) (fun i _ => (intOf i + 1).toNat)
    case atStart =>
      exact .inl ⟨rfl, .inr (by simpa [Lib.byteCells, Lib.strCells] using h0), Below.refl _ _⟩
    case round =>
      have hB : Below (w.heap.size + 1) W0 wr := by
        rcases hrel with ⟨_, _, hB⟩ | ⟨_, _, hB⟩ <;> exact hB
      have hsz : w.heap.size + 2 ≤ wr.heap.size := Nat.le_trans hz0 hB.size
      obtain ⟨c0, c1, cd⟩ := cc wr hB
      obtain ⟨rfl, hI, _⟩ | ⟨rfl, hI, _⟩ := hrel
      · go_wp2_with (go_at_call 206; refine (Tryz.strconv_Itoa_small d hd _).mono ?_)
        rintro e W2 ⟨rfl, rfl⟩
        go_wp2_with (go_at_call 173; refine (Tryz.write_k (w.heap.size + 1) (w.heap.size + 1) _ _ _ hI (by have := decDigits_len d hd; simp [Lib.byteCells, ByteArray.size]; omega) (by omega)).mono ?_)
        rintro e W3 ⟨rfl, h1, b1, k1⟩
        go_wp2
        go_roundw
        case rel => exact .inr ⟨rfl, .inr (by simpa [Lib.byteCells, Lib.strCells] using h1), hB.trans b1⟩
        case measure => simp [intOf]
      · go_wp2_with (go_at_call 174; refine (Tryz.Builder_String_any_k (w.heap.size + 1) (w.heap.size + 1) _ _ hI (by omega)).mono ?_)
        rintro e W2 ⟨rfl, h1, b1, k1⟩
        go_wp2
        go_ret
        exact ⟨by simp, (((Below.refl _ w).alloc (Nat.le_refl _) _).alloc (by simp) _).trans ((b0.mono (by omega)).trans ((hB.mono (by omega)).trans (b1.mono (by omega))))⟩
end Go.Proofs
end

section
open Go Go.Ev Go.RowKit
namespace Go.Proofs.YtloaeinogiplbaaGreatDoor
open Go.Proofs
set_option maxRecDepth 100000
set_option maxHeartbeats 4000000
set_option linter.unusedVariables false
set_option linter.unusedSimpArgs false
/-- The text of a small integer. -/
def txtL (z : Int) : List UInt8 := if z = 0 then [48] else (if decide (z < 0) = true then [45] else []) ++ Lib.decDigits z.natAbs
def txtB (z : Int) : ByteArray := ⟨(txtL z).toArray⟩

theorem wd_inv {E : Env} {z : Int} {v : Value} (h : Rd E (.wd z) v) : ∃ a cap, v = .slice a (digs z.natAbs).length cap ∧ (digs z.natAbs).length ≤ cap ∧ IntsAt E (digs z.natAbs) a := by
  cases h with
  | wd hi hc => exact ⟨_, _, rfl, hc, hi⟩

theorem text_fc (z : Int) (hz : z.natAbs < 100) : FC Tryz.prog 170 [W z] (.lit (.string (txtB z))) := by
  intro M w vs _ hl ha
  have h0 : Rd ⟨w.heap, M, []⟩ (W z) (vs.getD 0 undef) := ha 0 (by simp)
  obtain ⟨v0, rfl⟩ : ∃ v0, vs = #[v0] := by
    have h1 : vs.size = 1 := by simpa using hl.symm
    exact ⟨vs[0], by apply Array.ext (by simp [h1]); intro i h2 h3; have : i = 0 := by omega
                     subst this; simp⟩
  have h0' : Rd ⟨w.heap, M, []⟩ (W z) v0 := h0
  unfold W at h0'
  cases h0' with
  | @agg _ us hlen hr =>
    obtain ⟨u0, u1, rfl⟩ : ∃ u0 u1, us = #[u0, u1] := by
      have h1 : us.size = 2 := by simpa using hlen.symm
      exact ⟨us[0], us[1], by apply Array.ext (by simp [h1]); intro i h2 h3; have : i = 0 ∨ i = 1 := by omega
                              rcases this with rfl | rfl <;> simp⟩
    have e0 : u0 = .bool (decide (z < 0)) := Rd.lit_inv (hr 0 (by simp))
    obtain ⟨a, cap, e1, hcap, hi⟩ := wd_inv (hr 1 (by simp))
    have e1' : u1 = .slice a (digs z.natAbs).length cap := e1
    subst e0; subst e1'
    by_cases h : z = 0
    · subst h
      refine (text_zero _ a cap w).mono ?_
      rintro e w' ⟨rfl, hb⟩
      exact ⟨_, rfl, hb, .lit _⟩
    · have hd : digs z.natAbs = [((z.natAbs : Nat) : Int)] := by
        rw [digs_step _ (by omega)]
        rw [Nat.mod_eq_of_lt (by omega), Nat.div_eq_of_lt (by omega)]; rfl
      rw [hd] at hi hcap
      rcases hi with hi | ⟨b, o, rfl, _, hc⟩
      · cases hi
      · have hc0 := hc 0 (by simp)
        have hcell : w.cell? ⟨b, o, none⟩ = some (.int .i64 ((z.natAbs : Nat) : Int)) := by rw [cell?_eq]; simpa using hc0
        rw [hd]
        refine (text_one (decide (z < 0)) b o cap z.natAbs w hz (by simpa using hcap) hcell).mono ?_
        rintro e w' ⟨rfl, hb⟩
        refine ⟨_, rfl, hb, ?_⟩
        have : (⟨((if decide (z < 0) = true then [45] else []) ++ Lib.decDigits z.natAbs).toArray⟩ : ByteArray) = txtB z := by unfold txtB txtL; rw [if_neg h]
        rw [this]; exact .lit _

/-- Strings as cells. -/
def strsOf : List AV → Option (List ByteArray)
  | [] => some []
  | .lit (.string s) :: l => match strsOf l with | some r => some (s :: r) | none => none
  | _ => none
theorem strsOf_eq : ∀ {cs : List AV} {l : List ByteArray}, strsOf cs = some l → cs = l.map fun s => AV.lit (.string s)
  | [], l, h => by cases h; rfl
  | c :: cs, l, h => by
    unfold strsOf at h
    split at h
    · rename_i heq; cases heq
    · rename_i s q heq
      cases heq
      split at h
      · rename_i r hr
        cases h
        rw [strsOf_eq hr]; rfl
      · cases h
    · cases h
def joinB (xs : List ByteArray) (sep : ByteArray) : ByteArray := ⟨(Lib.join (xs.map (·.data.toList)) sep.data.toList).toArray⟩
def cJoin (args : List AV) : M AV := match args with
  | [.sl cs n, .lit (.string sep)] => do
    let xs ← ofOpt 240 (strsOf cs)
    tellD (xs.length = n ∧ n ≠ 0 ∧ n ≤ 1000 ∧ (joinB xs sep).size ≤ 1000000) (Tst.b (xs.length = n ∧ n ≠ 0 ∧ n ≤ 1000 ∧ (joinB xs sep).size ≤ 1000000))
    M.pure (.lit (.string (joinB xs sep)))
  | _ => fail 241
theorem join_ok : CtrOK Tryz.prog 131 cJoin := by
  intro args _
  unfold cJoin
  split
  · rename_i cs n sep _
    refine Spec.bind (Spec.ofOpt fun xs hxs => Spec.bind (Spec.tellD Tst.ok fun hp => Spec.pure' ?_))
    obtain ⟨h1, h2, h3, h4⟩ := hp
    have hcs := strsOf_eq hxs
    intro M w vs _ hl ha
    have h0 : Rd ⟨w.heap, M, []⟩ (.sl cs n) (vs.getD 0 undef) := ha 0 (by simp)
    have h5 : Rd ⟨w.heap, M, []⟩ (.lit (.string sep)) (vs.getD 1 undef) := ha 1 (by simp)
    obtain ⟨v0, v1, rfl⟩ : ∃ v0 v1, vs = #[v0, v1] := by
      have h1 : vs.size = 2 := by simpa using hl.symm
      exact ⟨vs[0], vs[1], by apply Array.ext (by simp [h1]); intro i h2 h3; have : i = 0 ∨ i = 1 := by omega
                              rcases this with rfl | rfl <;> simp⟩
    have e1 : v1 = .string sep := Rd.lit_inv h5
    subst e1
    have h0' : Rd ⟨w.heap, M, []⟩ (.sl cs n) v0 := h0
    cases h0' with
    | sl0 => exact absurd rfl h2
    | @sl _ _ b o cap vals hs hM hc hv hr =>
      have hlen : cs.length = xs.length := by rw [hcs]; simp
      subst h1
      refine (Tryz.strings_Join b o cap xs sep w ?_ hs (by omega) hc ?_).mono ?_
      · intro j x hj
        have hjl : j < xs.length := (List.getElem?_eq_some_iff.1 hj).1
        have k1 := hv j (by omega)
        have k2 := hr j (by omega)
        have k3 : cs.getD j .junk = .lit (.string x) := by rw [hcs]; simp [List.getD, hj]
        rw [k3] at k2
        rw [cell?_eq, k1, Rd.lit_inv k2]
      · have : (joinB xs sep).size = (Lib.join (xs.map (·.data.toList)) sep.data.toList).length := by unfold joinB; simp [ByteArray.size]
        omega
      · rintro e w' ⟨rfl, hb⟩
        exact ⟨_, rfl, hb, .lit _⟩
  · exact Spec.fail
end Go.Proofs.YtloaeinogiplbaaGreatDoor
end
