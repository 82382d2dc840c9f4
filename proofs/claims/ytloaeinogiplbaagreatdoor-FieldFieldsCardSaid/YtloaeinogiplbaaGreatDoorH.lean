/- Part of a proof about a given program: see the last module of the claim. -/
import Derived.Test.YtloaeinogiplbaaGreatDoorG
import Derived.Test.YtloaeinogiplbaaGreatDoorC
import Derived.Shelf.Strings.Builder1
import Derived.Shelf.Strings.Builder2
import Derived.Shelf.Strings.OnBuilder
import Derived.Shelf.Small.Utf8
import Derived.Shelf.Small.Strs
import Derived.Shelf.Strings.BuilderF
import Derived.Shelf.Strings.BuilderK
import Derived.Shelf.Strconv.Itoa0
import Derived.Shelf.Strconv.Itoa1
import Derived.Shelf.LaysM
import Derived.Shelf.Strconv.Itoa2
import Derived.Shelf.Strconv.Itoa3
import Derived.Shelf.Strings.Search1
import Derived.Shelf.Strings.Search2
import Derived.Shelf.Strings.Search3
import Derived.Shelf.Strings.Cut
import Derived.Shelf.Strings.Count
import Derived.Shelf.Strings.Shaped
import Derived.Shelf.Strings.Prefix
import Derived.Shelf.Strings.Runes
import Derived.Shelf.Strings.AsciiSet
import Derived.Shelf.Bits.Mul64
import Derived.Shelf.Strings.Repeat
import Derived.Shelf.Unicode.DecodeSlow
import Derived.Test.YtloaeinogiplbaaGreatDoorProg
import Derived.WalkKit
import Derived.BigCall
import Derived.Test.YtloaeinogiplbaaGreatDoorE
section
open Go Go.Ev Go.RowKit
namespace Go.Proofs.YtloaeinogiplbaaGreatDoor
open Go.Proofs
set_option maxRecDepth 100000
set_option maxHeartbeats 1000000
set_option linter.unusedVariables false
set_option linter.unusedSimpArgs false
def cCh (args : List AV) : M AV := match args with
  | [x, y, z] => do
    let p ← asK (.sl (.sl (.sl (.int .i64)))) x
    let a ← asK (.sl (.int .i64)) y
    let b ← asK (.sl (.int .i64)) z
    tellD (pCh p a b) (Tst.b (pCh p a b))
    gives (.lit (.int .i64 (za8 (svs p (vl a) (vl b)) 0 0).1))
  | _ => fail 301
noncomputable def ctrH8 : Ctr := (149, cCh) :: ctrH7
abbrev kdS : List (TypeId × EK) := [(100, .whole), (22, .sl (.int .i64)), (166, .sl (.sl (.int .i64)))]
theorem cCh_ok : tZ Tryz.prog 149 cCh := by
  intro args _
  unfold cCh
  split
  · exact Spec.bind (asK_spec.mono fun p hp => Spec.bind (asK_spec.mono fun a ha => Spec.bind (asK_spec.mono fun b hb => Spec.bind (Spec.tellD Tst.ok fun h => Spec.gives ((zmB p a b h).le (.cons hp (.cons ha (.cons hb .nil))) (Le.refl _))))))
  · exact Spec.fail
theorem ctrH8_all : ∀ p ∈ ctrH8, tZ Tryz.prog p.1 p.2 := CAll.cons cCh_ok zgT
theorem zhM : (dZ Tryz.prog ctrH8 bw [] kdS).OK := zaK zgf mixed ctrH8_all zgd
noncomputable section
theorem rro_0 (p : List Int) (a b c : Int) (h1 : (p.length : Int) = 2) (h2 : 0 < (p.length : Int)) (h3 : 0 < p.length) (h4 : r64 (0 - p.getD 0 0)) (h5 : r64 ((0 - p.getD 0 0) * c)) (h6 : (0 - p.getD 0 0) * c ≥ a) (h7 : (0 - p.getD 0 0) * c ≤ b) : FC Tryz.prog 103 [.agg [.sq p, .lit (.int .i64 a), .lit (.int .i64 b), .lit (.int .i64 c)]] (aI 1) := kZ zhM 60 [(0, true), (0, true), (0, true)] [] (.cons (beq_iff_eq.2 h1) (.tt 1 (.cons (dT h2) (.cons (dT h3) (.cons (iR h4) (.cons (iR h5) (.cons (dT h6) (.tt 1 (.cons (dT h2) (.cons (dT h3) (.cons (iR h4) (.cons (iR h5) (.cons (dT h7) .nil))))))))))))) (by kernel_rfl)
theorem rro_1 (p : List Int) (a b c : Int) (h1 : (p.length : Int) = 2) (h2 : 0 < (p.length : Int)) (h3 : 0 < p.length) (h4 : r64 (0 - p.getD 0 0)) (h5 : r64 ((0 - p.getD 0 0) * c)) (h6 : (0 - p.getD 0 0) * c ≥ a) (h7 : ¬ ((0 - p.getD 0 0) * c ≤ b)) : FC Tryz.prog 103 [.agg [.sq p, .lit (.int .i64 a), .lit (.int .i64 b), .lit (.int .i64 c)]] (aI 0) := kZ zhM 60 [(0, true), (0, true), (0, false)] [] (.cons (beq_iff_eq.2 h1) (.tt 1 (.cons (dT h2) (.cons (dT h3) (.cons (iR h4) (.cons (iR h5) (.cons (dT h6) (.tt 1 (.cons (dT h2) (.cons (dT h3) (.cons (iR h4) (.cons (iR h5) (.cons (dF h7) .nil))))))))))))) (by kernel_rfl)
theorem rro_2 (p : List Int) (a b c : Int) (h1 : (p.length : Int) = 2) (h2 : 0 < (p.length : Int)) (h3 : 0 < p.length) (h4 : r64 (0 - p.getD 0 0)) (h5 : r64 ((0 - p.getD 0 0) * c)) (h6 : ¬ ((0 - p.getD 0 0) * c ≥ a)) : FC Tryz.prog 103 [.agg [.sq p, .lit (.int .i64 a), .lit (.int .i64 b), .lit (.int .i64 c)]] (aI 0) := kZ zhM 60 [(0, true), (0, false)] [] (.cons (beq_iff_eq.2 h1) (.tt 1 (.cons (dT h2) (.cons (dT h3) (.cons (iR h4) (.cons (iR h5) (.cons (dF h6) .nil))))))) (by kernel_rfl)
abbrev zc7 (s : St) (r : Ex × St) : Prop := Loops 1 Tryz.prog (eZ Tryz.prog 103 0) s r
abbrev zcX (a : List Int) (b c d : Int) : St := ⟨sp 121 [(1, .ref 0 0), (3, aN), (4, aN), (5, aI 0)], [.flat [.sq a, aI b, aI c, aI d] true], []⟩
abbrev zmf (a : List Int) (b c d : Int) (e : List (List Int)) : St := ⟨sp 121 [(1, .ref 0 0), (3, .own 1 0 1 1), (4, aN), (5, aI 1)], [.flat [.sq a, aI b, aI c, aI d] true, .lst (EK.sl (.int .i64)) e true], []⟩
abbrev zfd (a : List Int) (b c d : Int) (e f : Nat) (g : Int) (i j : List (List Int)) : St := ⟨sp 121 [(1, .ref 0 0), (3, .own 1 0 e 1), (4, .own 2 0 f 1), (5, aI g)], [.flat [.sq a, aI b, aI c, aI d] true, .lst (EK.sl (.int .i64)) i true, .lst (EK.sl (.int .i64)) j true], []⟩
abbrev rro_L0_E0 (a : List Int) (b c d : Int) : St := ⟨sp 121 [(1, .ref 0 0), (3, aN), (4, aN), (5, aI 0)], [.flat [.sq a, aI b, aI c, aI d] true], []⟩
abbrev zbv (a : List Int) (b c d : Int) (e f : Nat) (g : Int) (i j : List (List Int)) : St := ⟨sp 121 [(1, .ref 0 0), (3, .own 1 0 e 1), (4, .own 2 0 f 1), (5, aI g)], [.flat [.sq a, aI b, aI c, aI d] true, .lst (EK.sl (.int .i64)) i true, .lst (EK.sl (.int .i64)) j true], []⟩
theorem zn3 (a : List Int) (b c d : Int) (h1 : 0 < (a.length : Int)) (h2 : 0 < a.length) (h3 : 1 ≤ List.length [a.getD 0 0]) (h4 : 1 ≤ List.length [List.take 1 [a.getD 0 0]]) (h5 : 0 < (List.take 1 [List.take 1 [a.getD 0 0]]).length) (h6 : (List.take 1 [List.take 1 [a.getD 0 0]]).length * 24 ≤ 140737488355328) (h7 : (List.take 1 [List.take 1 [a.getD 0 0]]).length ≤ 4611686018427387904) {r : Ex × St} (k : zc7 (zmf a b c d ([[a.getD 0 0]])) r) : zc7 (zcX a b c d) r := Loops.go (LS.at zhM 60 [3] [1, 3, 4, 5] [] [(0, true)] [] (.cons (dT h1) (.tt 1 (.cons (dT h1) (.cons (dT h2) (.cons h3 (.cons h4 (.cons (dT h5) (.cons (dT h6) (.cons (dT h7) (.tt 1 .nil)))))))))) (by kernel_rfl)) k
theorem rro_L0_0_1 (a : List Int) (b c d : Int) (h1 : ¬ (0 < (a.length : Int))) : zc7 (zcX a b c d) (Ex.exit 0, (rro_L0_E0 a b c d)) := Loops.fin (LS.at zhM 60 [] [1, 3, 4, 5] [] [(0, false)] [] (.cons (dF h1) .nil) (by kernel_rfl)) (fun h => nomatch h)
theorem zn4 (a : List Int) (b c d : Int) (e : List (List Int)) (h1 : 1 < (a.length : Int)) (h2 : 1 < a.length) (h3 : 1 ≤ List.length [a.getD 1 0]) (h4 : 1 ≤ List.length [List.take 1 [a.getD 1 0]]) (h5 : (1 + (List.take 1 [List.take 1 [a.getD 1 0]]).length) * 24 ≤ 140737488355328) (h6 : 1 + (List.take 1 [List.take 1 [a.getD 1 0]]).length ≤ 4611686018427387904) (h7 : 1 ≤ e.length) (h8 : r64 (1 * a.getD 1 0)) (h9 : 1 ≤ List.length [1 * a.getD 1 0]) (h10 : 1 ≤ List.length [List.take 1 [1 * a.getD 1 0]]) (h11 : 0 < (List.take 1 [List.take 1 [1 * a.getD 1 0]]).length) (h12 : (List.take 1 [List.take 1 [1 * a.getD 1 0]]).length * 24 ≤ 140737488355328) (h13 : (List.take 1 [List.take 1 [1 * a.getD 1 0]]).length ≤ 4611686018427387904) {r : Ex × St} (k : zc7 (zfd a b c d (2) (1) (2) (e.take 1 ++ List.take 1 [List.take 1 [a.getD 1 0]]) ([[1 * a.getD 1 0]])) r) : zc7 (zmf a b c d e) r := Loops.go (LS.at zhM 60 [4, 7] [1, 3, 4, 5] [] [(0, true)] [] (.cons (dT h1) (.tt 1 (.cons (dT h1) (.cons (dT h2) (.cons h3 (.cons h4 (.cons (dT h5) (.cons (dT h6) (.cons (dT h7) (.tt 1 (.cons (dT h1) (.cons (dT h2) (.cons (iR h8) (.cons h9 (.cons h10 (.cons (dT h11) (.cons (dT h12) (.cons (dT h13) (.tt 1 .nil))))))))))))))))))) (by kernel_rfl)) k
theorem zn5 (a : List Int) (b c d : Int) (e f : Nat) (g : Int) (i j : List (List Int)) (h1 : g < (a.length : Int)) (h2 : 0 ≤ g) (h3 : g.toNat < a.length) (h4 : 1 ≤ List.length [a.getD g.toNat 0]) (h5 : 1 ≤ List.length [List.take 1 [a.getD g.toNat 0]]) (h6 : (e + (List.take 1 [List.take 1 [a.getD g.toNat 0]]).length) * 24 ≤ 140737488355328) (h7 : e + (List.take 1 [List.take 1 [a.getD g.toNat 0]]).length ≤ 4611686018427387904) (h8 : e ≤ i.length) (h9 : g > 0) (h10 : r64 (g * a.getD g.toNat 0)) (h11 : 1 ≤ List.length [g * a.getD g.toNat 0]) (h12 : 1 ≤ List.length [List.take 1 [g * a.getD g.toNat 0]]) (h13 : (f + (List.take 1 [List.take 1 [g * a.getD g.toNat 0]]).length) * 24 ≤ 140737488355328) (h14 : f + (List.take 1 [List.take 1 [g * a.getD g.toNat 0]]).length ≤ 4611686018427387904) (h15 : f ≤ j.length) (h16 : r64 (g + 1)) {r : Ex × St} (k : zc7 (zfd a b c d (e + (List.take 1 [List.take 1 [a.getD g.toNat 0]]).length) (f + (List.take 1 [List.take 1 [g * a.getD g.toNat 0]]).length) (g + 1) (i.take e ++ List.take 1 [List.take 1 [a.getD g.toNat 0]]) (j.take f ++ List.take 1 [List.take 1 [g * a.getD g.toNat 0]])) r) : zc7 (zfd a b c d e f g i j) r := Loops.go (LS.at zhM 60 [5, 8] [1, 3, 4, 5] [] [(0, true), (0, true)] [] (.cons (dT h1) (.cons (dT h2) (.cons (dT h1) (.cons (dT h3) (.cons h4 (.cons h5 (.cons (dT h6) (.cons (dT h7) (.cons (dT h8) (.cons (dT h9) (.cons (dT h2) (.cons (dT h1) (.cons (dT h3) (.cons (iR h10) (.cons h11 (.cons h12 (.cons (dT h13) (.cons (dT h14) (.cons (dT h15) (.cons (iR h16) .nil)))))))))))))))))))) (by kernel_rfl)) k
theorem zn6 (a : List Int) (b c d : Int) (e f : Nat) (g : Int) (i j : List (List Int)) (h1 : ¬ (g < (a.length : Int))) : zc7 (zfd a b c d e f g i j) (Ex.exit 0, (zbv a b c d e f g i j)) := Loops.fin (LS.at zhM 60 [1, 2] [1, 3, 4, 5] [] [(0, false)] [] (.cons (dF h1) .nil) (by kernel_rfl)) (fun h => nomatch h)
abbrev zfi (s : St) (r : Ex × St) : Prop := Loops 4 Tryz.prog (eZ Tryz.prog 103 1) s r
abbrev zd2 (a : List Int) (b c d : Int) (e f : List (List Int)) (g : List (List (List Int))) : St := ⟨sp 121 [(1, .ref 0 0), (6, .own 3 0 2 1)], [.flat [.sq a, aI b, aI c, aI d] true, .lst (EK.sl (.int .i64)) e false, .lst (EK.sl (.int .i64)) f false, .lst (EK.sl (EK.sl (.int .i64))) g true], [3]⟩
abbrev zfj (a : List Int) (b c d : Int) (e f : List (List Int)) (g : List (List (List Int))) (i : Nat) (j : List (List (List Int))) : St := ⟨sp 121 [(1, .ref 0 0), (6, .own 4 0 i 1)], [.flat [.sq a, aI b, aI c, aI d] true, .lst (EK.sl (.int .i64)) e false, .lst (EK.sl (.int .i64)) f false, .dead, .lst (EK.sl (EK.sl (.int .i64))) j true], [3]⟩
abbrev zhs (a : List Int) (b c d : Int) (e f : List (List Int)) (g : List (List (List Int))) : St := ⟨sp 121 [(1, .ref 0 0), (6, .own 3 0 2 1)], [.flat [.sq a, aI b, aI c, aI d] true, .lst (EK.sl (.int .i64)) e false, .lst (EK.sl (.int .i64)) f false, .lst (EK.sl (EK.sl (.int .i64))) g true], [3]⟩
abbrev zdA (a : List Int) (b c d : Int) (e f : List (List Int)) (g : List (List (List Int))) (i : Nat) (j : List (List (List Int))) : St := ⟨sp 121 [(1, .ref 0 0), (6, .own 4 0 i 1)], [.flat [.sq a, aI b, aI c, aI d] true, .lst (EK.sl (.int .i64)) e false, .lst (EK.sl (.int .i64)) f false, .dead, .lst (EK.sl (EK.sl (.int .i64))) j true], [3]⟩
theorem zod (a : List Int) (b c d : Int) (e f : List (List Int)) (g : List (List (List Int))) (h1 : 0 < g.length) (h2 : 1 < g.length) (h3 : pRe (g.getD 0 (EK.dflt (EK.sl (EK.sl (.int .i64))))) (g.getD 1 (EK.dflt (EK.sl (EK.sl (.int .i64)))))) (h4 : (↑((rsT (g.getD 1 (EK.dflt (EK.sl (EK.sl (.int .i64))))) (g.getD 0 (EK.dflt (EK.sl (EK.sl (.int .i64))))).length (g.getD 0 (EK.dflt (EK.sl (EK.sl (.int .i64)))))).length) : Int) = 0) : zfi (zd2 a b c d e f g) (Ex.exit 2, (zhs a b c d e f g)) := Loops.fin (LS.at zhM 60 [] [1, 6] [3] [(0, true)] [] (.tt 3 (.cons (dT h1) (.tt 3 (.cons (dT h2) (.cons h3 (.cons (beq_iff_eq.2 h4) .nil)))))) (by kernel_rfl)) (fun h => nomatch h)
abbrev zfe (s : St) (r : Ex × St) : Prop := Loops 4 Tryz.prog (eZ Tryz.prog 103 2) s r
abbrev zff (a : List (List Int)) (b : List Int) (c d e : Int) (f g : List (List Int)) (i : List (List (List Int))) : St := ⟨sp 121 [(1, .ref 0 0), (6, .own 3 0 2 1), (7, .lst (EK.sl (.int .i64)) a), (8, aN), (9, aI 0)], [.flat [.sq b, aI c, aI d, aI e] true, .lst (EK.sl (.int .i64)) f false, .lst (EK.sl (.int .i64)) g false, .lst (EK.sl (EK.sl (.int .i64))) i true], [3]⟩
abbrev zfg (a : List (List Int)) (b : List Int) (c d e : Int) (f g : List (List Int)) (i : List (List (List Int))) (j : Nat) (l : Int) (m : List (List Int)) : St := ⟨sp 121 [(1, .ref 0 0), (6, .own 3 0 2 1), (7, .lst (EK.sl (.int .i64)) a), (8, .own 4 0 j 1), (9, aI l)], [.flat [.sq b, aI c, aI d, aI e] true, .lst (EK.sl (.int .i64)) f false, .lst (EK.sl (.int .i64)) g false, .lst (EK.sl (EK.sl (.int .i64))) i true, .lst (EK.sl (.int .i64)) m true], [3]⟩
abbrev rro_L2_E0 (a : List (List Int)) (b : List Int) (c d e : Int) (f g : List (List Int)) (i : List (List (List Int))) : St := ⟨sp 121 [(1, .ref 0 0), (6, .own 3 0 2 1), (7, .lst (EK.sl (.int .i64)) a), (8, aN), (9, aI 0)], [.flat [.sq b, aI c, aI d, aI e] true, .lst (EK.sl (.int .i64)) f false, .lst (EK.sl (.int .i64)) g false, .lst (EK.sl (EK.sl (.int .i64))) i true], [3]⟩
abbrev zcB (a : List (List Int)) (b : List Int) (c d e : Int) (f g : List (List Int)) (i : List (List (List Int))) (j : Nat) (l : Int) (m : List (List Int)) : St := ⟨sp 121 [(1, .ref 0 0), (6, .own 3 0 2 1), (7, .lst (EK.sl (.int .i64)) a), (8, .own 4 0 j 1), (9, aI l)], [.flat [.sq b, aI c, aI d, aI e] true, .lst (EK.sl (.int .i64)) f false, .lst (EK.sl (.int .i64)) g false, .lst (EK.sl (EK.sl (.int .i64))) i true, .lst (EK.sl (.int .i64)) m true], [3]⟩
theorem zn7 (a : List (List Int)) (b : List Int) (c d e : Int) (f g : List (List Int)) (i : List (List (List Int))) (h1 : 0 < (a.length : Int)) (h2 : pX (a.getD 0 (EK.dflt (EK.sl (.int .i64))))) (h3 : 1 ≤ List.length [aZ (-vl (a.getD 0 (EK.dflt (EK.sl (.int .i64)))))]) (h4 : 0 < (List.take 1 [aZ (-vl (a.getD 0 (EK.dflt (EK.sl (.int .i64)))))]).length) (h5 : (List.take 1 [aZ (-vl (a.getD 0 (EK.dflt (EK.sl (.int .i64)))))]).length * 24 ≤ 140737488355328) (h6 : (List.take 1 [aZ (-vl (a.getD 0 (EK.dflt (EK.sl (.int .i64)))))]).length ≤ 4611686018427387904) {r : Ex × St} (k : zfe (zfg a b c d e f g i (1) (1) ([aZ (-vl (a.getD 0 (EK.dflt (EK.sl (.int .i64)))))])) r) : zfe (zff a b c d e f g i) r := Loops.go (LS.at zhM 60 [5] [1, 6, 7, 8, 9] [3] [(0, true)] [] (.cons (dT h1) (.tt 1 (.cons (dT h1) (.cons h2 (.cons h3 (.cons (dT h4) (.cons (dT h5) (.cons (dT h6) (.tt 1 .nil))))))))) (by kernel_rfl)) k
theorem rro_L2_0_1 (a : List (List Int)) (b : List Int) (c d e : Int) (f g : List (List Int)) (i : List (List (List Int))) (h1 : ¬ (0 < (a.length : Int))) : zfe (zff a b c d e f g i) (Ex.exit 4, (rro_L2_E0 a b c d e f g i)) := Loops.fin (LS.at zhM 60 [] [1, 6, 7, 8, 9] [3] [(0, false)] [] (.cons (dF h1) .nil) (by kernel_rfl)) (fun h => nomatch h)
theorem zn8 (a : List (List Int)) (b : List Int) (c d e : Int) (f g : List (List Int)) (i : List (List (List Int))) (j : Nat) (l : Int) (m : List (List Int)) (h1 : l < (a.length : Int)) (h2 : 0 ≤ l) (h3 : pX (a.getD l.toNat (EK.dflt (EK.sl (.int .i64))))) (h4 : 1 ≤ List.length [aZ (-vl (a.getD l.toNat (EK.dflt (EK.sl (.int .i64)))))]) (h5 : (j + (List.take 1 [aZ (-vl (a.getD l.toNat (EK.dflt (EK.sl (.int .i64)))))]).length) * 24 ≤ 140737488355328) (h6 : j + (List.take 1 [aZ (-vl (a.getD l.toNat (EK.dflt (EK.sl (.int .i64)))))]).length ≤ 4611686018427387904) (h7 : j ≤ m.length) (h8 : r64 (l + 1)) {r : Ex × St} (k : zfe (zfg a b c d e f g i (j + (List.take 1 [aZ (-vl (a.getD l.toNat (EK.dflt (EK.sl (.int .i64)))))]).length) (l + 1) (m.take j ++ List.take 1 [aZ (-vl (a.getD l.toNat (EK.dflt (EK.sl (.int .i64)))))])) r) : zfe (zfg a b c d e f g i j l m) r := Loops.go (LS.at zhM 60 [6] [1, 6, 7, 8, 9] [3] [(0, true)] [] (.cons (dT h1) (.cons (dT h2) (.cons (dT h1) (.cons h3 (.cons h4 (.cons (dT h5) (.cons (dT h6) (.cons (dT h7) (.cons (iR h8) .nil))))))))) (by kernel_rfl)) k
theorem zn9 (a : List (List Int)) (b : List Int) (c d e : Int) (f g : List (List Int)) (i : List (List (List Int))) (j : Nat) (l : Int) (m : List (List Int)) (h1 : ¬ (l < (a.length : Int))) : zfe (zfg a b c d e f g i j l m) (Ex.exit 4, (zcB a b c d e f g i j l m)) := Loops.fin (LS.at zhM 60 [4] [1, 6, 7, 8, 9] [3] [(0, false)] [] (.cons (dF h1) .nil) (by kernel_rfl)) (fun h => nomatch h)
theorem zoe (a : List Int) (b c d : Int) (e f : List (List Int)) (g : List (List (List Int))) (i : Nat) (j : Int) (l : List (List Int)) (h1 : 0 < g.length) (h2 : 1 < g.length) (h3 : pRe (g.getD 0 (EK.dflt (EK.sl (EK.sl (.int .i64))))) (g.getD 1 (EK.dflt (EK.sl (EK.sl (.int .i64)))))) (h4 : (↑((rsT (g.getD 1 (EK.dflt (EK.sl (EK.sl (.int .i64))))) (g.getD 0 (EK.dflt (EK.sl (EK.sl (.int .i64))))).length (g.getD 0 (EK.dflt (EK.sl (EK.sl (.int .i64)))))).length) : Int) ≠ 0) (hL1 : zfe (zff (rsT (g.getD 1 (EK.dflt (EK.sl (EK.sl (.int .i64))))) (g.getD 0 (EK.dflt (EK.sl (EK.sl (.int .i64))))).length (g.getD 0 (EK.dflt (EK.sl (EK.sl (.int .i64)))))) a b c d e f g) (Ex.exit 4, (zcB (rsT (g.getD 1 (EK.dflt (EK.sl (EK.sl (.int .i64))))) (g.getD 0 (EK.dflt (EK.sl (EK.sl (.int .i64))))).length (g.getD 0 (EK.dflt (EK.sl (EK.sl (.int .i64)))))) a b c d e f g i j l))) (h6 : i ≤ l.length) (h7 : 1 ≤ List.length [l.take i]) (h8 : (2 + (List.take 1 [l.take i]).length) * 24 ≤ 140737488355328) (h9 : 2 + (List.take 1 [l.take i]).length ≤ 4611686018427387904) (h10 : 2 ≤ g.length) {r : Ex × St} (k : zfi (zfj a b c d e f g (3) (g.take 2 ++ List.take 1 [l.take i])) r) : zfi (zd2 a b c d e f g) r := Loops.go (LS.at zhM 60 [6] [1, 6] [3] [(0, false)] [some (wZ Tryz.prog (eZ Tryz.prog 103 2) [] [1, 6, 7, 8, 9] [3] (zff (rsT (g.getD 1 (EK.dflt (EK.sl (EK.sl (.int .i64))))) (g.getD 0 (EK.dflt (EK.sl (EK.sl (.int .i64))))).length (g.getD 0 (EK.dflt (EK.sl (EK.sl (.int .i64)))))) a b c d e f g) (Ex.exit 4, (zcB (rsT (g.getD 1 (EK.dflt (EK.sl (EK.sl (.int .i64))))) (g.getD 0 (EK.dflt (EK.sl (EK.sl (.int .i64))))).length (g.getD 0 (EK.dflt (EK.sl (EK.sl (.int .i64)))))) a b c d e f g i j l)))] (.tt 3 (.cons (dT h1) (.tt 3 (.cons (dT h2) (.cons h3 (.cons (beq_false_of_ne h4) (.vi [1, 6, 7, 8, 9] [3] hL1 (.cons h6 (.cons h7 (.cons (dT h8) (.cons (dT h9) (.cons (dT h10) .nil)))))))))))) (by kernel_rfl)) k
theorem zof (a : List Int) (b c d : Int) (e f : List (List Int)) (g : List (List (List Int))) (i : Nat) (j : List (List (List Int))) (h1 : r64 ((i : Int) - 2)) (h2 : 0 ≤ (i : Int) - 2) (h3 : (i : Int) - 2 < (i : Int)) (h4 : ((i : Int) - 2).toNat < j.length) (h5 : r64 ((i : Int) - 1)) (h6 : 0 ≤ (i : Int) - 1) (h7 : (i : Int) - 1 < (i : Int)) (h8 : ((i : Int) - 1).toNat < j.length) (h9 : pRe (j.getD ((i : Int) - 2).toNat (EK.dflt (EK.sl (EK.sl (.int .i64))))) (j.getD ((i : Int) - 1).toNat (EK.dflt (EK.sl (EK.sl (.int .i64)))))) (h10 : (↑((rsT (j.getD ((i : Int) - 1).toNat (EK.dflt (EK.sl (EK.sl (.int .i64))))) (j.getD ((i : Int) - 2).toNat (EK.dflt (EK.sl (EK.sl (.int .i64))))).length (j.getD ((i : Int) - 2).toNat (EK.dflt (EK.sl (EK.sl (.int .i64)))))).length) : Int) = 0) : zfi (zfj a b c d e f g i j) (Ex.exit 2, (zdA a b c d e f g i j)) := Loops.fin (LS.at zhM 60 [4] [1, 6] [3] [(0, true)] [] (.cons (iR h1) (.cons (dT h2) (.cons (dT h3) (.cons (dT h4) (.cons (iR h5) (.cons (dT h6) (.cons (dT h7) (.cons (dT h8) (.cons h9 (.cons (beq_iff_eq.2 h10) .nil)))))))))) (by kernel_rfl)) (fun h => nomatch h)
abbrev zga (s : St) (r : Ex × St) : Prop := Loops 5 Tryz.prog (eZ Tryz.prog 103 2) s r
abbrev zgG (a : Nat) (b : List (List Int)) (c : List Int) (d e f : Int) (g i : List (List Int)) (j : List (List (List Int))) : St := ⟨sp 121 [(1, .ref 0 0), (6, .own 4 0 a 1), (7, .lst (EK.sl (.int .i64)) b), (8, aN), (9, aI 0)], [.flat [.sq c, aI d, aI e, aI f] true, .lst (EK.sl (.int .i64)) g false, .lst (EK.sl (.int .i64)) i false, .dead, .lst (EK.sl (EK.sl (.int .i64))) j true], [3]⟩
abbrev zfh (a : Nat) (b : List (List Int)) (c : List Int) (d e f : Int) (g i : List (List Int)) (j : List (List (List Int))) (l : Nat) (m : Int) (n : List (List Int)) : St := ⟨sp 121 [(1, .ref 0 0), (6, .own 4 0 a 1), (7, .lst (EK.sl (.int .i64)) b), (8, .own 5 0 l 1), (9, aI m)], [.flat [.sq c, aI d, aI e, aI f] true, .lst (EK.sl (.int .i64)) g false, .lst (EK.sl (.int .i64)) i false, .dead, .lst (EK.sl (EK.sl (.int .i64))) j true, .lst (EK.sl (.int .i64)) n true], [3]⟩
abbrev zcC (a : Nat) (b : List (List Int)) (c : List Int) (d e f : Int) (g i : List (List Int)) (j : List (List (List Int))) (l : Nat) (m : Int) (n : List (List Int)) : St := ⟨sp 121 [(1, .ref 0 0), (6, .own 4 0 a 1), (7, .lst (EK.sl (.int .i64)) b), (8, .own 5 0 l 1), (9, aI m)], [.flat [.sq c, aI d, aI e, aI f] true, .lst (EK.sl (.int .i64)) g false, .lst (EK.sl (.int .i64)) i false, .dead, .lst (EK.sl (EK.sl (.int .i64))) j true, .lst (EK.sl (.int .i64)) n true], [3]⟩
theorem zoa (a : Nat) (b : List (List Int)) (c : List Int) (d e f : Int) (g i : List (List Int)) (j : List (List (List Int))) (h1 : 0 < (b.length : Int)) (h2 : pX (b.getD 0 (EK.dflt (EK.sl (.int .i64))))) (h3 : 1 ≤ List.length [aZ (-vl (b.getD 0 (EK.dflt (EK.sl (.int .i64)))))]) (h4 : 0 < (List.take 1 [aZ (-vl (b.getD 0 (EK.dflt (EK.sl (.int .i64)))))]).length) (h5 : (List.take 1 [aZ (-vl (b.getD 0 (EK.dflt (EK.sl (.int .i64)))))]).length * 24 ≤ 140737488355328) (h6 : (List.take 1 [aZ (-vl (b.getD 0 (EK.dflt (EK.sl (.int .i64)))))]).length ≤ 4611686018427387904) {r : Ex × St} (k : zga (zfh a b c d e f g i j (1) (1) ([aZ (-vl (b.getD 0 (EK.dflt (EK.sl (.int .i64)))))])) r) : zga (zgG a b c d e f g i j) r := Loops.go (LS.at zhM 60 [6] [1, 6, 7, 8, 9] [3] [(0, true)] [] (.cons (dT h1) (.tt 1 (.cons (dT h1) (.cons h2 (.cons h3 (.cons (dT h4) (.cons (dT h5) (.cons (dT h6) (.tt 1 .nil))))))))) (by kernel_rfl)) k
theorem zob (a : Nat) (b : List (List Int)) (c : List Int) (d e f : Int) (g i : List (List Int)) (j : List (List (List Int))) (l : Nat) (m : Int) (n : List (List Int)) (h1 : m < (b.length : Int)) (h2 : 0 ≤ m) (h3 : pX (b.getD m.toNat (EK.dflt (EK.sl (.int .i64))))) (h4 : 1 ≤ List.length [aZ (-vl (b.getD m.toNat (EK.dflt (EK.sl (.int .i64)))))]) (h5 : (l + (List.take 1 [aZ (-vl (b.getD m.toNat (EK.dflt (EK.sl (.int .i64)))))]).length) * 24 ≤ 140737488355328) (h6 : l + (List.take 1 [aZ (-vl (b.getD m.toNat (EK.dflt (EK.sl (.int .i64)))))]).length ≤ 4611686018427387904) (h7 : l ≤ n.length) (h8 : r64 (m + 1)) {r : Ex × St} (k : zga (zfh a b c d e f g i j (l + (List.take 1 [aZ (-vl (b.getD m.toNat (EK.dflt (EK.sl (.int .i64)))))]).length) (m + 1) (n.take l ++ List.take 1 [aZ (-vl (b.getD m.toNat (EK.dflt (EK.sl (.int .i64)))))])) r) : zga (zfh a b c d e f g i j l m n) r := Loops.go (LS.at zhM 60 [7] [1, 6, 7, 8, 9] [3] [(0, true)] [] (.cons (dT h1) (.cons (dT h2) (.cons (dT h1) (.cons h3 (.cons h4 (.cons (dT h5) (.cons (dT h6) (.cons (dT h7) (.cons (iR h8) .nil))))))))) (by kernel_rfl)) k
theorem zoc (a : Nat) (b : List (List Int)) (c : List Int) (d e f : Int) (g i : List (List Int)) (j : List (List (List Int))) (l : Nat) (m : Int) (n : List (List Int)) (h1 : ¬ (m < (b.length : Int))) : zga (zfh a b c d e f g i j l m n) (Ex.exit 4, (zcC a b c d e f g i j l m n)) := Loops.fin (LS.at zhM 60 [5] [1, 6, 7, 8, 9] [3] [(0, false)] [] (.cons (dF h1) .nil) (by kernel_rfl)) (fun h => nomatch h)
theorem zog (a : List Int) (b c d : Int) (e f : List (List Int)) (g : List (List (List Int))) (i : Nat) (j : List (List (List Int))) (l : Nat) (m : Int) (n : List (List Int)) (h1 : r64 ((i : Int) - 2)) (h2 : 0 ≤ (i : Int) - 2) (h3 : (i : Int) - 2 < (i : Int)) (h4 : ((i : Int) - 2).toNat < j.length) (h5 : r64 ((i : Int) - 1)) (h6 : 0 ≤ (i : Int) - 1) (h7 : (i : Int) - 1 < (i : Int)) (h8 : ((i : Int) - 1).toNat < j.length) (h9 : pRe (j.getD ((i : Int) - 2).toNat (EK.dflt (EK.sl (EK.sl (.int .i64))))) (j.getD ((i : Int) - 1).toNat (EK.dflt (EK.sl (EK.sl (.int .i64)))))) (h10 : (↑((rsT (j.getD ((i : Int) - 1).toNat (EK.dflt (EK.sl (EK.sl (.int .i64))))) (j.getD ((i : Int) - 2).toNat (EK.dflt (EK.sl (EK.sl (.int .i64))))).length (j.getD ((i : Int) - 2).toNat (EK.dflt (EK.sl (EK.sl (.int .i64)))))).length) : Int) ≠ 0) (hL1 : zga (zgG i (rsT (j.getD ((i : Int) - 1).toNat (EK.dflt (EK.sl (EK.sl (.int .i64))))) (j.getD ((i : Int) - 2).toNat (EK.dflt (EK.sl (EK.sl (.int .i64))))).length (j.getD ((i : Int) - 2).toNat (EK.dflt (EK.sl (EK.sl (.int .i64)))))) a b c d e f j) (Ex.exit 4, (zcC i (rsT (j.getD ((i : Int) - 1).toNat (EK.dflt (EK.sl (EK.sl (.int .i64))))) (j.getD ((i : Int) - 2).toNat (EK.dflt (EK.sl (EK.sl (.int .i64))))).length (j.getD ((i : Int) - 2).toNat (EK.dflt (EK.sl (EK.sl (.int .i64)))))) a b c d e f j l m n))) (h12 : l ≤ n.length) (h13 : 1 ≤ List.length [n.take l]) (h14 : (i + (List.take 1 [n.take l]).length) * 24 ≤ 140737488355328) (h15 : i + (List.take 1 [n.take l]).length ≤ 4611686018427387904) (h16 : i ≤ j.length) {r : Ex × St} (k : zfi (zfj a b c d e f g (i + (List.take 1 [n.take l]).length) (j.take i ++ List.take 1 [n.take l])) r) : zfi (zfj a b c d e f g i j) r := Loops.go (LS.at zhM 60 [7] [1, 6] [3] [(0, false)] [some (wZ Tryz.prog (eZ Tryz.prog 103 2) [] [1, 6, 7, 8, 9] [3] (zgG i (rsT (j.getD ((i : Int) - 1).toNat (EK.dflt (EK.sl (EK.sl (.int .i64))))) (j.getD ((i : Int) - 2).toNat (EK.dflt (EK.sl (EK.sl (.int .i64))))).length (j.getD ((i : Int) - 2).toNat (EK.dflt (EK.sl (EK.sl (.int .i64)))))) a b c d e f j) (Ex.exit 4, (zcC i (rsT (j.getD ((i : Int) - 1).toNat (EK.dflt (EK.sl (EK.sl (.int .i64))))) (j.getD ((i : Int) - 2).toNat (EK.dflt (EK.sl (EK.sl (.int .i64))))).length (j.getD ((i : Int) - 2).toNat (EK.dflt (EK.sl (EK.sl (.int .i64)))))) a b c d e f j l m n)))] (.cons (iR h1) (.cons (dT h2) (.cons (dT h3) (.cons (dT h4) (.cons (iR h5) (.cons (dT h6) (.cons (dT h7) (.cons (dT h8) (.cons h9 (.cons (beq_false_of_ne h10) (.vi [1, 6, 7, 8, 9] [3] hL1 (.cons h12 (.cons h13 (.cons (dT h14) (.cons (dT h15) (.cons (dT h16) .nil)))))))))))))))) (by kernel_rfl)) k
abbrev yZ (a : Int) (b : Int) (c : Int) (d : Nat) (e : Nat) (g : List (List Int)) (i : List (List Int)) : AV := aI ((za8 (svs (List.take 2 [g.take d, i.take e]) (vl (List.take 1 [a])) (vl (List.take 1 [c]))) 0 0).fst - (za8 (svs (List.take 2 [g.take d, i.take e]) (vl (List.take 1 [b])) (vl (List.take 1 [c]))) 0 0).fst)
abbrev zak (a : Int) (c : Int) (d : Nat) (e : Nat) (g : List (List Int)) (i : List (List Int)) : AV := aI (za8 (svs (List.take 2 [g.take d, i.take e]) (vl (List.take 1 [a])) (vl (List.take 1 [c]))) 0 0).fst
abbrev zal (b : Int) (c : Int) (d : Nat) (e : Nat) (g : List (List Int)) (i : List (List Int)) : AV := aI (za8 (svs (List.take 2 [g.take d, i.take e]) (vl (List.take 1 [b])) (vl (List.take 1 [c]))) 0 0).fst
abbrev zam (d : Nat) (e : Nat) (g : List (List Int)) (i : List (List Int)) : Row := .lst (EK.sl (EK.sl (.int .i64))) [g.take d, i.take e] false
abbrev nZ : AV := .own 3 0 2 1
abbrev zan (p : List Int) (a : Int) (b : Int) (c : Int) : Row := .flat [.sq p, aI a, aI b, aI c] true
abbrev zao (g : List (List Int)) : Row := .lst (EK.sl (.int .i64)) g false
abbrev zap (i : List (List Int)) : Row := .lst (EK.sl (.int .i64)) i false
abbrev zZ (c : Int) : Row := .ints [c] false
abbrev zaq : AV := .own 4 0 1 1
abbrev UZ : AV := .own 5 0 1 1
abbrev VZ : AV := .own 6 0 1 1
abbrev WZ : AV := .own 7 0 1 1
abbrev zbG (p : List Int) (a b c : Int) (d e : Nat) (f : Int) (g i : List (List Int)) : St := ⟨sp 121 [(1, .ref 0 0), (2, (yZ a b c d e g i)), (6, nZ), (104, nZ), (105, .ref 0 1), (106, aI a), (107, zaq), (108, .ref 0 3), (109, aI c), (110, UZ), (111, (zak a c d e g i)), (112, nZ), (113, .ref 0 2), (114, aI b), (115, VZ), (116, .ref 0 3), (117, aI c), (118, WZ), (119, (zal b c d e g i)), (120, (yZ a b c d e g i))], [(zan p a b c), (zao g), (zap i), (zam d e g i), .ints [a] false, (zZ c), .ints [b] false, (zZ c)], [3]⟩
abbrev rro_3_s1 (p : List Int) (a b c : Int) (d e : Nat) (f : Int) (g i : List (List Int)) : St := ⟨sp 121 [(1, .ref 0 0), (2, (yZ a b c d e g i)), (6, nZ), (104, nZ), (105, .ref 0 1), (106, aI a), (107, zaq), (108, .ref 0 3), (109, aI c), (110, UZ), (111, (zak a c d e g i)), (112, nZ), (113, .ref 0 2), (114, aI b), (115, WZ), (116, .ref 0 3), (117, aI c), (118, VZ), (119, (zal b c d e g i)), (120, (yZ a b c d e g i))], [(zan p a b c), (zao g), (zap i), (zam d e g i), .ints [a] false, (zZ c), (zZ c), .ints [b] false], [3]⟩
abbrev zl5 (p : List Int) (a b c : Int) (d e : Nat) (f : Int) (g i : List (List Int)) : St := ⟨sp 121 [(1, .ref 0 0), (2, (yZ a b c d e g i)), (6, nZ), (104, nZ), (105, .ref 0 1), (106, aI a), (107, zaq), (108, .ref 0 3), (109, aI c), (110, VZ), (111, (zak a c d e g i)), (112, nZ), (113, .ref 0 2), (114, aI b), (115, UZ), (116, .ref 0 3), (117, aI c), (118, WZ), (119, (zal b c d e g i)), (120, (yZ a b c d e g i))], [(zan p a b c), (zao g), (zap i), (zam d e g i), .ints [a] false, .ints [b] false, (zZ c), (zZ c)], [3]⟩
abbrev zl6 (p : List Int) (a b c : Int) (d e : Nat) (f : Int) (g i : List (List Int)) : St := ⟨sp 121 [(1, .ref 0 0), (2, (yZ a b c d e g i)), (6, nZ), (104, nZ), (105, .ref 0 1), (106, aI a), (107, zaq), (108, .ref 0 3), (109, aI c), (110, VZ), (111, (zak a c d e g i)), (112, nZ), (113, .ref 0 2), (114, aI b), (115, WZ), (116, .ref 0 3), (117, aI c), (118, UZ), (119, (zal b c d e g i)), (120, (yZ a b c d e g i))], [(zan p a b c), (zao g), (zap i), (zam d e g i), .ints [a] false, (zZ c), (zZ c), .ints [b] false], [3]⟩
abbrev zd0 (p : List Int) (a b c : Int) (d e : Nat) (f : Int) (g i : List (List Int)) : St := ⟨sp 121 [(1, .ref 0 0), (2, (yZ a b c d e g i)), (6, nZ), (104, nZ), (105, .ref 0 1), (106, aI a), (107, UZ), (108, .ref 0 3), (109, aI c), (110, zaq), (111, (zak a c d e g i)), (112, nZ), (113, .ref 0 2), (114, aI b), (115, VZ), (116, .ref 0 3), (117, aI c), (118, WZ), (119, (zal b c d e g i)), (120, (yZ a b c d e g i))], [(zan p a b c), (zao g), (zap i), (zam d e g i), (zZ c), .ints [a] false, .ints [b] false, (zZ c)], [3]⟩
abbrev rro_3_s5 (p : List Int) (a b c : Int) (d e : Nat) (f : Int) (g i : List (List Int)) : St := ⟨sp 121 [(1, .ref 0 0), (2, (yZ a b c d e g i)), (6, nZ), (104, nZ), (105, .ref 0 1), (106, aI a), (107, UZ), (108, .ref 0 3), (109, aI c), (110, zaq), (111, (zak a c d e g i)), (112, nZ), (113, .ref 0 2), (114, aI b), (115, WZ), (116, .ref 0 3), (117, aI c), (118, VZ), (119, (zal b c d e g i)), (120, (yZ a b c d e g i))], [(zan p a b c), (zao g), (zap i), (zam d e g i), (zZ c), .ints [a] false, (zZ c), .ints [b] false], [3]⟩
abbrev zl7 (p : List Int) (a b c : Int) (d e : Nat) (f : Int) (g i : List (List Int)) : St := ⟨sp 121 [(1, .ref 0 0), (2, (yZ a b c d e g i)), (6, nZ), (104, nZ), (105, .ref 0 1), (106, aI a), (107, VZ), (108, .ref 0 3), (109, aI c), (110, zaq), (111, (zak a c d e g i)), (112, nZ), (113, .ref 0 2), (114, aI b), (115, UZ), (116, .ref 0 3), (117, aI c), (118, WZ), (119, (zal b c d e g i)), (120, (yZ a b c d e g i))], [(zan p a b c), (zao g), (zap i), (zam d e g i), (zZ c), .ints [b] false, .ints [a] false, (zZ c)], [3]⟩
abbrev zl8 (p : List Int) (a b c : Int) (d e : Nat) (f : Int) (g i : List (List Int)) : St := ⟨sp 121 [(1, .ref 0 0), (2, (yZ a b c d e g i)), (6, nZ), (104, nZ), (105, .ref 0 1), (106, aI a), (107, VZ), (108, .ref 0 3), (109, aI c), (110, zaq), (111, (zak a c d e g i)), (112, nZ), (113, .ref 0 2), (114, aI b), (115, WZ), (116, .ref 0 3), (117, aI c), (118, UZ), (119, (zal b c d e g i)), (120, (yZ a b c d e g i))], [(zan p a b c), (zao g), (zap i), (zam d e g i), (zZ c), (zZ c), .ints [a] false, .ints [b] false], [3]⟩
abbrev zgE (p : List Int) (a b c : Int) (d e : Nat) (f : Int) (g i : List (List Int)) : St := ⟨sp 121 [(1, .ref 0 0), (2, (yZ a b c d e g i)), (6, nZ), (104, nZ), (105, .ref 0 1), (106, aI a), (107, UZ), (108, .ref 0 3), (109, aI c), (110, VZ), (111, (zak a c d e g i)), (112, nZ), (113, .ref 0 2), (114, aI b), (115, zaq), (116, .ref 0 3), (117, aI c), (118, WZ), (119, (zal b c d e g i)), (120, (yZ a b c d e g i))], [(zan p a b c), (zao g), (zap i), (zam d e g i), .ints [b] false, .ints [a] false, (zZ c), (zZ c)], [3]⟩
abbrev zl9 (p : List Int) (a b c : Int) (d e : Nat) (f : Int) (g i : List (List Int)) : St := ⟨sp 121 [(1, .ref 0 0), (2, (yZ a b c d e g i)), (6, nZ), (104, nZ), (105, .ref 0 1), (106, aI a), (107, VZ), (108, .ref 0 3), (109, aI c), (110, UZ), (111, (zak a c d e g i)), (112, nZ), (113, .ref 0 2), (114, aI b), (115, zaq), (116, .ref 0 3), (117, aI c), (118, WZ), (119, (zal b c d e g i)), (120, (yZ a b c d e g i))], [(zan p a b c), (zao g), (zap i), (zam d e g i), .ints [b] false, (zZ c), .ints [a] false, (zZ c)], [3]⟩
abbrev rro_3_s10 (p : List Int) (a b c : Int) (d e : Nat) (f : Int) (g i : List (List Int)) : St := ⟨sp 121 [(1, .ref 0 0), (2, (yZ a b c d e g i)), (6, nZ), (104, nZ), (105, .ref 0 1), (106, aI a), (107, VZ), (108, .ref 0 3), (109, aI c), (110, WZ), (111, (zak a c d e g i)), (112, nZ), (113, .ref 0 2), (114, aI b), (115, zaq), (116, .ref 0 3), (117, aI c), (118, UZ), (119, (zal b c d e g i)), (120, (yZ a b c d e g i))], [(zan p a b c), (zao g), (zap i), (zam d e g i), .ints [b] false, (zZ c), .ints [a] false, (zZ c)], [3]⟩
abbrev zfb (p : List Int) (a b c : Int) (d e : Nat) (f : Int) (g i : List (List Int)) : St := ⟨sp 121 [(1, .ref 0 0), (2, (yZ a b c d e g i)), (6, nZ), (104, nZ), (105, .ref 0 1), (106, aI a), (107, UZ), (108, .ref 0 3), (109, aI c), (110, VZ), (111, (zak a c d e g i)), (112, nZ), (113, .ref 0 2), (114, aI b), (115, WZ), (116, .ref 0 3), (117, aI c), (118, zaq), (119, (zal b c d e g i)), (120, (yZ a b c d e g i))], [(zan p a b c), (zao g), (zap i), (zam d e g i), (zZ c), .ints [a] false, (zZ c), .ints [b] false], [3]⟩
abbrev zkk (p : List Int) (a b c : Int) (d e : Nat) (f : Int) (g i : List (List Int)) : St := ⟨sp 121 [(1, .ref 0 0), (2, (yZ a b c d e g i)), (6, nZ), (104, nZ), (105, .ref 0 1), (106, aI a), (107, VZ), (108, .ref 0 3), (109, aI c), (110, UZ), (111, (zak a c d e g i)), (112, nZ), (113, .ref 0 2), (114, aI b), (115, WZ), (116, .ref 0 3), (117, aI c), (118, zaq), (119, (zal b c d e g i)), (120, (yZ a b c d e g i))], [(zan p a b c), (zao g), (zap i), (zam d e g i), (zZ c), (zZ c), .ints [a] false, .ints [b] false], [3]⟩
abbrev rro_3_s13 (p : List Int) (a b c : Int) (d e : Nat) (f : Int) (g i : List (List Int)) : St := ⟨sp 121 [(1, .ref 0 0), (2, (yZ a b c d e g i)), (6, nZ), (104, nZ), (105, .ref 0 1), (106, aI a), (107, VZ), (108, .ref 0 3), (109, aI c), (110, WZ), (111, (zak a c d e g i)), (112, nZ), (113, .ref 0 2), (114, aI b), (115, UZ), (116, .ref 0 3), (117, aI c), (118, zaq), (119, (zal b c d e g i)), (120, (yZ a b c d e g i))], [(zan p a b c), (zao g), (zap i), (zam d e g i), (zZ c), .ints [b] false, .ints [a] false, (zZ c)], [3]⟩
theorem rro_3 (p : List Int) (a b c : Int) (d e : Nat) (f : Int) (g i : List (List Int)) (h1 : (p.length : Int) ≠ 2) (hL1 : zc7 (zcX p a b c) (Ex.exit 0, (zbv p a b c d e f g i))) (h3 : d ≤ g.length) (h4 : e ≤ i.length) (hL2 : zfi (zd2 p a b c g i ([g.take d, i.take e])) (Ex.exit 2, (zhs p a b c g i ([g.take d, i.take e])))) (h6 : 2 ≤ List.length [g.take d, i.take e]) (h7 : 1 ≤ List.length [a]) (h8 : 1 ≤ List.length [c]) (h9 : pCh (List.take 2 [g.take d, i.take e]) (List.take 1 [a]) (List.take 1 [c])) (h10 : 1 ≤ List.length [b]) (h11 : pCh (List.take 2 [g.take d, i.take e]) (List.take 1 [b]) (List.take 1 [c])) (h12 : r64 ((za8 (svs (List.take 2 [g.take d, i.take e]) (vl (List.take 1 [a])) (vl (List.take 1 [c]))) 0 0).fst - (za8 (svs (List.take 2 [g.take d, i.take e]) (vl (List.take 1 [b])) (vl (List.take 1 [c]))) 0 0).fst)) : FC Tryz.prog 103 [.agg [.sq p, .lit (.int .i64 a), .lit (.int .i64 b), .lit (.int .i64 c)]] (aI ((za8 (svs (List.take 2 [g.take d, i.take e]) (vl (List.take 1 [a])) (vl (List.take 1 [c]))) 0 0).fst - (za8 (svs (List.take 2 [g.take d, i.take e]) (vl (List.take 1 [b])) (vl (List.take 1 [c]))) 0 0).fst)) := kZ zhM 60 [(0, false)] [some (wZ Tryz.prog (eZ Tryz.prog 103 0) [] [1, 3, 4, 5] [] (zcX p a b c) (Ex.exit 0, (zbv p a b c d e f g i))), some (wZ Tryz.prog (eZ Tryz.prog 103 1) [] [1, 6] [3] (zd2 p a b c g i ([g.take d, i.take e])) (Ex.exit 2, (zhs p a b c g i ([g.take d, i.take e]))))] (.cons (beq_false_of_ne h1) (.vi [1, 3, 4, 5] [] hL1 (.cons h3 (.cons h4 (.vi [1, 6] [3] hL2 (.cons h6 (.cons h7 (.cons h8 (.cons h9 (.cons h6 (.cons h10 (.cons h8 (.cons h11 (.cons (iR h12) (.cons h6 (.cons h10 (.cons h8 (.cons h11 (.cons (iR h12) (.cons (sR (zbG p a b c d e f g i)) (.cons h6 (.cons h7 (.cons h8 (.cons h9 (.cons h6 (.cons h10 (.cons h8 (.cons h11 (.cons (iR h12) (.cons h6 (.cons h7 (.cons h8 (.cons h9 (.cons h6 (.cons h10 (.cons h8 (.cons h11 (.cons (iR h12) (.cons (sR (zbG p a b c d e f g i)) (.cons h6 (.cons h7 (.cons h8 (.cons h9 (.cons h6 (.cons h10 (.cons h8 (.cons h11 (.cons (iR h12) (.cons h6 (.cons h7 (.cons h8 (.cons h9 (.cons h6 (.cons h10 (.cons h8 (.cons h11 (.cons (iR h12) (.cons (sR (rro_3_s1 p a b c d e f g i)) (.cons (sR (zbG p a b c d e f g i)) (.cons (sR (zbG p a b c d e f g i)) (.cons h6 (.cons h7 (.cons h8 (.cons h9 (.cons h6 (.cons h10 (.cons h8 (.cons h11 (.cons (iR h12) (.cons h6 (.cons h7 (.cons h8 (.cons h9 (.cons h6 (.cons h10 (.cons h8 (.cons h11 (.cons (iR h12) (.cons (sR (zl5 p a b c d e f g i)) (.cons h6 (.cons h7 (.cons h8 (.cons h9 (.cons h6 (.cons h10 (.cons h8 (.cons h11 (.cons (iR h12) (.cons (sR (zl5 p a b c d e f g i)) (.cons h6 (.cons h7 (.cons h8 (.cons h9 (.cons h6 (.cons h10 (.cons h8 (.cons h11 (.cons (iR h12) (.cons h6 (.cons h7 (.cons h8 (.cons h9 (.cons h6 (.cons h10 (.cons h8 (.cons h11 (.cons (iR h12) (.cons (sR (zl6 p a b c d e f g i)) (.cons h6 (.cons h7 (.cons h8 (.cons h9 (.cons h6 (.cons h10 (.cons h8 (.cons h11 (.cons (iR h12) (.cons (sR (zl6 p a b c d e f g i)) (.cons (sR (zbG p a b c d e f g i)) (.cons (sR (zbG p a b c d e f g i)) (.cons h6 (.cons h7 (.cons h8 (.cons h9 (.cons h6 (.cons h10 (.cons h8 (.cons h11 (.cons (iR h12) (.cons h6 (.cons h10 (.cons h8 (.cons h11 (.cons (iR h12) (.cons (sR (zd0 p a b c d e f g i)) (.cons h6 (.cons h7 (.cons h8 (.cons h9 (.cons h6 (.cons h10 (.cons h8 (.cons h11 (.cons (iR h12) (.cons h6 (.cons h7 (.cons h8 (.cons h9 (.cons h6 (.cons h10 (.cons h8 (.cons h11 (.cons (iR h12) (.cons (sR (zd0 p a b c d e f g i)) (.cons h6 (.cons h7 (.cons h8 (.cons h9 (.cons h6 (.cons h10 (.cons h8 (.cons h11 (.cons (iR h12) (.cons h6 (.cons h7 (.cons h8 (.cons h9 (.cons h6 (.cons h10 (.cons h8 (.cons h11 (.cons (iR h12) (.cons (sR (rro_3_s5 p a b c d e f g i)) (.cons (sR (zd0 p a b c d e f g i)) (.cons (sR (zd0 p a b c d e f g i)) (.cons h6 (.cons h7 (.cons h8 (.cons h9 (.cons h6 (.cons h10 (.cons h8 (.cons h11 (.cons (iR h12) (.cons h6 (.cons h7 (.cons h8 (.cons h9 (.cons h6 (.cons h10 (.cons h8 (.cons h11 (.cons (iR h12) (.cons (sR (zl7 p a b c d e f g i)) (.cons h6 (.cons h7 (.cons h8 (.cons h9 (.cons h6 (.cons h10 (.cons h8 (.cons h11 (.cons (iR h12) (.cons (sR (zl7 p a b c d e f g i)) (.cons h6 (.cons h7 (.cons h8 (.cons h9 (.cons h6 (.cons h10 (.cons h8 (.cons h11 (.cons (iR h12) (.cons h6 (.cons h7 (.cons h8 (.cons h9 (.cons h6 (.cons h10 (.cons h8 (.cons h11 (.cons (iR h12) (.cons (sR (zl8 p a b c d e f g i)) (.cons h6 (.cons h7 (.cons h8 (.cons h9 (.cons h6 (.cons h10 (.cons h8 (.cons h11 (.cons (iR h12) (.cons (sR (zl8 p a b c d e f g i)) (.cons (sR (zd0 p a b c d e f g i)) (.cons (sR (zd0 p a b c d e f g i)) (.cons h6 (.cons h7 (.cons h8 (.cons h9 (.cons h6 (.cons h10 (.cons h8 (.cons h11 (.cons (iR h12) (.cons h6 (.cons h7 (.cons h8 (.cons h9 (.cons h6 (.cons h10 (.cons h8 (.cons h11 (.cons (iR h12) (.cons (sR (zgE p a b c d e f g i)) (.cons h6 (.cons h7 (.cons h8 (.cons h9 (.cons h6 (.cons h10 (.cons h8 (.cons h11 (.cons (iR h12) (.cons (sR (zgE p a b c d e f g i)) (.cons h6 (.cons h7 (.cons h8 (.cons h9 (.cons h6 (.cons h10 (.cons h8 (.cons h11 (.cons (iR h12) (.cons h6 (.cons h7 (.cons h8 (.cons h9 (.cons h6 (.cons h10 (.cons h8 (.cons h11 (.cons (iR h12) (.cons (sR (zl9 p a b c d e f g i)) (.cons h6 (.cons h7 (.cons h8 (.cons h9 (.cons h6 (.cons h10 (.cons h8 (.cons h11 (.cons (iR h12) (.cons (sR (zl9 p a b c d e f g i)) (.cons h6 (.cons h7 (.cons h8 (.cons h9 (.cons h6 (.cons h10 (.cons h8 (.cons h11 (.cons (iR h12) (.cons h6 (.cons h7 (.cons h8 (.cons h9 (.cons h6 (.cons h10 (.cons h8 (.cons h11 (.cons (iR h12) (.cons (sR (rro_3_s10 p a b c d e f g i)) (.cons (sR (zgE p a b c d e f g i)) (.cons (sR (zgE p a b c d e f g i)) (.cons h6 (.cons h7 (.cons h8 (.cons h9 (.cons h6 (.cons h10 (.cons h8 (.cons h11 (.cons (iR h12) (.cons h6 (.cons h7 (.cons h8 (.cons h9 (.cons h6 (.cons h10 (.cons h8 (.cons h11 (.cons (iR h12) (.cons (sR (zfb p a b c d e f g i)) (.cons h6 (.cons h7 (.cons h8 (.cons h9 (.cons h6 (.cons h10 (.cons h8 (.cons h11 (.cons (iR h12) (.cons (sR (zfb p a b c d e f g i)) (.cons h6 (.cons h7 (.cons h8 (.cons h9 (.cons h6 (.cons h10 (.cons h8 (.cons h11 (.cons (iR h12) (.cons h6 (.cons h7 (.cons h8 (.cons h9 (.cons h6 (.cons h10 (.cons h8 (.cons h11 (.cons (iR h12) (.cons (sR (zkk p a b c d e f g i)) (.cons h6 (.cons h7 (.cons h8 (.cons h9 (.cons h6 (.cons h10 (.cons h8 (.cons h11 (.cons (iR h12) (.cons (sR (zkk p a b c d e f g i)) (.cons h6 (.cons h7 (.cons h8 (.cons h9 (.cons h6 (.cons h10 (.cons h8 (.cons h11 (.cons (iR h12) (.cons h6 (.cons h7 (.cons h8 (.cons h9 (.cons h6 (.cons h10 (.cons h8 (.cons h11 (.cons (iR h12) (.cons (sR (rro_3_s13 p a b c d e f g i)) (.cons (sR (zfb p a b c d e f g i)) (.cons (sR (zfb p a b c d e f g i)) (.cons (sR (zbG p a b c d e f g i)) (.cons (sR (zbG p a b c d e f g i)) (.cons (sR (zbG p a b c d e f g i)) .nil)))))))))))))))))))))))))))))))))))))))))))))))))))))))))))))))))))))))))))))))))))))))))))))))))))))))))))))))))))))))))))))))))))))))))))))))))))))))))))))))))))))))))))))))))))))))))))))))))))))))))))))))))))))))))))))))))))))))))))))))))))))))))))))))))))))))))))))))))))))))))))))))))))))))))))))))))))))))))))))))))))))))))))))))))))))))))))))))))))))))))))))))))))))))))))))))))))))))))))) (by kernel_rfl)
abbrev AZ (a : Int) (b : Int) (c : Int) (j : Nat) (l : List (List (List Int))) : AV := aI ((za8 (svs (l.take j) (vl (List.take 1 [a])) (vl (List.take 1 [c]))) 0 0).fst - (za8 (svs (l.take j) (vl (List.take 1 [b])) (vl (List.take 1 [c]))) 0 0).fst)
abbrev zar (a : Int) (c : Int) (j : Nat) (l : List (List (List Int))) : AV := aI (za8 (svs (l.take j) (vl (List.take 1 [a])) (vl (List.take 1 [c]))) 0 0).fst
abbrev zas (b : Int) (c : Int) (j : Nat) (l : List (List (List Int))) : AV := aI (za8 (svs (l.take j) (vl (List.take 1 [b])) (vl (List.take 1 [c]))) 0 0).fst
abbrev zat (l : List (List (List Int))) : Row := .lst (EK.sl (EK.sl (.int .i64))) l false
abbrev zau (p : List Int) (a : Int) (b : Int) (c : Int) : Row := .flat [.sq p, aI a, aI b, aI c] true
abbrev zav (g : List (List Int)) : Row := .lst (EK.sl (.int .i64)) g false
abbrev zaw (i : List (List Int)) : Row := .lst (EK.sl (.int .i64)) i false
abbrev BZ (c : Int) : Row := .ints [c] false
abbrev zax : AV := .own 5 0 1 1
abbrev zay : AV := .own 6 0 1 1
abbrev XZ : AV := .own 7 0 1 1
abbrev YZ : AV := .own 8 0 1 1
abbrev zbH (p : List Int) (a b c : Int) (d e : Nat) (f : Int) (g i : List (List Int)) (j : Nat) (l : List (List (List Int))) : St := ⟨sp 121 [(1, .ref 0 0), (2, (AZ a b c j l)), (6, .own 4 0 j 1), (104, .own 4 0 j 1), (105, .ref 0 1), (106, aI a), (107, zax), (108, .ref 0 3), (109, aI c), (110, zay), (111, (zar a c j l)), (112, .own 4 0 j 1), (113, .ref 0 2), (114, aI b), (115, XZ), (116, .ref 0 3), (117, aI c), (118, YZ), (119, (zas b c j l)), (120, (AZ a b c j l))], [(zau p a b c), (zav g), (zaw i), .dead, (zat l), .ints [a] false, (BZ c), .ints [b] false, (BZ c)], [3]⟩
abbrev rro_4_s1 (p : List Int) (a b c : Int) (d e : Nat) (f : Int) (g i : List (List Int)) (j : Nat) (l : List (List (List Int))) : St := ⟨sp 121 [(1, .ref 0 0), (2, (AZ a b c j l)), (6, .own 4 0 j 1), (104, .own 4 0 j 1), (105, .ref 0 1), (106, aI a), (107, zax), (108, .ref 0 3), (109, aI c), (110, zay), (111, (zar a c j l)), (112, .own 4 0 j 1), (113, .ref 0 2), (114, aI b), (115, YZ), (116, .ref 0 3), (117, aI c), (118, XZ), (119, (zas b c j l)), (120, (AZ a b c j l))], [(zau p a b c), (zav g), (zaw i), .dead, (zat l), .ints [a] false, (BZ c), (BZ c), .ints [b] false], [3]⟩
abbrev zma (p : List Int) (a b c : Int) (d e : Nat) (f : Int) (g i : List (List Int)) (j : Nat) (l : List (List (List Int))) : St := ⟨sp 121 [(1, .ref 0 0), (2, (AZ a b c j l)), (6, .own 4 0 j 1), (104, .own 4 0 j 1), (105, .ref 0 1), (106, aI a), (107, zax), (108, .ref 0 3), (109, aI c), (110, XZ), (111, (zar a c j l)), (112, .own 4 0 j 1), (113, .ref 0 2), (114, aI b), (115, zay), (116, .ref 0 3), (117, aI c), (118, YZ), (119, (zas b c j l)), (120, (AZ a b c j l))], [(zau p a b c), (zav g), (zaw i), .dead, (zat l), .ints [a] false, .ints [b] false, (BZ c), (BZ c)], [3]⟩
abbrev zmb (p : List Int) (a b c : Int) (d e : Nat) (f : Int) (g i : List (List Int)) (j : Nat) (l : List (List (List Int))) : St := ⟨sp 121 [(1, .ref 0 0), (2, (AZ a b c j l)), (6, .own 4 0 j 1), (104, .own 4 0 j 1), (105, .ref 0 1), (106, aI a), (107, zax), (108, .ref 0 3), (109, aI c), (110, XZ), (111, (zar a c j l)), (112, .own 4 0 j 1), (113, .ref 0 2), (114, aI b), (115, YZ), (116, .ref 0 3), (117, aI c), (118, zay), (119, (zas b c j l)), (120, (AZ a b c j l))], [(zau p a b c), (zav g), (zaw i), .dead, (zat l), .ints [a] false, (BZ c), (BZ c), .ints [b] false], [3]⟩
abbrev zd1 (p : List Int) (a b c : Int) (d e : Nat) (f : Int) (g i : List (List Int)) (j : Nat) (l : List (List (List Int))) : St := ⟨sp 121 [(1, .ref 0 0), (2, (AZ a b c j l)), (6, .own 4 0 j 1), (104, .own 4 0 j 1), (105, .ref 0 1), (106, aI a), (107, zay), (108, .ref 0 3), (109, aI c), (110, zax), (111, (zar a c j l)), (112, .own 4 0 j 1), (113, .ref 0 2), (114, aI b), (115, XZ), (116, .ref 0 3), (117, aI c), (118, YZ), (119, (zas b c j l)), (120, (AZ a b c j l))], [(zau p a b c), (zav g), (zaw i), .dead, (zat l), (BZ c), .ints [a] false, .ints [b] false, (BZ c)], [3]⟩
abbrev rro_4_s5 (p : List Int) (a b c : Int) (d e : Nat) (f : Int) (g i : List (List Int)) (j : Nat) (l : List (List (List Int))) : St := ⟨sp 121 [(1, .ref 0 0), (2, (AZ a b c j l)), (6, .own 4 0 j 1), (104, .own 4 0 j 1), (105, .ref 0 1), (106, aI a), (107, zay), (108, .ref 0 3), (109, aI c), (110, zax), (111, (zar a c j l)), (112, .own 4 0 j 1), (113, .ref 0 2), (114, aI b), (115, YZ), (116, .ref 0 3), (117, aI c), (118, XZ), (119, (zas b c j l)), (120, (AZ a b c j l))], [(zau p a b c), (zav g), (zaw i), .dead, (zat l), (BZ c), .ints [a] false, (BZ c), .ints [b] false], [3]⟩
abbrev zmc (p : List Int) (a b c : Int) (d e : Nat) (f : Int) (g i : List (List Int)) (j : Nat) (l : List (List (List Int))) : St := ⟨sp 121 [(1, .ref 0 0), (2, (AZ a b c j l)), (6, .own 4 0 j 1), (104, .own 4 0 j 1), (105, .ref 0 1), (106, aI a), (107, XZ), (108, .ref 0 3), (109, aI c), (110, zax), (111, (zar a c j l)), (112, .own 4 0 j 1), (113, .ref 0 2), (114, aI b), (115, zay), (116, .ref 0 3), (117, aI c), (118, YZ), (119, (zas b c j l)), (120, (AZ a b c j l))], [(zau p a b c), (zav g), (zaw i), .dead, (zat l), (BZ c), .ints [b] false, .ints [a] false, (BZ c)], [3]⟩
abbrev zmd (p : List Int) (a b c : Int) (d e : Nat) (f : Int) (g i : List (List Int)) (j : Nat) (l : List (List (List Int))) : St := ⟨sp 121 [(1, .ref 0 0), (2, (AZ a b c j l)), (6, .own 4 0 j 1), (104, .own 4 0 j 1), (105, .ref 0 1), (106, aI a), (107, XZ), (108, .ref 0 3), (109, aI c), (110, zax), (111, (zar a c j l)), (112, .own 4 0 j 1), (113, .ref 0 2), (114, aI b), (115, YZ), (116, .ref 0 3), (117, aI c), (118, zay), (119, (zas b c j l)), (120, (AZ a b c j l))], [(zau p a b c), (zav g), (zaw i), .dead, (zat l), (BZ c), (BZ c), .ints [a] false, .ints [b] false], [3]⟩
abbrev zgF (p : List Int) (a b c : Int) (d e : Nat) (f : Int) (g i : List (List Int)) (j : Nat) (l : List (List (List Int))) : St := ⟨sp 121 [(1, .ref 0 0), (2, (AZ a b c j l)), (6, .own 4 0 j 1), (104, .own 4 0 j 1), (105, .ref 0 1), (106, aI a), (107, zay), (108, .ref 0 3), (109, aI c), (110, XZ), (111, (zar a c j l)), (112, .own 4 0 j 1), (113, .ref 0 2), (114, aI b), (115, zax), (116, .ref 0 3), (117, aI c), (118, YZ), (119, (zas b c j l)), (120, (AZ a b c j l))], [(zau p a b c), (zav g), (zaw i), .dead, (zat l), .ints [b] false, .ints [a] false, (BZ c), (BZ c)], [3]⟩
abbrev zme (p : List Int) (a b c : Int) (d e : Nat) (f : Int) (g i : List (List Int)) (j : Nat) (l : List (List (List Int))) : St := ⟨sp 121 [(1, .ref 0 0), (2, (AZ a b c j l)), (6, .own 4 0 j 1), (104, .own 4 0 j 1), (105, .ref 0 1), (106, aI a), (107, XZ), (108, .ref 0 3), (109, aI c), (110, zay), (111, (zar a c j l)), (112, .own 4 0 j 1), (113, .ref 0 2), (114, aI b), (115, zax), (116, .ref 0 3), (117, aI c), (118, YZ), (119, (zas b c j l)), (120, (AZ a b c j l))], [(zau p a b c), (zav g), (zaw i), .dead, (zat l), .ints [b] false, (BZ c), .ints [a] false, (BZ c)], [3]⟩
abbrev rro_4_s10 (p : List Int) (a b c : Int) (d e : Nat) (f : Int) (g i : List (List Int)) (j : Nat) (l : List (List (List Int))) : St := ⟨sp 121 [(1, .ref 0 0), (2, (AZ a b c j l)), (6, .own 4 0 j 1), (104, .own 4 0 j 1), (105, .ref 0 1), (106, aI a), (107, XZ), (108, .ref 0 3), (109, aI c), (110, YZ), (111, (zar a c j l)), (112, .own 4 0 j 1), (113, .ref 0 2), (114, aI b), (115, zax), (116, .ref 0 3), (117, aI c), (118, zay), (119, (zas b c j l)), (120, (AZ a b c j l))], [(zau p a b c), (zav g), (zaw i), .dead, (zat l), .ints [b] false, (BZ c), .ints [a] false, (BZ c)], [3]⟩
abbrev zfc (p : List Int) (a b c : Int) (d e : Nat) (f : Int) (g i : List (List Int)) (j : Nat) (l : List (List (List Int))) : St := ⟨sp 121 [(1, .ref 0 0), (2, (AZ a b c j l)), (6, .own 4 0 j 1), (104, .own 4 0 j 1), (105, .ref 0 1), (106, aI a), (107, zay), (108, .ref 0 3), (109, aI c), (110, XZ), (111, (zar a c j l)), (112, .own 4 0 j 1), (113, .ref 0 2), (114, aI b), (115, YZ), (116, .ref 0 3), (117, aI c), (118, zax), (119, (zas b c j l)), (120, (AZ a b c j l))], [(zau p a b c), (zav g), (zaw i), .dead, (zat l), (BZ c), .ints [a] false, (BZ c), .ints [b] false], [3]⟩
abbrev zkl (p : List Int) (a b c : Int) (d e : Nat) (f : Int) (g i : List (List Int)) (j : Nat) (l : List (List (List Int))) : St := ⟨sp 121 [(1, .ref 0 0), (2, (AZ a b c j l)), (6, .own 4 0 j 1), (104, .own 4 0 j 1), (105, .ref 0 1), (106, aI a), (107, XZ), (108, .ref 0 3), (109, aI c), (110, zay), (111, (zar a c j l)), (112, .own 4 0 j 1), (113, .ref 0 2), (114, aI b), (115, YZ), (116, .ref 0 3), (117, aI c), (118, zax), (119, (zas b c j l)), (120, (AZ a b c j l))], [(zau p a b c), (zav g), (zaw i), .dead, (zat l), (BZ c), (BZ c), .ints [a] false, .ints [b] false], [3]⟩
abbrev rro_4_s13 (p : List Int) (a b c : Int) (d e : Nat) (f : Int) (g i : List (List Int)) (j : Nat) (l : List (List (List Int))) : St := ⟨sp 121 [(1, .ref 0 0), (2, (AZ a b c j l)), (6, .own 4 0 j 1), (104, .own 4 0 j 1), (105, .ref 0 1), (106, aI a), (107, XZ), (108, .ref 0 3), (109, aI c), (110, YZ), (111, (zar a c j l)), (112, .own 4 0 j 1), (113, .ref 0 2), (114, aI b), (115, zay), (116, .ref 0 3), (117, aI c), (118, zax), (119, (zas b c j l)), (120, (AZ a b c j l))], [(zau p a b c), (zav g), (zaw i), .dead, (zat l), (BZ c), .ints [b] false, .ints [a] false, (BZ c)], [3]⟩
theorem rro_4 (p : List Int) (a b c : Int) (d e : Nat) (f : Int) (g i : List (List Int)) (j : Nat) (l : List (List (List Int))) (h1 : (p.length : Int) ≠ 2) (hL1 : zc7 (zcX p a b c) (Ex.exit 0, (zbv p a b c d e f g i))) (h3 : d ≤ g.length) (h4 : e ≤ i.length) (hL2 : zfi (zd2 p a b c g i ([g.take d, i.take e])) (Ex.exit 2, (zdA p a b c g i ([g.take d, i.take e]) j l))) (h6 : j ≤ l.length) (h7 : 1 ≤ List.length [a]) (h8 : 1 ≤ List.length [c]) (h9 : pCh (l.take j) (List.take 1 [a]) (List.take 1 [c])) (h10 : 1 ≤ List.length [b]) (h11 : pCh (l.take j) (List.take 1 [b]) (List.take 1 [c])) (h12 : r64 ((za8 (svs (l.take j) (vl (List.take 1 [a])) (vl (List.take 1 [c]))) 0 0).fst - (za8 (svs (l.take j) (vl (List.take 1 [b])) (vl (List.take 1 [c]))) 0 0).fst)) : FC Tryz.prog 103 [.agg [.sq p, .lit (.int .i64 a), .lit (.int .i64 b), .lit (.int .i64 c)]] (aI ((za8 (svs (l.take j) (vl (List.take 1 [a])) (vl (List.take 1 [c]))) 0 0).fst - (za8 (svs (l.take j) (vl (List.take 1 [b])) (vl (List.take 1 [c]))) 0 0).fst)) := kZ zhM 60 [(0, false)] [some (wZ Tryz.prog (eZ Tryz.prog 103 0) [] [1, 3, 4, 5] [] (zcX p a b c) (Ex.exit 0, (zbv p a b c d e f g i))), some (wZ Tryz.prog (eZ Tryz.prog 103 1) [] [1, 6] [3] (zd2 p a b c g i ([g.take d, i.take e])) (Ex.exit 2, (zdA p a b c g i ([g.take d, i.take e]) j l)))] (.cons (beq_false_of_ne h1) (.vi [1, 3, 4, 5] [] hL1 (.cons h3 (.cons h4 (.vi [1, 6] [3] hL2 (.cons h6 (.cons h7 (.cons h8 (.cons h9 (.cons h6 (.cons h10 (.cons h8 (.cons h11 (.cons (iR h12) (.cons h6 (.cons h10 (.cons h8 (.cons h11 (.cons (iR h12) (.cons (sR (zbH p a b c d e f g i j l)) (.cons h6 (.cons h7 (.cons h8 (.cons h9 (.cons h6 (.cons h10 (.cons h8 (.cons h11 (.cons (iR h12) (.cons h6 (.cons h7 (.cons h8 (.cons h9 (.cons h6 (.cons h10 (.cons h8 (.cons h11 (.cons (iR h12) (.cons (sR (zbH p a b c d e f g i j l)) (.cons h6 (.cons h7 (.cons h8 (.cons h9 (.cons h6 (.cons h10 (.cons h8 (.cons h11 (.cons (iR h12) (.cons h6 (.cons h7 (.cons h8 (.cons h9 (.cons h6 (.cons h10 (.cons h8 (.cons h11 (.cons (iR h12) (.cons (sR (rro_4_s1 p a b c d e f g i j l)) (.cons (sR (zbH p a b c d e f g i j l)) (.cons (sR (zbH p a b c d e f g i j l)) (.cons h6 (.cons h7 (.cons h8 (.cons h9 (.cons h6 (.cons h10 (.cons h8 (.cons h11 (.cons (iR h12) (.cons h6 (.cons h7 (.cons h8 (.cons h9 (.cons h6 (.cons h10 (.cons h8 (.cons h11 (.cons (iR h12) (.cons (sR (zma p a b c d e f g i j l)) (.cons h6 (.cons h7 (.cons h8 (.cons h9 (.cons h6 (.cons h10 (.cons h8 (.cons h11 (.cons (iR h12) (.cons (sR (zma p a b c d e f g i j l)) (.cons h6 (.cons h7 (.cons h8 (.cons h9 (.cons h6 (.cons h10 (.cons h8 (.cons h11 (.cons (iR h12) (.cons h6 (.cons h7 (.cons h8 (.cons h9 (.cons h6 (.cons h10 (.cons h8 (.cons h11 (.cons (iR h12) (.cons (sR (zmb p a b c d e f g i j l)) (.cons h6 (.cons h7 (.cons h8 (.cons h9 (.cons h6 (.cons h10 (.cons h8 (.cons h11 (.cons (iR h12) (.cons (sR (zmb p a b c d e f g i j l)) (.cons (sR (zbH p a b c d e f g i j l)) (.cons (sR (zbH p a b c d e f g i j l)) (.cons h6 (.cons h7 (.cons h8 (.cons h9 (.cons h6 (.cons h10 (.cons h8 (.cons h11 (.cons (iR h12) (.cons h6 (.cons h10 (.cons h8 (.cons h11 (.cons (iR h12) (.cons (sR (zd1 p a b c d e f g i j l)) (.cons h6 (.cons h7 (.cons h8 (.cons h9 (.cons h6 (.cons h10 (.cons h8 (.cons h11 (.cons (iR h12) (.cons h6 (.cons h7 (.cons h8 (.cons h9 (.cons h6 (.cons h10 (.cons h8 (.cons h11 (.cons (iR h12) (.cons (sR (zd1 p a b c d e f g i j l)) (.cons h6 (.cons h7 (.cons h8 (.cons h9 (.cons h6 (.cons h10 (.cons h8 (.cons h11 (.cons (iR h12) (.cons h6 (.cons h7 (.cons h8 (.cons h9 (.cons h6 (.cons h10 (.cons h8 (.cons h11 (.cons (iR h12) (.cons (sR (rro_4_s5 p a b c d e f g i j l)) (.cons (sR (zd1 p a b c d e f g i j l)) (.cons (sR (zd1 p a b c d e f g i j l)) (.cons h6 (.cons h7 (.cons h8 (.cons h9 (.cons h6 (.cons h10 (.cons h8 (.cons h11 (.cons (iR h12) (.cons h6 (.cons h7 (.cons h8 (.cons h9 (.cons h6 (.cons h10 (.cons h8 (.cons h11 (.cons (iR h12) (.cons (sR (zmc p a b c d e f g i j l)) (.cons h6 (.cons h7 (.cons h8 (.cons h9 (.cons h6 (.cons h10 (.cons h8 (.cons h11 (.cons (iR h12) (.cons (sR (zmc p a b c d e f g i j l)) (.cons h6 (.cons h7 (.cons h8 (.cons h9 (.cons h6 (.cons h10 (.cons h8 (.cons h11 (.cons (iR h12) (.cons h6 (.cons h7 (.cons h8 (.cons h9 (.cons h6 (.cons h10 (.cons h8 (.cons h11 (.cons (iR h12) (.cons (sR (zmd p a b c d e f g i j l)) (.cons h6 (.cons h7 (.cons h8 (.cons h9 (.cons h6 (.cons h10 (.cons h8 (.cons h11 (.cons (iR h12) (.cons (sR (zmd p a b c d e f g i j l)) (.cons (sR (zd1 p a b c d e f g i j l)) (.cons (sR (zd1 p a b c d e f g i j l)) (.cons h6 (.cons h7 (.cons h8 (.cons h9 (.cons h6 (.cons h10 (.cons h8 (.cons h11 (.cons (iR h12) (.cons h6 (.cons h7 (.cons h8 (.cons h9 (.cons h6 (.cons h10 (.cons h8 (.cons h11 (.cons (iR h12) (.cons (sR (zgF p a b c d e f g i j l)) (.cons h6 (.cons h7 (.cons h8 (.cons h9 (.cons h6 (.cons h10 (.cons h8 (.cons h11 (.cons (iR h12) (.cons (sR (zgF p a b c d e f g i j l)) (.cons h6 (.cons h7 (.cons h8 (.cons h9 (.cons h6 (.cons h10 (.cons h8 (.cons h11 (.cons (iR h12) (.cons h6 (.cons h7 (.cons h8 (.cons h9 (.cons h6 (.cons h10 (.cons h8 (.cons h11 (.cons (iR h12) (.cons (sR (zme p a b c d e f g i j l)) (.cons h6 (.cons h7 (.cons h8 (.cons h9 (.cons h6 (.cons h10 (.cons h8 (.cons h11 (.cons (iR h12) (.cons (sR (zme p a b c d e f g i j l)) (.cons h6 (.cons h7 (.cons h8 (.cons h9 (.cons h6 (.cons h10 (.cons h8 (.cons h11 (.cons (iR h12) (.cons h6 (.cons h7 (.cons h8 (.cons h9 (.cons h6 (.cons h10 (.cons h8 (.cons h11 (.cons (iR h12) (.cons (sR (rro_4_s10 p a b c d e f g i j l)) (.cons (sR (zgF p a b c d e f g i j l)) (.cons (sR (zgF p a b c d e f g i j l)) (.cons h6 (.cons h7 (.cons h8 (.cons h9 (.cons h6 (.cons h10 (.cons h8 (.cons h11 (.cons (iR h12) (.cons h6 (.cons h7 (.cons h8 (.cons h9 (.cons h6 (.cons h10 (.cons h8 (.cons h11 (.cons (iR h12) (.cons (sR (zfc p a b c d e f g i j l)) (.cons h6 (.cons h7 (.cons h8 (.cons h9 (.cons h6 (.cons h10 (.cons h8 (.cons h11 (.cons (iR h12) (.cons (sR (zfc p a b c d e f g i j l)) (.cons h6 (.cons h7 (.cons h8 (.cons h9 (.cons h6 (.cons h10 (.cons h8 (.cons h11 (.cons (iR h12) (.cons h6 (.cons h7 (.cons h8 (.cons h9 (.cons h6 (.cons h10 (.cons h8 (.cons h11 (.cons (iR h12) (.cons (sR (zkl p a b c d e f g i j l)) (.cons h6 (.cons h7 (.cons h8 (.cons h9 (.cons h6 (.cons h10 (.cons h8 (.cons h11 (.cons (iR h12) (.cons (sR (zkl p a b c d e f g i j l)) (.cons h6 (.cons h7 (.cons h8 (.cons h9 (.cons h6 (.cons h10 (.cons h8 (.cons h11 (.cons (iR h12) (.cons h6 (.cons h7 (.cons h8 (.cons h9 (.cons h6 (.cons h10 (.cons h8 (.cons h11 (.cons (iR h12) (.cons (sR (rro_4_s13 p a b c d e f g i j l)) (.cons (sR (zfc p a b c d e f g i j l)) (.cons (sR (zfc p a b c d e f g i j l)) (.cons (sR (zbH p a b c d e f g i j l)) (.cons (sR (zbH p a b c d e f g i j l)) (.cons (sR (zbH p a b c d e f g i j l)) .nil)))))))))))))))))))))))))))))))))))))))))))))))))))))))))))))))))))))))))))))))))))))))))))))))))))))))))))))))))))))))))))))))))))))))))))))))))))))))))))))))))))))))))))))))))))))))))))))))))))))))))))))))))))))))))))))))))))))))))))))))))))))))))))))))))))))))))))))))))))))))))))))))))))))))))))))))))))))))))))))))))))))))))))))))))))))))))))))))))))))))))))))))))))))))))))))))))))))))))))) (by kernel_rfl)
end
noncomputable section
end
open Go.Kf
def zaQ (p : List Int) : List (List Int) := p.map fun x => [x]
def zbd (p : List Int) : List (List Int) := (List.range (p.length - 1)).map fun j => [((j + 1 : Nat) : Int) * p.getD (j + 1) 0]
theorem zmr (x : Int) : vl [x] = x := by simp [vl]
theorem zd3 (p : List Int) : (zaQ p).length = p.length := by simp [zaQ]
theorem zbX (p : List Int) : (zbd p).length = p.length - 1 := by simp [zbd]
theorem vls_sing (p : List Int) : vls (zaQ p) = p := by
  unfold vls zaQ
  rw [List.map_map]
  conv => rhs; rw [← List.map_id p]
  apply List.map_congr_left
  intro x _
  exact zmr x
theorem vls_derR (p : List Int) : vls (zbd p) = der p := by
  unfold vls zbd der
  rw [List.map_map]
  apply List.map_congr_left
  intro i _
  show vl [_] = _
  rw [zmr, Int.mul_comm]
theorem zjj {p : List Int} {i : Nat} (h : i < p.length) : (zaQ p).getD i [] = [p.getD i 0] := by
  unfold zaQ
  simp [List.getD, h]
theorem zlC {p : List Int} {i : Nat} (h : i + 1 < p.length) : (zbd p).getD i [] = [((i + 1 : Nat) : Int) * p.getD (i + 1) 0] := by
  unfold zbd
  rw [List.getD_eq_getElem?_getD, List.getElem?_map, List.getElem?_range (by omega)]; rfl
theorem zc0 {l : List (List Int)} {k : Nat} (h : k < l.length) : List.take k (List.take k l) ++ List.take 1 [l.getD k []] = l.take (k + 1) := by
  rw [List.take_take, Nat.min_self, List.take_succ_eq_append_getElem h]
  simp [List.getD, h]
theorem zkj {p : List Int} (h : zcO p) (a b c : Int) : ∀ (m i : Nat), i + m = p.length → 2 ≤ i →
    zc7 (zfd p a b c i (i - 1) i ((zaQ p).take i) ((zbd p).take (i - 1))) (Ex.exit 0, zbv p a b c p.length (p.length - 1) p.length (zaQ p) (zbd p))
  | 0, i, hi, h2 => by
    obtain rfl : i = p.length := by omega
    have := zn6 p a b c p.length (p.length - 1) p.length ((zaQ p).take p.length) ((zbd p).take (p.length - 1)) (by omega)
    rw [show (zaQ p).take p.length = zaQ p by rw [← zd3, List.take_length], show (zbd p).take (p.length - 1) = zbd p by rw [← zbX, List.take_length]] at this ⊢
    exact this
  | m + 1, i, hi, h2 => by
    have hlt : i < p.length := by omega
    have hl := h.2.1
    obtain ⟨j, rfl⟩ : ∃ j, i = j + 1 := ⟨i - 1, by omega⟩
    have ih := zkj h a b c m (j + 1 + 1) (by omega) (by omega)
    have s1 := zd3 p
    have s2 := zbX p
    have hg := zeI h.2.2 (j + 1)
    have hm := zj6 (a := ((j + 1 : Nat) : Int)) (b := p.getD (j + 1) 0) (A := 5) (B := 1000) (by omega) hg
    have e1 : Int.toNat ((j + 1 : Nat) : Int) = j + 1 := rfl
    have go := @zn5 p a b c (j + 1) j ((j + 1 : Nat) : Int) ((zaQ p).take (j + 1)) ((zbd p).take j) (by omega) (by omega) (by rw [e1]; omega) (by simp) (by simp) (by simp; omega) (by simp; omega) (by rw [List.length_take]; omega) (by omega) (by rw [e1]; omega) (by simp) (by simp) (by simp; omega) (by simp; omega) (by rw [List.length_take]; omega) (by omega)
      (Ex.exit 0, zbv p a b c p.length (p.length - 1) p.length (zaQ p) (zbd p))
    rw [e1] at go
    rw [show List.take 1 [List.take 1 [p.getD (j + 1) 0]] = List.take 1 [(zaQ p).getD (j + 1) []] by rw [zjj hlt]; rfl, zc0 (by omega),
      show List.take 1 [List.take 1 [((j + 1 : Nat) : Int) * p.getD (j + 1) 0]] = List.take 1 [(zbd p).getD j []] by rw [zlC hlt]; rfl, zc0 (by omega)] at go
    exact go ih
theorem rro0 {p : List Int} (h : zcO p) (a b c : Int) : zc7 (zcX p a b c) (Ex.exit 0, zbv p a b c p.length (p.length - 1) p.length (zaQ p) (zbd p)) := by
  have hl := h.1
  have hl5 := h.2.1
  have hg := zeI h.2.2 1
  have k := zkj h a b c (p.length - 2) 2 (by omega) (by omega)
  have s1 := zd3 p
  have s2 := zbX p
  have e1 : List.take 1 [[p.getD 0 0]] ++ List.take 1 [List.take 1 [p.getD 1 0]] = (zaQ p).take 2 := by
    have := zc0 (l := zaQ p) (k := 1) (by omega)
    rw [zjj (by omega)] at this
    have t0 := zc0 (l := zaQ p) (k := 0) (by omega)
    rw [zjj (by omega)] at t0
    rw [← this, ← t0]; rfl
  have e2 : [[1 * p.getD 1 0]] = (zbd p).take 1 := by
    have t0 := zc0 (l := zbd p) (k := 0) (by omega)
    rw [zlC (by omega)] at t0
    rw [← t0]; rfl
  refine zn3 p a b c (by omega) (by omega) (by simp) (by simp) (by simp) (by simp) (by simp) ?_
  refine zn4 p a b c [[p.getD 0 0]] (by omega) (by omega) (by simp) (by simp) (by simp) (by simp) (by simp) (by omega) (by simp) (by simp) (by simp) (by simp) (by simp) ?_
  rw [e1, e2]
  exact k
def ngL (q : List (List Int)) : List (List Int) := q.map fun l => aZ (-(vl l))
theorem zdg (q : List (List Int)) : (ngL q).length = q.length := by simp [ngL]
theorem ziB {q : List (List Int)} {i : Nat} (h : i < q.length) : (ngL q).getD i [] = aZ (-(vl (q.getD i []))) := by
  unfold ngL; simp [List.getD, h]
theorem LB_loop {q : List (List Int)} (hq : ∀ l ∈ q, pX l) (hl : q.length ≤ 1000) (x : List Int) (a b c : Int) (l1 l2 : List (List Int)) (l3 : List (List (List Int))) : ∀ (m i : Nat), i + m = q.length → 1 ≤ i →
    zfe (zfg q x a b c l1 l2 l3 i i ((ngL q).take i)) (Ex.exit 4, zcB q x a b c l1 l2 l3 q.length q.length (ngL q))
  | 0, i, hi, _ => by
    obtain rfl : i = q.length := by omega
    have := zn9 q x a b c l1 l2 l3 q.length q.length ((ngL q).take q.length) (by omega)
    rw [show (ngL q).take q.length = ngL q by rw [← zdg, List.take_length]] at this ⊢
    exact this
  | m + 1, i, hi, h1 => by
    have hlt : i < q.length := by omega
    have hn := zdg q
    have ih := LB_loop hq hl x a b c l1 l2 l3 m (i + 1) (by omega) (by omega)
    have e1 : Int.toNat (i : Int) = i := rfl
    have hg : q.getD i [] = q[i] := by simp [List.getD, hlt]
    have hp : pX (q.getD i []) := by rw [hg]; exact hq _ (List.getElem_mem hlt)
    have go := @zn8 q x a b c l1 l2 l3 i i ((ngL q).take i) (by omega) (by omega) hp (by simp) (by simp; omega) (by simp; omega) (by rw [List.length_take]; omega) (by omega) (Ex.exit 4, zcB q x a b c l1 l2 l3 q.length q.length (ngL q))
    rw [e1] at go
    rw [show List.take 1 [aZ (-vl (q.getD i (EK.dflt (EK.sl (EK.int IntKind.i64)))))] = List.take 1 [(ngL q).getD i []] by rw [ziB hlt]; rfl, zc0 (by omega)] at go
    exact go ih
theorem LB_all {q : List (List Int)} (hq : ∀ l ∈ q, pX l) (hl : q.length ≤ 1000) (h0 : 1 ≤ q.length) (x : List Int) (a b c : Int) (l1 l2 : List (List Int)) (l3 : List (List (List Int))) :
    zfe (zff q x a b c l1 l2 l3) (Ex.exit 4, zcB q x a b c l1 l2 l3 q.length q.length (ngL q)) := by
  have k := LB_loop hq hl x a b c l1 l2 l3 (q.length - 1) 1 (by omega) (by omega)
  have hg : q.getD 0 [] = q[0] := by rw [List.getD_eq_getElem?_getD, List.getElem?_eq_getElem (by omega)]; rfl
  have hp : pX (q.getD 0 []) := by rw [hg]; exact hq _ (List.getElem_mem (by omega))
  have e : [aZ (-vl (q.getD 0 []))] = (ngL q).take 1 := by
    have hn := zdg q
    have t0 := zc0 (l := ngL q) (k := 0) (by omega)
    rw [ziB (by omega)] at t0
    rw [← t0]; rfl
  refine zn7 q x a b c l1 l2 l3 (by omega) hp (by simp) (by simp) (by simp) (by simp) ?_
  rw [← e] at k
  exact k
theorem LC_loop {n : Nat} {q : List (List Int)} (hq : ∀ l ∈ q, pX l) (hl : q.length ≤ 1000) (x : List Int) (a b c : Int) (l1 l2 : List (List Int)) (l3 : List (List (List Int))) : ∀ (m i : Nat), i + m = q.length → 1 ≤ i →
    zga (zfh n q x a b c l1 l2 l3 i i ((ngL q).take i)) (Ex.exit 4, zcC n q x a b c l1 l2 l3 q.length q.length (ngL q))
  | 0, i, hi, _ => by
    obtain rfl : i = q.length := by omega
    have := zoc n q x a b c l1 l2 l3 q.length q.length ((ngL q).take q.length) (by omega)
    rw [show (ngL q).take q.length = ngL q by rw [← zdg, List.take_length]] at this ⊢
    exact this
  | m + 1, i, hi, h1 => by
    have hlt : i < q.length := by omega
    have hn := zdg q
    have ih := LC_loop (n := n) hq hl x a b c l1 l2 l3 m (i + 1) (by omega) (by omega)
    have e1 : Int.toNat (i : Int) = i := rfl
    have hg : q.getD i [] = q[i] := by simp [List.getD, hlt]
    have hp : pX (q.getD i []) := by rw [hg]; exact hq _ (List.getElem_mem hlt)
    have go := @zob n q x a b c l1 l2 l3 i i ((ngL q).take i) (by omega) (by omega) hp (by simp) (by simp; omega) (by simp; omega) (by rw [List.length_take]; omega) (by omega) (Ex.exit 4, zcC n q x a b c l1 l2 l3 q.length q.length (ngL q))
    rw [e1] at go
    rw [show List.take 1 [aZ (-vl (q.getD i (EK.dflt (EK.sl (EK.int IntKind.i64)))))] = List.take 1 [(ngL q).getD i []] by rw [ziB hlt]; rfl, zc0 (by omega)] at go
    exact go ih
theorem LC_all {n : Nat} {q : List (List Int)} (hq : ∀ l ∈ q, pX l) (hl : q.length ≤ 1000) (h0 : 1 ≤ q.length) (x : List Int) (a b c : Int) (l1 l2 : List (List Int)) (l3 : List (List (List Int))) :
    zga (zgG n q x a b c l1 l2 l3) (Ex.exit 4, zcC n q x a b c l1 l2 l3 q.length q.length (ngL q)) := by
  have k := LC_loop (n := n) hq hl x a b c l1 l2 l3 (q.length - 1) 1 (by omega) (by omega)
  have hg : q.getD 0 [] = q[0] := by rw [List.getD_eq_getElem?_getD, List.getElem?_eq_getElem (by omega)]; rfl
  have hp : pX (q.getD 0 []) := by rw [hg]; exact hq _ (List.getElem_mem (by omega))
  have e : [aZ (-vl (q.getD 0 []))] = (ngL q).take 1 := by
    have hn := zdg q
    have t0 := zc0 (l := ngL q) (k := 0) (by omega)
    rw [ziB (by omega)] at t0
    rw [← t0]; rfl
  refine zoa n q x a b c l1 l2 l3 (by omega) hp (by simp) (by simp) (by simp) (by simp) ?_
  rw [← e] at k
  exact k
def bd : Nat → Nat
  | 0 => 1
  | 1 => 1
  | 2 => 64
  | 3 => 556
  | _ => 3433
structure RInv (i : Nat) (a b : List (List Int)) : Prop where
  i3 : i ≤ 3
  la : a.length ≤ 5 - i
  lb : b.length ≤ 4 - i
  b1 : 1 ≤ b.length
  sa : ∀ l ∈ a, pQ (bd i) l
  sb : ∀ l ∈ b, pQ (bd (i + 1)) l
theorem RInv.bnd {i : Nat} {a b : List (List Int)} (h : RInv i a b) : bd i + a.length * (2 * bd (i + 1) + 10) ≤ 89000 ∧ bd (i + 1) ≤ 40000 ∧ (i ≤ 2 → bd i + a.length * (2 * bd (i + 1) + 10) + 3 ≤ bd (i + 2)) := by
  obtain ⟨i3, la, lb, b1, sa, sb⟩ := h
  have hm : bd i + a.length * (2 * bd (i + 1) + 10) ≤ bd i + (5 - i) * (2 * bd (i + 1) + 10) := Nat.add_le_add_left (Nat.mul_le_mul_right _ la) _
  have hi : i = 0 ∨ i = 1 ∨ i = 2 ∨ i = 3 := by omega
  refine ⟨Nat.le_trans hm ?_, ?_, fun h2 => Nat.le_trans (Nat.add_le_add_right hm 3) ?_⟩
  · rcases hi with rfl | rfl | rfl | rfl <;> decide
  · rcases hi with rfl | rfl | rfl | rfl <;> decide
  · have hi : i = 0 ∨ i = 1 ∨ i = 2 := by omega
    rcases hi with rfl | rfl | rfl <;> decide
theorem RInv.re {i : Nat} {a b : List (List Int)} (h : RInv i a b) : pRe a b := by
  have hb := h.bnd
  obtain ⟨i3, la, lb, b1, sa, sb⟩ := h
  exact ⟨⟨bd i, bd (i + 1), sa, sb, hb.1, hb.2.1⟩, by omega, b1, by omega⟩
theorem RInv.facts {i : Nat} {a b : List (List Int)} (h : RInv i a b) : (rsT b a.length a).length < b.length ∧ ∀ l ∈ rsT b a.length a, pQ (bd i + a.length * (2 * bd (i + 1) + 10)) l := by
  have hb := h.bnd
  obtain ⟨i3, la, lb, b1, sa, sb⟩ := h
  obtain ⟨_, i2, i3, i4⟩ := rre_l2 (n6 := 0) (lr := []) b1 (by omega) sb a.length a (bd i) (Nat.le_refl _) (by omega) sa hb.1 hb.2.1
  exact ⟨i4, i2⟩
theorem RInv.px {i : Nat} {a b : List (List Int)} (h : RInv i a b) : ∀ l ∈ rsT b a.length a, pX l := fun l hl => by
  have hb := h.bnd
  exact (h.facts.2 l hl).mono (by omega)
theorem RInv.step {i : Nat} {a b : List (List Int)} (h : RInv i a b) (hne : rsT b a.length a ≠ []) : i ≤ 2 ∧ RInv (i + 1) b (nxR a b) := by
  have hb := h.bnd
  obtain ⟨f1, f2⟩ := h.facts
  obtain ⟨i3, la, lb, b1, sa, sb⟩ := h
  have hp : 1 ≤ (rsT b a.length a).length := List.length_pos_iff.2 hne
  have hn : (nxR a b).length = (rsT b a.length a).length := by simp [nxR]
  refine ⟨by omega, ⟨by omega, by omega, by omega, by omega, sb, fun l hl => ?_⟩⟩
  unfold nxR at hl
  obtain ⟨x, hx, rfl⟩ := List.mem_map.1 hl
  exact mZ (za0 (f2 x hx)).neg (hb.2.2 (by omega))
theorem zkS {L : List (List (List Int))} {i : Nat} (h : L.length = i + 2) (x : List (List Int)) : (L ++ [x]).getD (i + 1) [] = L.getD (i + 1) [] ∧ (L ++ [x]).getD (i + 2) [] = x := by
  constructor
  · simp only [List.getD_eq_getElem?_getD]; rw [List.getElem?_append_left (by omega)]
  · simp only [List.getD_eq_getElem?_getD]; rw [List.getElem?_append_right (by omega)]; simp [h]
theorem LA_loop {x : List Int} {u v w : Int} {l1 l2 : List (List Int)} {l3 : List (List (List Int))} : ∀ (k i : Nat) (L : List (List (List Int))) (a b : List (List Int)), i + k = 4 → L.length = i + 2 → L.getD i [] = a → L.getD (i + 1) [] = b → RInv i a b →
    zfi (zfj x u v w l1 l2 l3 L.length L) (Ex.exit 2, zdA x u v w l1 l2 l3 (L ++ chR k a b).length (L ++ chR k a b))
  | 0, i, L, a, b, hk, hL, ha, hb, h => by have := h.i3; omega
  | k + 1, i, L, a, b, hk, hL, ha, hb, h => by
    have e1 : Int.toNat ((L.length : Int) - 2) = i := by omega
    have e2 : Int.toNat ((L.length : Int) - 1) = i + 1 := by omega
    have g1 : L.getD (Int.toNat ((L.length : Int) - 2)) (EK.dflt (EK.sl (EK.sl (EK.int IntKind.i64)))) = a := by rw [e1]; exact ha
    have g2 : L.getD (Int.toNat ((L.length : Int) - 1)) (EK.dflt (EK.sl (EK.sl (EK.int IntKind.i64)))) = b := by rw [e2]; exact hb
    have hre := h.re
    unfold chR
    by_cases hne : rsT b a.length a = []
    · rw [if_pos hne, List.append_nil]
      exact zof x u v w l1 l2 l3 L.length L (by omega) (by omega) (by omega) (by omega) (by omega) (by omega) (by omega) (by omega) (by rw [g1, g2]; exact hre) (by rw [g1, g2, hne]; rfl)
    · rw [if_neg hne]
      obtain ⟨i2, hs⟩ := h.step hne
      have hf := h.facts.1
      have hlb := h.lb
      obtain ⟨m1, m2⟩ := zkS hL (nxR a b)
      have ih := LA_loop (x := x) (u := u) (v := v) (w := w) (l1 := l1) (l2 := l2) (l3 := l3) k (i + 1) (L ++ [nxR a b]) b (nxR a b) (by omega) (by rw [List.length_append]; simp; omega) (by rw [m1]; exact hb) m2 hs
      have K := LC_all (n := L.length) h.px (by omega) (List.length_pos_iff.2 hne) x u v w l1 l2 L
      have hn := zdg (rsT b a.length a)
      have go := @zog x u v w l1 l2 l3 L.length L (rsT b a.length a).length (rsT b a.length a).length (ngL (rsT b a.length a)) (by omega) (by omega) (by omega) (by omega) (by omega) (by omega) (by omega) (by omega) (by rw [g1, g2]; exact hre)
        (by rw [g1, g2]; have := List.length_pos_iff.2 hne; omega) (by rw [g1, g2]; exact K) (by omega) (by simp) (by simp; omega) (by simp; omega) (Nat.le_refl _) (Ex.exit 2, zdA x u v w l1 l2 l3 (L ++ nxR a b :: chR k b (nxR a b)).length (L ++ nxR a b :: chR k b (nxR a b)))
      rw [List.take_length, show List.take (rsT b a.length a).length (ngL (rsT b a.length a)) = nxR a b by rw [← hn, List.take_length]; rfl] at go
      refine go ?_
      have e3 : L.length + (List.take 1 [nxR a b]).length = (L ++ [nxR a b]).length := by rw [List.length_append]; rfl
      have e4 : L ++ nxR a b :: chR k b (nxR a b) = (L ++ [nxR a b]) ++ chR k b (nxR a b) := by rw [List.append_assoc]; rfl
      rw [e3, e4]
      exact ih
theorem chR_ok : ∀ (k i : Nat) (a b : List (List Int)), RInv i a b → (chR k a b).length ≤ k ∧ ∀ q ∈ chR k a b, q.length ≤ 5 ∧ ∀ l ∈ q, pQ 3433 l
  | 0, _, _, _, _ => ⟨Nat.le_refl _, fun _ h => by cases h⟩
  | k + 1, i, a, b, h => by
    unfold chR
    by_cases hne : rsT b a.length a = []
    · rw [if_pos hne]; exact ⟨Nat.zero_le _, fun _ h => by cases h⟩
    · rw [if_neg hne]
      obtain ⟨i2, hs⟩ := h.step hne
      obtain ⟨c1, c2⟩ := chR_ok k (i + 1) b (nxR a b) hs
      refine ⟨by simp only [List.length_cons]; omega, fun q hq => ?_⟩
      rcases List.mem_cons.1 hq with rfl | hq
      · refine ⟨by have := hs.lb; omega, fun l hl => (hs.sb l hl).mono ?_⟩
        have hi : i = 0 ∨ i = 1 ∨ i = 2 := by omega
        rcases hi with rfl | rfl | rfl <;> decide
      · exact c2 q hq
theorem rinv0 {p : List Int} (h : zcO p) : RInv 0 (zaQ p) (zbd p) := by
  obtain ⟨h2, h5, ha⟩ := h
  refine ⟨by omega, by rw [zd3]; omega, by rw [zbX]; omega, by rw [zbX]; omega, fun l hl => ?_, fun l hl => ?_⟩
  · unfold zaQ at hl
    obtain ⟨x, hx, rfl⟩ := List.mem_map.1 hl
    have := ha x hx
    exact ⟨by simp [bd], fun d hd => by simp at hd; subst hd; exact flB this⟩
  · unfold zbd at hl
    obtain ⟨i, hi, rfl⟩ := List.mem_map.1 hl
    have hi := List.mem_range.1 hi
    have g := zeI ha (i + 1)
    have m := zj6 (a := ((i + 1 : Nat) : Int)) (b := p.getD (i + 1) 0) (A := 5) (B := 1000) (by omega) g
    exact ⟨by simp [bd], fun d hd => by
      simp only [List.mem_cons, List.not_mem_nil, or_false] at hd; subst hd; unfold bZ; omega⟩
def zor (p : List Int) : List (List (List Int)) := zaQ p :: zbd p :: chR 4 (zaQ p) (zbd p)
theorem chRR_vls {p : List Int} (h : zcO p) : (zor p).map vls = chZ p := by
  unfold zor chZ
  rw [List.map_cons, List.map_cons, chR_vls 4 _ _ (by rw [zbX]; have := h.1; omega), vls_sing, vls_derR]
theorem zll {p : List Int} (h : zcO p) (a b : Int) : svs (zor p) a b = svZ (chZ p) a b := by
  rw [← chRR_vls h]
  unfold svs svZ
  rw [List.map_map]; rfl
theorem chRR_ok {p : List Int} (h : zcO p) {a d : Int} (ha : a.natAbs ≤ 1000000) (hd : d.natAbs ≤ 1000000) : pCh (zor p) [a] [d] := by
  have hi := rinv0 h
  obtain ⟨c1, c2⟩ := chR_ok 4 0 (zaQ p) (zbd p) hi
  have one : ∀ z : Int, z.natAbs ≤ 1000000 → pQ 1 [z] := fun z hz => ⟨by simp, fun e he => by simp at he; subst he; unfold bZ; omega⟩
  have key : ∀ q : List (List Int), q.length ≤ 5 → (∀ l ∈ q, pQ 3433 l) → pAt q [a] [d] := fun q hq hl => by
    have : q.length * (1 + 13) ≤ 5 * (1 + 13) := Nat.mul_le_mul_right _ hq
    exact ⟨3433, 1, hl, one a ha, one d hd, by omega, by omega⟩
  refine ⟨fun q hq => ?_, by unfold zor; simp only [List.length_cons]; omega⟩
  unfold zor at hq
  rcases List.mem_cons.1 hq with rfl | hq
  · exact key _ hi.la fun l hl => (hi.sa l hl).mono (by decide)
  rcases List.mem_cons.1 hq with rfl | hq
  · exact key _ (by have := hi.lb; omega) fun l hl => (hi.sb l hl).mono (by decide)
  · exact key q (c2 q hq).1 (c2 q hq).2
def zhq (p : List Int) (a b d : Int) : Int := if p.length = 2 then (if a ≤ -(p.getD 0 0) * d ∧ -(p.getD 0 0) * d ≤ b then 1 else 0) else zc5 p a b d
theorem rRoots_fc (p : List Int) (a b d : Int) (h : zf6 p a b d) : FC Tryz.prog 103 [.agg [.sq p, .lit (.int .i64 a), .lit (.int .i64 b), .lit (.int .i64 d)]] (.lit (.int .i64 (zhq p a b d))) := by
  obtain ⟨hp, ha, hb, hd⟩ := h
  have g0 := zeI hp.2.2 0
  have m := zj6 (a := 0 - p.getD 0 0) (b := d) (A := 1000) (B := 1000000) (by omega) hd
  have hl := hp.1
  have hl5 := hp.2.1
  have e0 : 0 - p.getD 0 0 = -(p.getD 0 0) := by omega
  unfold zhq
  by_cases h2 : p.length = 2
  · rw [if_pos h2]
    by_cases h3 : a ≤ -(p.getD 0 0) * d
    · by_cases h4 : -(p.getD 0 0) * d ≤ b
      · rw [if_pos ⟨h3, h4⟩]
        exact rro_0 p a b d (by omega) (by omega) (by omega) (by omega) (by omega) (by rw [e0]; exact h3) (by rw [e0]; exact h4)
      · rw [if_neg (fun k => h4 k.2)]
        exact rro_1 p a b d (by omega) (by omega) (by omega) (by omega) (by omega) (by rw [e0]; exact h3) (by rw [e0]; exact h4)
    · rw [if_neg (fun k => h3 k.1)]
      exact rro_2 p a b d (by omega) (by omega) (by omega) (by omega) (by omega) (by rw [e0]; exact h3)
  · rw [if_neg h2]
    have hi := rinv0 hp
    have hle := zkh hp a b d
    have ra := chRR_ok hp ha hd
    have rb := chRR_ok hp hb hd
    have va := zll hp a d
    have vb := zll hp b d
    have L0 := rro0 hp a b d
    have s1 : List.take p.length (zaQ p) = zaQ p := by rw [← zd3, List.take_length]
    have s2 : List.take (p.length - 1) (zbd p) = zbd p := by rw [← zbX, List.take_length]
    have sl := zd3 p
    have dl := zbX p
    by_cases hne : rsT (zbd p) (zaQ p).length (zaQ p) = []
    · have e : zor p = [zaQ p, zbd p] := by unfold zor chR; rw [if_pos hne]
      unfold zc5 at hle ⊢
      rw [← va, ← vb, e] at hle ⊢
      rw [e] at ra rb
      have go := rro_3 p a b d p.length (p.length - 1) p.length (zaQ p) (zbd p) (by omega) L0 (by omega) (by omega)
        (by rw [s1, s2]; exact zod p a b d (zaQ p) (zbd p) [zaQ p, zbd p] (by simp) (by simp) hi.re (by show ((rsT (zbd p) (zaQ p).length (zaQ p)).length : Int) = 0; rw [hne]; rfl))
        (by simp) (by simp) (by simp) (by rw [s1, s2]; exact ra) (by simp) (by rw [s1, s2]; exact rb) (by rw [s1, s2, show List.take 1 [a] = [a] from rfl, show List.take 1 [b] = [b] from rfl, show List.take 1 [d] = [d] from rfl, zmr, zmr, zmr]; show r64 ((za8 (svs [zaQ p, zbd p] a d) 0 0).1 - (za8 (svs [zaQ p, zbd p] b d) 0 0).1); omega)
      rw [s1, s2, show List.take 1 [a] = [a] from rfl, show List.take 1 [b] = [b] from rfl, show List.take 1 [d] = [d] from rfl, zmr, zmr, zmr] at go
      exact go
    · obtain ⟨i2, hs⟩ := hi.step hne
      have e : zor p = [zaQ p, zbd p, nxR (zaQ p) (zbd p)] ++ chR 3 (zbd p) (nxR (zaQ p) (zbd p)) := by
        unfold zor
        conv => lhs; unfold chR
        rw [if_neg hne]; rfl
      have L := LA_loop (x := p) (u := a) (v := b) (w := d) (l1 := zaQ p) (l2 := zbd p) (l3 := [zaQ p, zbd p]) 3 1 [zaQ p, zbd p, nxR (zaQ p) (zbd p)] (zbd p) (nxR (zaQ p) (zbd p)) rfl rfl rfl rfl hs
      rw [← e] at L
      have hf := hi.facts.1
      have K := LB_all hi.px (by omega) (List.length_pos_iff.2 hne) p a b d (zaQ p) (zbd p) [zaQ p, zbd p]
      have hn := zdg (rsT (zbd p) (zaQ p).length (zaQ p))
      have go1 := @zoe p a b d (zaQ p) (zbd p) [zaQ p, zbd p] (rsT (zbd p) (zaQ p).length (zaQ p)).length (rsT (zbd p) (zaQ p).length (zaQ p)).length (ngL (rsT (zbd p) (zaQ p).length (zaQ p))) (by simp) (by simp) hi.re
        (by have := List.length_pos_iff.2 hne; show ((rsT (zbd p) (zaQ p).length (zaQ p)).length : Int) ≠ 0; omega) K (by omega) (by simp) (by simp) (by simp) (by simp) _
        (by
          rw [show List.take (rsT (zbd p) (zaQ p).length (zaQ p)).length (ngL (rsT (zbd p) (zaQ p).length (zaQ p))) = nxR (zaQ p) (zbd p) by rw [← hn, List.take_length]; rfl]
          exact L)
      have go := rro_4 p a b d p.length (p.length - 1) p.length (zaQ p) (zbd p) (zor p).length (zor p) (by omega) L0 (by omega) (by omega) (by rw [s1, s2]; exact go1) (Nat.le_refl _) (by simp) (by simp) (by rw [List.take_length]; exact ra) (by simp) (by rw [List.take_length]; exact rb)
        (by rw [List.take_length, show List.take 1 [a] = [a] from rfl, show List.take 1 [b] = [b] from rfl, show List.take 1 [d] = [d] from rfl, zmr, zmr, zmr, va, vb]; unfold zc5 at hle; omega)
      rw [List.take_length, show List.take 1 [a] = [a] from rfl, show List.take 1 [b] = [b] from rfl, show List.take 1 [d] = [d] from rfl, zmr, zmr, zmr, va, vb] at go
      exact go
def zi4 (p : List Int) (a b d : Int) : Prop := zf6 p a b d
instance tRootsF {p : List Int} {a b d : Int} : Tst (zi4 p a b d) := ⟨false, fun h => by cases h⟩
noncomputable def ctrP6 : Ctr := (103, cFd zi4 (fun l a b d => .lit (.int .i64 (zhq l a b d)))) :: ctrP5
theorem ctrP6_all : ∀ p ∈ ctrP6, tZ Tryz.prog p.1 p.2 := CAll.cons (zhR fun l a b d h => rRoots_fc l a b d h) zgU
theorem zjp : (dZ Tryz.prog ctrP6 bw).OK := QZ ctrP6_all
noncomputable section
theorem rck_0 (p : List Int) (a b d : Int) (h1 : (p.length : Int) < 2) : FC Tryz.prog 34 [.agg [.sq p, .lit (.int .i64 a), .lit (.int .i64 b), .lit (.int .i64 d)]] (aI 10) := kZ zjp 60 [(0, true)] [] (.cons (dT h1) .nil) (by kernel_rfl)
theorem rck_1 (p : List Int) (a b d : Int) (h1 : ¬ ((p.length : Int) < 2)) (h2 : (p.length : Int) > 5) : FC Tryz.prog 34 [.agg [.sq p, .lit (.int .i64 a), .lit (.int .i64 b), .lit (.int .i64 d)]] (aI 10) := kZ zjp 60 [(0, false), (0, true)] [] (.cons (dF h1) (.cons (dT h2) .nil)) (by kernel_rfl)
abbrev zaJ (s : St) (r : Ex × St) : Prop := Loops 1 Tryz.prog (eZ Tryz.prog 34 0) s r
abbrev vZ (a : Int) (b : List Int) (c d e f : Int) : St := ⟨sp 62 [(1, .ref 0 0), (3, aI a), (4, aI f)], [.flat [.sq b, aI c, aI d, aI e] true], []⟩
abbrev zcx (a : Int) (b : List Int) (c d e : Int) : St := ⟨sp 62 [(2, aI 2)], [.flat [.sq b, aI c, aI d, aI e] true], []⟩
abbrev xZ (a : Int) (b : List Int) (c d e f : Int) : St := ⟨sp 62 [(1, .ref 0 0), (3, aI a), (4, aI f)], [.flat [.sq b, aI c, aI d, aI e] true], []⟩
theorem znj (a : Int) (b : List Int) (c d e f : Int) (h1 : f < a) (h2 : 0 ≤ f) (h3 : f < (b.length : Int)) (h4 : f.toNat < b.length) (h5 : b.getD f.toNat 0 ≥ -1000) (h6 : ¬ (b.getD f.toNat 0 ≤ 1000)) : zaJ (vZ a b c d e f) (Ex.ret, (zcx a b c d e)) := Loops.fin (LS.at zjp 60 [] [2] [] [(0, true), (0, true), (0, true)] [] (.cons (dT h1) (.cons (dT h2) (.cons (dT h3) (.cons (dT h4) (.cons (dT h5) (.cons (congrArg Bool.not (dF h6)) .nil)))))) (by kernel_rfl)) (fun h => nomatch h)
theorem znk (a : Int) (b : List Int) (c d e f : Int) (h1 : f < a) (h2 : 0 ≤ f) (h3 : f < (b.length : Int)) (h4 : f.toNat < b.length) (h5 : b.getD f.toNat 0 ≥ -1000) (h6 : b.getD f.toNat 0 ≤ 1000) (h7 : r64 (f + 1)) {r : Ex × St} (k : zaJ (vZ a b c d e (f + 1)) r) : zaJ (vZ a b c d e f) r := Loops.go (LS.at zjp 60 [] [1, 3, 4] [] [(0, true), (0, true), (0, false)] [] (.cons (dT h1) (.cons (dT h2) (.cons (dT h3) (.cons (dT h4) (.cons (dT h5) (.cons (congrArg Bool.not (dT h6)) (.cons (iR h7) .nil))))))) (by kernel_rfl)) k
theorem znl (a : Int) (b : List Int) (c d e f : Int) (h1 : f < a) (h2 : 0 ≤ f) (h3 : f < (b.length : Int)) (h4 : f.toNat < b.length) (h5 : ¬ (b.getD f.toNat 0 ≥ -1000)) : zaJ (vZ a b c d e f) (Ex.ret, (zcx a b c d e)) := Loops.fin (LS.at zjp 60 [] [2] [] [(0, true), (0, false)] [] (.cons (dT h1) (.cons (dT h2) (.cons (dT h3) (.cons (dT h4) (.cons (dF h5) .nil))))) (by kernel_rfl)) (fun h => nomatch h)
theorem znm (a : Int) (b : List Int) (c d e f : Int) (h1 : ¬ (f < a)) : zaJ (vZ a b c d e f) (Ex.exit 0, (xZ a b c d e f)) := Loops.fin (LS.at zjp 60 [] [1, 3, 4] [] [(0, false)] [] (.cons (dF h1) .nil) (by kernel_rfl)) (fun h => nomatch h)
theorem rck_2 (p : List Int) (a b d : Int) (h1 : ¬ ((p.length : Int) < 2)) (h2 : ¬ ((p.length : Int) > 5)) (hL1 : zaJ (vZ ((p.length : Int)) p a b d (0)) (Ex.ret, (zcx ((p.length : Int)) p a b d))) : FC Tryz.prog 34 [.agg [.sq p, .lit (.int .i64 a), .lit (.int .i64 b), .lit (.int .i64 d)]] (aI 2) := kZ zjp 60 [(0, false), (0, false)] [some (wZ Tryz.prog (eZ Tryz.prog 34 0) [] [1, 3, 4] [] (vZ ((p.length : Int)) p a b d (0)) (Ex.ret, (zcx ((p.length : Int)) p a b d)))] (.cons (dF h1) (.cons (dF h2) (.vi [1, 3, 4] [] hL1 .nil))) (by kernel_rfl)
theorem rck_3 (p : List Int) (a b d c : Int) (h1 : ¬ ((p.length : Int) < 2)) (h2 : ¬ ((p.length : Int) > 5)) (hL1 : zaJ (vZ ((p.length : Int)) p a b d (0)) (Ex.exit 0, (xZ ((p.length : Int)) p a b d c))) (h4 : d ≥ 1) (h5 : ¬ (d ≤ 1000000)) : FC Tryz.prog 34 [.agg [.sq p, .lit (.int .i64 a), .lit (.int .i64 b), .lit (.int .i64 d)]] (aI 2) := kZ zjp 60 [(0, false), (0, false), (0, true), (0, true)] [some (wZ Tryz.prog (eZ Tryz.prog 34 0) [] [1, 3, 4] [] (vZ ((p.length : Int)) p a b d (0)) (Ex.exit 0, (xZ ((p.length : Int)) p a b d c)))] (.cons (dF h1) (.cons (dF h2) (.vi [1, 3, 4] [] hL1 (.cons (dT h4) (.cons (congrArg Bool.not (dF h5)) .nil))))) (by kernel_rfl)
theorem rck_4 (p : List Int) (a b d c : Int) (h1 : ¬ ((p.length : Int) < 2)) (h2 : ¬ ((p.length : Int) > 5)) (hL1 : zaJ (vZ ((p.length : Int)) p a b d (0)) (Ex.exit 0, (xZ ((p.length : Int)) p a b d c))) (h4 : d ≥ 1) (h5 : d ≤ 1000000) (h6 : a ≥ -1000000) (h7 : ¬ (a ≤ 1000000)) : FC Tryz.prog 34 [.agg [.sq p, .lit (.int .i64 a), .lit (.int .i64 b), .lit (.int .i64 d)]] (aI 2) := kZ zjp 60 [(0, false), (0, false), (0, true), (0, false), (0, true), (0, true)] [some (wZ Tryz.prog (eZ Tryz.prog 34 0) [] [1, 3, 4] [] (vZ ((p.length : Int)) p a b d (0)) (Ex.exit 0, (xZ ((p.length : Int)) p a b d c)))] (.cons (dF h1) (.cons (dF h2) (.vi [1, 3, 4] [] hL1 (.cons (dT h4) (.cons (congrArg Bool.not (dT h5)) (.cons (dT h6) (.cons (congrArg Bool.not (dF h7)) .nil))))))) (by kernel_rfl)
theorem rck_5 (p : List Int) (a b d c : Int) (h1 : ¬ ((p.length : Int) < 2)) (h2 : ¬ ((p.length : Int) > 5)) (hL1 : zaJ (vZ ((p.length : Int)) p a b d (0)) (Ex.exit 0, (xZ ((p.length : Int)) p a b d c))) (h4 : d ≥ 1) (h5 : d ≤ 1000000) (h6 : a ≥ -1000000) (h7 : a ≤ 1000000) (h8 : b ≥ -1000000) (h9 : ¬ (b ≤ 1000000)) : FC Tryz.prog 34 [.agg [.sq p, .lit (.int .i64 a), .lit (.int .i64 b), .lit (.int .i64 d)]] (aI 2) := kZ zjp 60 [(0, false), (0, false), (0, true), (0, false), (0, true), (0, false), (0, true), (0, true)] [some (wZ Tryz.prog (eZ Tryz.prog 34 0) [] [1, 3, 4] [] (vZ ((p.length : Int)) p a b d (0)) (Ex.exit 0, (xZ ((p.length : Int)) p a b d c)))] (.cons (dF h1) (.cons (dF h2) (.vi [1, 3, 4] [] hL1 (.cons (dT h4) (.cons (congrArg Bool.not (dT h5)) (.cons (dT h6) (.cons (congrArg Bool.not (dT h7)) (.cons (dT h8) (.cons (congrArg Bool.not (dF h9)) .nil))))))))) (by kernel_rfl)
theorem rck_6 (p : List Int) (a b d c : Int) (h1 : ¬ ((p.length : Int) < 2)) (h2 : ¬ ((p.length : Int) > 5)) (hL1 : zaJ (vZ ((p.length : Int)) p a b d (0)) (Ex.exit 0, (xZ ((p.length : Int)) p a b d c))) (h4 : d ≥ 1) (h5 : d ≤ 1000000) (h6 : a ≥ -1000000) (h7 : a ≤ 1000000) (h8 : b ≥ -1000000) (h9 : b ≤ 1000000) (h10 : r64 ((p.length : Int) - 1)) (h11 : 0 ≤ (p.length : Int) - 1) (h12 : (p.length : Int) - 1 < (p.length : Int)) (h13 : ((p.length : Int) - 1).toNat < p.length) (h14 : p.getD ((p.length : Int) - 1).toNat 0 ≠ 1) : FC Tryz.prog 34 [.agg [.sq p, .lit (.int .i64 a), .lit (.int .i64 b), .lit (.int .i64 d)]] (aI 3) := kZ zjp 60 [(0, false), (0, false), (0, true), (0, false), (0, true), (0, false), (0, true), (0, false), (0, true)] [some (wZ Tryz.prog (eZ Tryz.prog 34 0) [] [1, 3, 4] [] (vZ ((p.length : Int)) p a b d (0)) (Ex.exit 0, (xZ ((p.length : Int)) p a b d c)))] (.cons (dF h1) (.cons (dF h2) (.vi [1, 3, 4] [] hL1 (.cons (dT h4) (.cons (congrArg Bool.not (dT h5)) (.cons (dT h6) (.cons (congrArg Bool.not (dT h7)) (.cons (dT h8) (.cons (congrArg Bool.not (dT h9)) (.cons (iR h10) (.cons (dT h11) (.cons (dT h12) (.cons (dT h13) (.cons (bne_iff_ne.2 h14) .nil)))))))))))))) (by kernel_rfl)
theorem rck_7 (p : List Int) (a b d c : Int) (h1 : ¬ ((p.length : Int) < 2)) (h2 : ¬ ((p.length : Int) > 5)) (hL1 : zaJ (vZ ((p.length : Int)) p a b d (0)) (Ex.exit 0, (xZ ((p.length : Int)) p a b d c))) (h4 : d ≥ 1) (h5 : d ≤ 1000000) (h6 : a ≥ -1000000) (h7 : a ≤ 1000000) (h8 : b ≥ -1000000) (h9 : b ≤ 1000000) (h10 : r64 ((p.length : Int) - 1)) (h11 : 0 ≤ (p.length : Int) - 1) (h12 : (p.length : Int) - 1 < (p.length : Int)) (h13 : ((p.length : Int) - 1).toNat < p.length) (h14 : p.getD ((p.length : Int) - 1).toNat 0 = 1) (h15 : zcO p) (h16 : red p = true) : FC Tryz.prog 34 [.agg [.sq p, .lit (.int .i64 a), .lit (.int .i64 b), .lit (.int .i64 d)]] (aI 3) := kZ zjp 60 [(0, false), (0, false), (0, true), (0, false), (0, true), (0, false), (0, true), (0, false), (0, false), (0, true)] [some (wZ Tryz.prog (eZ Tryz.prog 34 0) [] [1, 3, 4] [] (vZ ((p.length : Int)) p a b d (0)) (Ex.exit 0, (xZ ((p.length : Int)) p a b d c)))] (.cons (dF h1) (.cons (dF h2) (.vi [1, 3, 4] [] hL1 (.cons (dT h4) (.cons (congrArg Bool.not (dT h5)) (.cons (dT h6) (.cons (congrArg Bool.not (dT h7)) (.cons (dT h8) (.cons (congrArg Bool.not (dT h9)) (.cons (iR h10) (.cons (dT h11) (.cons (dT h12) (.cons (dT h13) (.cons (bne_eq_false_iff_eq.2 h14) (.cons h15 (.cons h16 .nil)))))))))))))))) (by kernel_rfl)
theorem rck_8 (p : List Int) (a b d c : Int) (h1 : ¬ ((p.length : Int) < 2)) (h2 : ¬ ((p.length : Int) > 5)) (hL1 : zaJ (vZ ((p.length : Int)) p a b d (0)) (Ex.exit 0, (xZ ((p.length : Int)) p a b d c))) (h4 : d ≥ 1) (h5 : d ≤ 1000000) (h6 : a ≥ -1000000) (h7 : a ≤ 1000000) (h8 : b ≥ -1000000) (h9 : b ≤ 1000000) (h10 : r64 ((p.length : Int) - 1)) (h11 : 0 ≤ (p.length : Int) - 1) (h12 : (p.length : Int) - 1 < (p.length : Int)) (h13 : ((p.length : Int) - 1).toNat < p.length) (h14 : p.getD ((p.length : Int) - 1).toNat 0 = 1) (h15 : zcO p) (h16 : red p = false) (h17 : a > b) : FC Tryz.prog 34 [.agg [.sq p, .lit (.int .i64 a), .lit (.int .i64 b), .lit (.int .i64 d)]] (aI 9) := kZ zjp 60 [(0, false), (0, false), (0, true), (0, false), (0, true), (0, false), (0, true), (0, false), (0, false), (0, false), (0, true)] [some (wZ Tryz.prog (eZ Tryz.prog 34 0) [] [1, 3, 4] [] (vZ ((p.length : Int)) p a b d (0)) (Ex.exit 0, (xZ ((p.length : Int)) p a b d c)))] (.cons (dF h1) (.cons (dF h2) (.vi [1, 3, 4] [] hL1 (.cons (dT h4) (.cons (congrArg Bool.not (dT h5)) (.cons (dT h6) (.cons (congrArg Bool.not (dT h7)) (.cons (dT h8) (.cons (congrArg Bool.not (dT h9)) (.cons (iR h10) (.cons (dT h11) (.cons (dT h12) (.cons (dT h13) (.cons (bne_eq_false_iff_eq.2 h14) (.cons h15 (.cons h16 (.cons (dT h17) .nil))))))))))))))))) (by kernel_rfl)
theorem rck_9 (p : List Int) (a b d c : Int) (h1 : ¬ ((p.length : Int) < 2)) (h2 : ¬ ((p.length : Int) > 5)) (hL1 : zaJ (vZ ((p.length : Int)) p a b d (0)) (Ex.exit 0, (xZ ((p.length : Int)) p a b d c))) (h4 : d ≥ 1) (h5 : d ≤ 1000000) (h6 : a ≥ -1000000) (h7 : a ≤ 1000000) (h8 : b ≥ -1000000) (h9 : b ≤ 1000000) (h10 : r64 ((p.length : Int) - 1)) (h11 : 0 ≤ (p.length : Int) - 1) (h12 : (p.length : Int) - 1 < (p.length : Int)) (h13 : ((p.length : Int) - 1).toNat < p.length) (h14 : p.getD ((p.length : Int) - 1).toNat 0 = 1) (h15 : zcO p) (h16 : red p = false) (h17 : ¬ (a > b)) (h18 : zi4 p a b d) (h19 : zhq p a b d ≠ 1) : FC Tryz.prog 34 [.agg [.sq p, .lit (.int .i64 a), .lit (.int .i64 b), .lit (.int .i64 d)]] (aI 11) := kZ zjp 60 [(0, false), (0, false), (0, true), (0, false), (0, true), (0, false), (0, true), (0, false), (0, false), (0, false), (0, false), (0, true)] [some (wZ Tryz.prog (eZ Tryz.prog 34 0) [] [1, 3, 4] [] (vZ ((p.length : Int)) p a b d (0)) (Ex.exit 0, (xZ ((p.length : Int)) p a b d c)))] (.cons (dF h1) (.cons (dF h2) (.vi [1, 3, 4] [] hL1 (.cons (dT h4) (.cons (congrArg Bool.not (dT h5)) (.cons (dT h6) (.cons (congrArg Bool.not (dT h7)) (.cons (dT h8) (.cons (congrArg Bool.not (dT h9)) (.cons (iR h10) (.cons (dT h11) (.cons (dT h12) (.cons (dT h13) (.cons (bne_eq_false_iff_eq.2 h14) (.cons h15 (.cons h16 (.cons (dF h17) (.cons h18 (.cons (bne_iff_ne.2 h19) .nil))))))))))))))))))) (by kernel_rfl)
theorem rck_10 (p : List Int) (a b d c : Int) (h1 : ¬ ((p.length : Int) < 2)) (h2 : ¬ ((p.length : Int) > 5)) (hL1 : zaJ (vZ ((p.length : Int)) p a b d (0)) (Ex.exit 0, (xZ ((p.length : Int)) p a b d c))) (h4 : d ≥ 1) (h5 : d ≤ 1000000) (h6 : a ≥ -1000000) (h7 : a ≤ 1000000) (h8 : b ≥ -1000000) (h9 : b ≤ 1000000) (h10 : r64 ((p.length : Int) - 1)) (h11 : 0 ≤ (p.length : Int) - 1) (h12 : (p.length : Int) - 1 < (p.length : Int)) (h13 : ((p.length : Int) - 1).toNat < p.length) (h14 : p.getD ((p.length : Int) - 1).toNat 0 = 1) (h15 : zcO p) (h16 : red p = false) (h17 : ¬ (a > b)) (h18 : zi4 p a b d) (h19 : zhq p a b d = 1) : FC Tryz.prog 34 [.agg [.sq p, .lit (.int .i64 a), .lit (.int .i64 b), .lit (.int .i64 d)]] (aI 0) := kZ zjp 60 [(0, false), (0, false), (0, true), (0, false), (0, true), (0, false), (0, true), (0, false), (0, false), (0, false), (0, false), (0, false)] [some (wZ Tryz.prog (eZ Tryz.prog 34 0) [] [1, 3, 4] [] (vZ ((p.length : Int)) p a b d (0)) (Ex.exit 0, (xZ ((p.length : Int)) p a b d c)))] (.cons (dF h1) (.cons (dF h2) (.vi [1, 3, 4] [] hL1 (.cons (dT h4) (.cons (congrArg Bool.not (dT h5)) (.cons (dT h6) (.cons (congrArg Bool.not (dT h7)) (.cons (dT h8) (.cons (congrArg Bool.not (dT h9)) (.cons (iR h10) (.cons (dT h11) (.cons (dT h12) (.cons (dT h13) (.cons (bne_eq_false_iff_eq.2 h14) (.cons h15 (.cons h16 (.cons (dF h17) (.cons h18 (.cons (bne_eq_false_iff_eq.2 h19) .nil))))))))))))))))))) (by kernel_rfl)
theorem rck_11 (p : List Int) (a b d c : Int) (h1 : ¬ ((p.length : Int) < 2)) (h2 : ¬ ((p.length : Int) > 5)) (hL1 : zaJ (vZ ((p.length : Int)) p a b d (0)) (Ex.exit 0, (xZ ((p.length : Int)) p a b d c))) (h4 : d ≥ 1) (h5 : d ≤ 1000000) (h6 : a ≥ -1000000) (h7 : a ≤ 1000000) (h8 : ¬ (b ≥ -1000000)) : FC Tryz.prog 34 [.agg [.sq p, .lit (.int .i64 a), .lit (.int .i64 b), .lit (.int .i64 d)]] (aI 2) := kZ zjp 60 [(0, false), (0, false), (0, true), (0, false), (0, true), (0, false), (0, false)] [some (wZ Tryz.prog (eZ Tryz.prog 34 0) [] [1, 3, 4] [] (vZ ((p.length : Int)) p a b d (0)) (Ex.exit 0, (xZ ((p.length : Int)) p a b d c)))] (.cons (dF h1) (.cons (dF h2) (.vi [1, 3, 4] [] hL1 (.cons (dT h4) (.cons (congrArg Bool.not (dT h5)) (.cons (dT h6) (.cons (congrArg Bool.not (dT h7)) (.cons (dF h8) .nil)))))))) (by kernel_rfl)
theorem rck_12 (p : List Int) (a b d c : Int) (h1 : ¬ ((p.length : Int) < 2)) (h2 : ¬ ((p.length : Int) > 5)) (hL1 : zaJ (vZ ((p.length : Int)) p a b d (0)) (Ex.exit 0, (xZ ((p.length : Int)) p a b d c))) (h4 : d ≥ 1) (h5 : d ≤ 1000000) (h6 : ¬ (a ≥ -1000000)) : FC Tryz.prog 34 [.agg [.sq p, .lit (.int .i64 a), .lit (.int .i64 b), .lit (.int .i64 d)]] (aI 2) := kZ zjp 60 [(0, false), (0, false), (0, true), (0, false), (0, false)] [some (wZ Tryz.prog (eZ Tryz.prog 34 0) [] [1, 3, 4] [] (vZ ((p.length : Int)) p a b d (0)) (Ex.exit 0, (xZ ((p.length : Int)) p a b d c)))] (.cons (dF h1) (.cons (dF h2) (.vi [1, 3, 4] [] hL1 (.cons (dT h4) (.cons (congrArg Bool.not (dT h5)) (.cons (dF h6) .nil)))))) (by kernel_rfl)
theorem rck_13 (p : List Int) (a b d c : Int) (h1 : ¬ ((p.length : Int) < 2)) (h2 : ¬ ((p.length : Int) > 5)) (hL1 : zaJ (vZ ((p.length : Int)) p a b d (0)) (Ex.exit 0, (xZ ((p.length : Int)) p a b d c))) (h4 : ¬ (d ≥ 1)) : FC Tryz.prog 34 [.agg [.sq p, .lit (.int .i64 a), .lit (.int .i64 b), .lit (.int .i64 d)]] (aI 2) := kZ zjp 60 [(0, false), (0, false), (0, false)] [some (wZ Tryz.prog (eZ Tryz.prog 34 0) [] [1, 3, 4] [] (vZ ((p.length : Int)) p a b d (0)) (Ex.exit 0, (xZ ((p.length : Int)) p a b d c)))] (.cons (dF h1) (.cons (dF h2) (.vi [1, 3, 4] [] hL1 (.cons (dF h4) .nil)))) (by kernel_rfl)
end
open Go.Kf
theorem one_roots {p : List Int} {a b d : Int} : zhq p a b d = 1 ↔ zkx p a b d = true := by
  unfold zhq zkx
  by_cases h2 : p.length = 2
  · rw [if_pos h2, if_pos h2, Bool.and_eq_true, decide_eq_true_eq, decide_eq_true_eq]
    by_cases h : a ≤ -(p.getD 0 0) * d ∧ -(p.getD 0 0) * d ≤ b
    · rw [if_pos h]; exact ⟨fun _ => h, fun _ => rfl⟩
    · rw [if_neg h]; exact ⟨fun k => by omega, fun k => absurd k h⟩
  · rw [if_neg h2, if_neg h2, beq_iff_eq]
theorem zl0 {p : List Int} (hl : p.length ≤ 1000) (a b d : Int) : ∀ (m i : Nat), i + m = p.length →
    (zek (p.drop i) = true ∧ zaJ (vZ p.length p a b d i) (Ex.ret, zcx p.length p a b d)) ∨ (zek (p.drop i) = false ∧ ∃ t, zaJ (vZ p.length p a b d i) (Ex.exit 0, xZ p.length p a b d t))
  | 0, i, hi => by
    obtain rfl : i = p.length := by omega
    exact .inr ⟨by rw [List.drop_length]; rfl, p.length, znm p.length p a b d p.length (by omega)⟩
  | m + 1, i, hi => by
    have hlt : i < p.length := by omega
    have e1 : Int.toNat (i : Int) = i := rfl
    rw [zjv hlt]
    by_cases h1 : p.getD i 0 ≥ -1000
    · by_cases h2 : p.getD i 0 ≤ 1000
      · have go := fun r => @znk p.length p a b d i (by omega) (by omega) (by omega) (by omega) h1 h2 (by omega) r
        rw [decide_eq_false (show ¬ p.getD i 0 < -1000 by omega), decide_eq_false (show ¬ 1000 < p.getD i 0 by omega), Bool.false_or, Bool.false_or]
        rcases zl0 hl a b d m (i + 1) (by omega) with ⟨x, k⟩ | ⟨x, t, k⟩
        · exact .inl ⟨x, go _ k⟩
        · exact .inr ⟨x, t, go _ k⟩
      · exact .inl ⟨by rw [decide_eq_true (show 1000 < p.getD i 0 by omega)]; simp, znj p.length p a b d i (by omega) (by omega) (by omega) (by omega) h1 h2⟩
    · exact .inl ⟨by rw [decide_eq_true (show p.getD i 0 < -1000 by omega)]; simp, znl p.length p a b d i (by omega) (by omega) (by omega) (by omega) h1⟩
theorem rcheck_fc (p : List Int) (a b d : Int) : FC Tryz.prog 34 [.agg [.sq p, .lit (.int .i64 a), .lit (.int .i64 b), .lit (.int .i64 d)]] (.lit (.int .i64 (zd6 p a b d))) := by
  have loops : 2 ≤ p.length → p.length ≤ 5 → (zek p = true → zaJ (vZ p.length p a b d 0) (Ex.ret, zcx p.length p a b d)) ∧ (zek p = false → ∃ t, zaJ (vZ p.length p a b d 0) (Ex.exit 0, xZ p.length p a b d t)) := fun l2 l5 => by
    have := zl0 (p := p) (by omega) a b d p.length 0 (by omega)
    rw [List.drop_zero] at this
    rcases this with ⟨x, k⟩ | ⟨x, t, k⟩
    · exact ⟨fun _ => k, fun y => by rw [x] at y; cases y⟩
    · exact ⟨fun y => (by rw [x] at y; cases y), fun _ => ⟨t, k⟩⟩
  rcases zgS p a b d with h | h | ⟨l2, l5, bg⟩ | ⟨l2, l5, bg, h⟩
  · have hrd := h.rd
    have hro := h.ro
    rw [h.eq]
    obtain ⟨l2, l5, bg, d1, d2, a1, a2, b1, b2⟩ := h
    obtain ⟨t, K⟩ := (loops l2 l5).2 bg
    have e1 : Int.toNat ((p.length : Int) - 1) = p.length - 1 := by omega
    by_cases c1 : p.getD (p.length - 1) 0 = 1
    · cases c2 : red p with
      | true =>
        rw [if_pos (.inr rfl)]
        exact rck_7 p a b d t (by omega) (by omega) K (by omega) (by omega) (by omega) (by omega) (by omega) (by omega) (by omega) (by omega) (by omega) (by omega) (by rw [e1]; exact c1) hrd c2
      | false =>
        rw [if_neg (by simp only [c1, ne_eq, not_true_eq_false, false_or, Bool.false_eq_true, not_false_eq_true])]
        by_cases c3 : b < a
        · rw [if_pos c3]
          exact rck_8 p a b d t (by omega) (by omega) K (by omega) (by omega) (by omega) (by omega) (by omega) (by omega) (by omega) (by omega) (by omega) (by omega) (by rw [e1]; exact c1) hrd c2 c3
        · rw [if_neg c3]
          cases c4 : zkx p a b d with
          | false =>
            rw [if_pos rfl]
            exact rck_9 p a b d t (by omega) (by omega) K (by omega) (by omega) (by omega) (by omega) (by omega) (by omega) (by omega) (by omega) (by omega) (by omega) (by rw [e1]; exact c1) hrd c2 c3 hro (fun e => by rw [one_roots.1 e] at c4; cases c4)
          | true =>
            rw [if_neg (by decide)]
            exact rck_10 p a b d t (by omega) (by omega) K (by omega) (by omega) (by omega) (by omega) (by omega) (by omega) (by omega) (by omega) (by omega) (by omega) (by rw [e1]; exact c1) hrd c2 c3 hro (one_roots.2 c4)
    · rw [if_pos (.inl c1)]
      exact rck_6 p a b d t (by omega) (by omega) K (by omega) (by omega) (by omega) (by omega) (by omega) (by omega) (by omega) (by omega) (by omega) (by omega) (by rw [e1]; exact c1)
  · rw [zkG h]
    by_cases l2 : p.length < 2
    · exact rck_0 p a b d (by omega)
    · exact rck_1 p a b d (by omega) (by omega)
  · rw [zkF ⟨l2, l5⟩ bg]
    exact rck_2 p a b d (by omega) (by omega) ((loops l2 l5).1 bg)
  · rw [zkH ⟨l2, l5⟩ h]
    obtain ⟨t, K⟩ := (loops l2 l5).2 bg
    by_cases d1 : 1 ≤ d
    · by_cases d2 : d ≤ 1000000
      · by_cases a1 : -1000000 ≤ a
        · by_cases a2 : a ≤ 1000000
          · by_cases b1 : -1000000 ≤ b
            · exact rck_5 p a b d t (by omega) (by omega) K d1 d2 a1 a2 b1 (by omega)
            · exact rck_11 p a b d t (by omega) (by omega) K d1 d2 a1 a2 b1
          · exact rck_4 p a b d t (by omega) (by omega) K d1 d2 a1 a2
        · exact rck_12 p a b d t (by omega) (by omega) K d1 d2 a1
      · exact rck_3 p a b d t (by omega) (by omega) K d1 d2
    · exact rck_13 p a b d t (by omega) (by omega) K d1
noncomputable section
end
open Go.Kf
theorem LeL.six {a b c d e f e' f' : AV} {l : List AV} (h1 : Le e e') (h2 : Le f f') : LeL (a :: b :: c :: d :: e :: f :: l) (a :: b :: c :: d :: e' :: f' :: l) :=
  .cons (Le.refl _) (.cons (Le.refl _) (.cons (Le.refl _) (.cons (Le.refl _) (.cons h1 (.cons h2 (LeL.refl _))))))
theorem open_err (p : List Int) (a b d : Int) (h1 : zd6 p a b d ≠ 0) : FC Tryz.prog 35 [.agg [.sq p, .lit (.int .i64 a), .lit (.int .i64 b), .lit (.int .i64 d)]] (.tup [.lit (.pointer none), .lit (.int .i64 (zd6 p a b d))]) :=
  kZ okP5 60 [(0, true)] [] (.cons (show True from trivial) (.cons (bne_iff_ne.2 h1) .nil)) (by kernel_rfl)
noncomputable def cOpen (args : List AV) : M AV := match args with
  | [x] => do
    let f ← asK fieldK x
    match f with
    | (l, a, b, d) => do
      let z ← dec (decide (zd6 l a b d = 0))
      match z with
      | true => M.pure (.tup [openA l a b d, .lit (.int .i64 0)])
      | false => M.pure (.tup [.lit (.pointer none), .lit (.int .i64 (zd6 l a b d))])
  | _ => fail 313
theorem cOpen_ok : tZ Tryz.prog 35 cOpen := by
  intro args _
  unfold cOpen
  split
  · refine Spec.bind (asK_spec.mono fun f hf => ?_)
    obtain ⟨l, a, b, d⟩ := f
    refine Spec.bind (Spec.dec ?_)
    by_cases h : zd6 l a b d = 0
    · rw [decide_eq_true h]
      exact Spec.pure' ((open_fc l a b d h).le (.cons hf .nil) (Le.refl _))
    · rw [decide_eq_false h]
      exact Spec.pure' ((open_err l a b d h).le (.cons hf .nil) (Le.refl _))
  · exact Spec.fail
noncomputable section
theorem lw_0 (a b c e d : Int) : zaf (dZ Tryz.prog ctr12 bw) 60 126 [nuA a b c e d] [true, true, true, true, false, true, true, true, true, false] [] = some (.agg [.lit (.bool (decide (a / (↑(Int.gcd (↑(Int.gcd (↑(Int.gcd (↑(Int.gcd d a) : Int) b) : Int) c) : Int) e) : Int) < 0))), .wd (a / (↑(Int.gcd (↑(Int.gcd (↑(Int.gcd (↑(Int.gcd d a) : Int) b) : Int) c) : Int) e) : Int)), .lit (.bool (decide (b / (↑(Int.gcd (↑(Int.gcd (↑(Int.gcd (↑(Int.gcd d a) : Int) b) : Int) c) : Int) e) : Int) < 0))), .wd (b / (↑(Int.gcd (↑(Int.gcd (↑(Int.gcd (↑(Int.gcd d a) : Int) b) : Int) c) : Int) e) : Int)), .lit (.bool (decide (c / (↑(Int.gcd (↑(Int.gcd (↑(Int.gcd (↑(Int.gcd d a) : Int) b) : Int) c) : Int) e) : Int) < 0))), .wd (c / (↑(Int.gcd (↑(Int.gcd (↑(Int.gcd (↑(Int.gcd d a) : Int) b) : Int) c) : Int) e) : Int)), .lit (.bool (decide (e / (↑(Int.gcd (↑(Int.gcd (↑(Int.gcd (↑(Int.gcd d a) : Int) b) : Int) c) : Int) e) : Int) < 0))), .wd (e / (↑(Int.gcd (↑(Int.gcd (↑(Int.gcd (↑(Int.gcd d a) : Int) b) : Int) c) : Int) e) : Int)), .lit (.bool (decide (d / (↑(Int.gcd (↑(Int.gcd (↑(Int.gcd (↑(Int.gcd d a) : Int) b) : Int) c) : Int) e) : Int) < 0))), .wd (d / (↑(Int.gcd (↑(Int.gcd (↑(Int.gcd (↑(Int.gcd d a) : Int) b) : Int) c) : Int) e) : Int))], [true = true, true = true, true = true, decide (d < 0) = decide (d < 0), decide (a < 0) = decide (a < 0), pDD d a, true = true, true = true, true = true, true = true, decide ((↑(Int.gcd d a) : Int) < 0) = decide ((↑(Int.gcd d a) : Int) < 0), decide (b < 0) = decide (b < 0), pDD (↑(Int.gcd d a) : Int) b, true = true, true = true, true = true, true = true, decide ((↑(Int.gcd (↑(Int.gcd d a) : Int) b) : Int) < 0) = decide ((↑(Int.gcd (↑(Int.gcd d a) : Int) b) : Int) < 0), decide (c < 0) = decide (c < 0), pDD (↑(Int.gcd (↑(Int.gcd d a) : Int) b) : Int) c, true = true, true = true, true = true, true = true, decide ((↑(Int.gcd (↑(Int.gcd (↑(Int.gcd d a) : Int) b) : Int) c) : Int) < 0) = decide ((↑(Int.gcd (↑(Int.gcd (↑(Int.gcd d a) : Int) b) : Int) c) : Int) < 0), decide (e < 0) = decide (e < 0), pDD (↑(Int.gcd (↑(Int.gcd (↑(Int.gcd d a) : Int) b) : Int) c) : Int) e, true = true, false = false, true = true, true = true, true = true, decide (a < 0) = decide (a < 0), decide ((↑(Int.gcd (↑(Int.gcd (↑(Int.gcd (↑(Int.gcd d a) : Int) b) : Int) c) : Int) e) : Int) < 0) = decide ((↑(Int.gcd (↑(Int.gcd (↑(Int.gcd (↑(Int.gcd d a) : Int) b) : Int) c) : Int) e) : Int) < 0), zbS a (↑(Int.gcd (↑(Int.gcd (↑(Int.gcd (↑(Int.gcd d a) : Int) b) : Int) c) : Int) e) : Int), true = true, true = true, true = true, true = true, true = true, true = true, decide (b < 0) = decide (b < 0), decide ((↑(Int.gcd (↑(Int.gcd (↑(Int.gcd (↑(Int.gcd d a) : Int) b) : Int) c) : Int) e) : Int) < 0) = decide ((↑(Int.gcd (↑(Int.gcd (↑(Int.gcd (↑(Int.gcd d a) : Int) b) : Int) c) : Int) e) : Int) < 0), zbS b (↑(Int.gcd (↑(Int.gcd (↑(Int.gcd (↑(Int.gcd d a) : Int) b) : Int) c) : Int) e) : Int), true = true, true = true, true = true, true = true, true = true, true = true, decide (c < 0) = decide (c < 0), decide ((↑(Int.gcd (↑(Int.gcd (↑(Int.gcd (↑(Int.gcd d a) : Int) b) : Int) c) : Int) e) : Int) < 0) = decide ((↑(Int.gcd (↑(Int.gcd (↑(Int.gcd (↑(Int.gcd d a) : Int) b) : Int) c) : Int) e) : Int) < 0), zbS c (↑(Int.gcd (↑(Int.gcd (↑(Int.gcd (↑(Int.gcd d a) : Int) b) : Int) c) : Int) e) : Int), true = true, true = true, true = true, true = true, true = true, true = true, decide (e < 0) = decide (e < 0), decide ((↑(Int.gcd (↑(Int.gcd (↑(Int.gcd (↑(Int.gcd d a) : Int) b) : Int) c) : Int) e) : Int) < 0) = decide ((↑(Int.gcd (↑(Int.gcd (↑(Int.gcd (↑(Int.gcd d a) : Int) b) : Int) c) : Int) e) : Int) < 0), zbS e (↑(Int.gcd (↑(Int.gcd (↑(Int.gcd (↑(Int.gcd d a) : Int) b) : Int) c) : Int) e) : Int), true = true, true = true, true = true, false = false, decide (d < 0) = decide (d < 0), decide ((↑(Int.gcd (↑(Int.gcd (↑(Int.gcd (↑(Int.gcd d a) : Int) b) : Int) c) : Int) e) : Int) < 0) = decide ((↑(Int.gcd (↑(Int.gcd (↑(Int.gcd (↑(Int.gcd d a) : Int) b) : Int) c) : Int) e) : Int) < 0), zbS d (↑(Int.gcd (↑(Int.gcd (↑(Int.gcd (↑(Int.gcd d a) : Int) b) : Int) c) : Int) e) : Int)]) := by kernel_rfl
end
def gc5 (a b c e d : Int) : Int := (Int.gcd (Int.gcd (Int.gcd (Int.gcd d a : Int) b : Int) c : Int) e : Int)
theorem szGcd {k : Nat} {x y : Int} (hx : Sz k x) (h0 : x ≠ 0) : Sz k (Int.gcd x y : Int) := by
  refine hx.le ?_
  have h1 : Int.gcd x y ∣ x.natAbs := Int.natAbs_dvd_natAbs.2 (Int.gcd_dvd_left x y)
  exact Nat.le_of_dvd (by omega) h1
theorem zlE {x y : Int} (h0 : x ≠ 0) : (Int.gcd x y : Int) ≠ 0 := by
  intro h
  have h1 := Int.gcd_dvd_left x y
  rw [h] at h1
  exact h0 (Int.zero_dvd.1 h1)
def pNu (a b c e d : Int) : Prop := d ≠ 0 ∧ Sz 50000 a ∧ Sz 50000 b ∧ Sz 50000 c ∧ Sz 50000 e ∧ Sz 50000 d
instance tstNu {a b c e d : Int} : Tst (pNu a b c e d) := inferInstanceAs (Tst (d ≠ 0 ∧ Sz 50000 a ∧ Sz 50000 b ∧ Sz 50000 c ∧ Sz 50000 e ∧ Sz 50000 d))
def loA (a b c e d : Int) : AV := nuA (a / gc5 a b c e d) (b / gc5 a b c e d) (c / gc5 a b c e d) (e / gc5 a b c e d) (d / gc5 a b c e d)
theorem pDD_of {x y : Int} (h : zaE x) (k : zaE y) : pDD x y := ⟨h, k⟩
theorem pOver_of {x y : Int} (h0 : y ≠ 0) (h : zaE x) (k : zaE y) : zbS x y := ⟨h0, h, k⟩
theorem lowest_fc (a b c e d : Int) (h : pNu a b c e d) : FC Tryz.prog 126 [nuA a b c e d] (loA a b c e d) := by
  obtain ⟨h0, ha, hb, hc, he, hd⟩ := h
  have n1 := zlE (y := a) h0
  have n2 := zlE (y := b) n1
  have n3 := zlE (y := c) n2
  have n4 := zlE (y := e) n3
  have s1 := szGcd (y := a) hd h0
  have s2 := szGcd (y := b) s1 n1
  have s3 := szGcd (y := c) s2 n2
  have s4 := szGcd (y := e) s3 n3
  have f : ∀ {z : Int}, Sz 50000 z → zaE z := fun h => CZ h (by decide)
  exact jZ ok12 (lw_0 a b c e d) (by (repeat' (first | exact AllC.nil | refine AllC.cons ?_ ?_)); all_goals (first | (with_reducible rfl) | (with_reducible exact pDD_of (f (by assumption)) (f (by assumption))) | (with_reducible exact pOver_of n4 (f (by assumption)) (f (by assumption))) | rfl | trivial))
def cNu (p : Int → Int → Int → Int → Int → Prop) [∀ a b c e d, Tst (p a b c e d)] (r : Int → Int → Int → Int → Int → AV) (args : List AV) : M AV := match args with
  | [x] => do
    let q ← asNu x
    match q with
    | (a, b, c, e, d) => do
      tellD (p a b c e d) (Tst.b (p a b c e d))
      gives (r a b c e d)
  | _ => fail 260
theorem cNu_ok {P : Program} {f : FuncId} {p : Int → Int → Int → Int → Int → Prop} [∀ a b c e d, Tst (p a b c e d)] {r : Int → Int → Int → Int → Int → AV} (h : ∀ a b c e d, p a b c e d → FC P f [nuA a b c e d] (r a b c e d)) : tZ P f (cNu p r) := by
  intro args _
  unfold cNu
  split
  · exact Spec.bind (asNu_spec.mono fun q hq => Spec.bind (Spec.tellD Tst.ok fun hp => Spec.gives ((h _ _ _ _ _ hp).le (.cons hq .nil) (Le.refl _))))
  · exact Spec.fail
def ctrL : Ctr := (126, cNu pNu loA) :: ctr12
theorem zlx : ∀ p ∈ ctrL, tZ Tryz.prog p.1 p.2 := CAll.cons (cNu_ok lowest_fc) zjA
theorem okL : (dZ Tryz.prog ctrL bw).OK := QZ zlx
noncomputable section
theorem rd1_0 (a b c e d : Int) : zaf (dZ Tryz.prog ctrL bw) 60 134 [reA (.sl (qZ .W [a, b, c]) 3), .sl (qZ .W [e]) 1, W d] [false, true, true, true, true, true, false] [] = some (.agg [.lit (.bool (decide (-e / gc5 (-e) 0 0 0 (-d) < 0))), .wd (-e / gc5 (-e) 0 0 0 (-d)), aF, .wd (0 / gc5 (-e) 0 0 0 (-d)), aF, .wd (0 / gc5 (-e) 0 0 0 (-d)), aF, .wd (0 / gc5 (-e) 0 0 0 (-d)), .lit (.bool (decide (-d / gc5 (-e) 0 0 0 (-d) < 0))), .wd (-d / gc5 (-e) 0 0 0 (-d))], [true = true, true = true, true = true, true = true, true = true, false = false, true = true, true = true, true = true, true = true, true = true, decide (d < 0) = true, decide (d < 0) = decide (d < 0), True, true = true, true = true, true = true, decide (e < 0) = decide (e < 0), True, true = true, true = true, true = true, true = true, true = true, true = true, false = false, True, true = true, true = true, true = true, true = true, true = true, true = true, false = false, True, true = true, true = true, true = true, true = true, true = true, true = true, false = false, True, true = true, true = true, true = true, false = false, decide (-e < 0) = decide (-e < 0), false = false, false = false, false = false, decide (-d < 0) = decide (-d < 0), pNu (-e) 0 0 0 (-d)]) := by kernel_rfl
theorem rd1_1 (a b c e d : Int) : zaf (dZ Tryz.prog ctrL bw) 60 134 [reA (.sl (qZ .W [a, b, c]) 3), .sl (qZ .W [e]) 1, W d] [false, false] [] = some (.agg [.lit (.bool (decide (e / gc5 e 0 0 0 d < 0))), .wd (e / gc5 e 0 0 0 d), aF, .wd (0 / gc5 e 0 0 0 d), aF, .wd (0 / gc5 e 0 0 0 d), aF, .wd (0 / gc5 e 0 0 0 d), .lit (.bool (decide (d / gc5 e 0 0 0 d < 0))), .wd (d / gc5 e 0 0 0 d)], [true = true, true = true, true = true, true = true, true = true, false = false, true = true, true = true, true = true, true = true, true = true, decide (d < 0) = false, decide (e < 0) = decide (e < 0), false = false, false = false, false = false, decide (d < 0) = decide (d < 0), pNu e 0 0 0 d]) := by kernel_rfl
theorem rd2_0 (a b c e f d : Int) : zaf (dZ Tryz.prog ctrL bw) 60 134 [reA (.sl (qZ .W [a, b, c]) 3), .sl (qZ .W [e, f]) 2, W d] [false, true, true, true, true, true, false] [] = some (.agg [.lit (.bool (decide (-e / gc5 (-e) (-f) 0 0 (-d) < 0))), .wd (-e / gc5 (-e) (-f) 0 0 (-d)), .lit (.bool (decide (-f / gc5 (-e) (-f) 0 0 (-d) < 0))), .wd (-f / gc5 (-e) (-f) 0 0 (-d)), aF, .wd (0 / gc5 (-e) (-f) 0 0 (-d)), aF, .wd (0 / gc5 (-e) (-f) 0 0 (-d)), .lit (.bool (decide (-d / gc5 (-e) (-f) 0 0 (-d) < 0))), .wd (-d / gc5 (-e) (-f) 0 0 (-d))], [true = true, true = true, true = true, true = true, true = true, false = false, true = true, true = true, true = true, true = true, true = true, decide (d < 0) = true, decide (d < 0) = decide (d < 0), True, true = true, true = true, true = true, decide (e < 0) = decide (e < 0), True, true = true, true = true, true = true, true = true, true = true, true = true, decide (f < 0) = decide (f < 0), True, true = true, true = true, true = true, true = true, true = true, true = true, false = false, True, true = true, true = true, true = true, true = true, true = true, true = true, false = false, True, true = true, true = true, true = true, false = false, decide (-e < 0) = decide (-e < 0), decide (-f < 0) = decide (-f < 0), false = false, false = false, decide (-d < 0) = decide (-d < 0), pNu (-e) (-f) 0 0 (-d)]) := by kernel_rfl
theorem rd2_1 (a b c e f d : Int) : zaf (dZ Tryz.prog ctrL bw) 60 134 [reA (.sl (qZ .W [a, b, c]) 3), .sl (qZ .W [e, f]) 2, W d] [false, false] [] = some (.agg [.lit (.bool (decide (e / gc5 e f 0 0 d < 0))), .wd (e / gc5 e f 0 0 d), .lit (.bool (decide (f / gc5 e f 0 0 d < 0))), .wd (f / gc5 e f 0 0 d), aF, .wd (0 / gc5 e f 0 0 d), aF, .wd (0 / gc5 e f 0 0 d), .lit (.bool (decide (d / gc5 e f 0 0 d < 0))), .wd (d / gc5 e f 0 0 d)], [true = true, true = true, true = true, true = true, true = true, false = false, true = true, true = true, true = true, true = true, true = true, decide (d < 0) = false, decide (e < 0) = decide (e < 0), decide (f < 0) = decide (f < 0), false = false, false = false, decide (d < 0) = decide (d < 0), pNu e f 0 0 d]) := by kernel_rfl
abbrev zcb (a : Int) (b : Int) (c : Int) : AV := .pd [aJ, aJ, aJ, aJ, .sl [aD a, .wd a, aD b, .wd b, aD c, .wd c] 3, aJ, aJ, aJ, aJ, aJ, aJ, aJ] 0
abbrev zl1 (a : Int) (b : Int) (c : Int) : AV := .pd [aJ, aJ, aJ, aJ, .sl [aD a, .wd a, aD b, .wd b, aD c, .wd c] 3, aJ, aJ, aJ, aJ, aJ, aJ, aJ] 4
abbrev zaL : AV := .own 3 0 3 2
abbrev zl2 : Row := .flat [aF, aN, aF, aN, aF, aN, aF, aN, aF, aN] true
abbrev zdO (a b c e f g d : Int) : St := ⟨sp 89 [(0, (zcb a b c)), (1, zaL), (2, .agg [aD d, .wd d]), (5, .ref 0 0), (6, .ref 1 0), (7, aI 2), (8, aI 2), (9, aI 1), (12, (zcb a b c)), (13, aI 2), (14, .sl [aD e, .wd e, aD f, .wd f, aD g, .wd g] 3), (15, zaL), (16, zaL), (17, aI 3), (18, aI 2), (19, aI 2), (20, aI 2), (21, aT), (24, aI 2), (25, aI 1), (26, aT), (27, aI 1), (28, zaL), (29, aI 2), (30, aI 2), (31, aI 0), (32, aI 1), (33, aI 1), (34, zaL), (35, aI 2), (36, aI 2), (37, aI 0), (38, aI 1), (39, aI 1), (40, .ref 3 2), (41, .agg [aD f, .wd f]), (42, zaL), (43, aI 2), (44, .ref 3 4), (45, .agg [aD g, .wd g]), (46, (zcb a b c)), (47, (zcb a b c)), (48, (zl1 a b c)), (49, .sl [aD a, .wd a, aD b, .wd b, aD c, .wd c] 3), (50, aI 1), (51, .pd [aD a, .wd a, aD b, .wd b, aD c, .wd c] 2), (52, .agg [aD b, .wd b]), (53, .agg [.lit (.bool (decide (g * b < 0))), .wd (g * b)]), (54, .agg [.lit (.bool (decide (-(g * b) < 0))), .wd (-(g * b))]), (55, .agg [.lit (.bool (decide (f + -(g * b) < 0))), .wd (f + -(g * b))]), (56, .ref 3 2), (57, aI 1)], [.flat [aD d, .wd d] true, zl2, .dead, .flat [.lit (.bool (decide (e + -(g * a) < 0))), .wd (e + -(g * a)), .lit (.bool (decide (f + -(g * b) < 0))), .wd (f + -(g * b)), aD g, .wd g] true], [3, 3, 3, 2]⟩
abbrev zdP (a b c e f g d : Int) : St := ⟨sp 89 [(0, (zcb a b c)), (1, zaL), (2, .agg [aD d, .wd d]), (5, .ref 0 0), (6, .ref 1 0), (7, aI 2), (8, aI 2), (9, aI 0), (12, (zcb a b c)), (13, aI 2), (14, .sl [aD e, .wd e, aD f, .wd f, aD g, .wd g] 3), (15, zaL), (16, zaL), (17, aI 3), (18, aI 2), (19, aI 2), (20, aI 2), (21, aT), (24, aI 2), (25, aI 0), (26, aT), (27, aI 0), (28, zaL), (29, aI 2), (30, aI 2), (31, aI 0), (32, aI 0), (33, aI 0), (34, zaL), (35, aI 2), (36, aI 2), (37, aI 0), (38, aI 0), (39, aI 0), (40, .ref 3 0), (41, .agg [aD e, .wd e]), (42, zaL), (43, aI 2), (44, .ref 3 4), (45, .agg [aD g, .wd g]), (46, (zcb a b c)), (47, (zcb a b c)), (48, (zl1 a b c)), (49, .sl [aD a, .wd a, aD b, .wd b, aD c, .wd c] 3), (50, aI 0), (51, .pd [aD a, .wd a, aD b, .wd b, aD c, .wd c] 0), (52, .agg [aD a, .wd a]), (53, .agg [.lit (.bool (decide (g * a < 0))), .wd (g * a)]), (54, .agg [.lit (.bool (decide (-(g * a) < 0))), .wd (-(g * a))]), (55, .agg [.lit (.bool (decide (e + -(g * a) < 0))), .wd (e + -(g * a))]), (56, .ref 3 0)], [.flat [aD d, .wd d] true, zl2, .dead, .flat [.lit (.bool (decide (e + -(g * a) < 0))), .wd (e + -(g * a)), aD f, .wd f, aD g, .wd g] true], [3, 3, 2]⟩
theorem rd3_0 (a b c e f g d : Int) : zaf (dZ Tryz.prog ctrL bw) 60 134 [reA (.sl (qZ .W [a, b, c]) 3), .sl (qZ .W [e, f, g]) 3, W d] [true, true, true, false, false, true, true, true, true, true, false] [] = some (.agg [.lit (.bool (decide (-(e + -(g * a)) / gc5 (-(e + -(g * a))) (-(f + -(g * b))) 0 0 (-d) < 0))), .wd (-(e + -(g * a)) / gc5 (-(e + -(g * a))) (-(f + -(g * b))) 0 0 (-d)), .lit (.bool (decide (-(f + -(g * b)) / gc5 (-(e + -(g * a))) (-(f + -(g * b))) 0 0 (-d) < 0))), .wd (-(f + -(g * b)) / gc5 (-(e + -(g * a))) (-(f + -(g * b))) 0 0 (-d)), aF, .wd (0 / gc5 (-(e + -(g * a))) (-(f + -(g * b))) 0 0 (-d)), aF, .wd (0 / gc5 (-(e + -(g * a))) (-(f + -(g * b))) 0 0 (-d)), .lit (.bool (decide (-d / gc5 (-(e + -(g * a))) (-(f + -(g * b))) 0 0 (-d) < 0))), .wd (-d / gc5 (-(e + -(g * a))) (-(f + -(g * b))) 0 0 (-d))], [true = true, true = true, true = true, true = true, true = true, true = true, true = true, true = true, true = true, true = true, true = true, true = true, true = true, true = true, true = true, true = true, true = true, decide (g < 0) = decide (g < 0), decide (a < 0) = decide (a < 0), pDD g a, decide (g * a < 0) = decide (g * a < 0), True, decide (e < 0) = decide (e < 0), decide (-(g * a) < 0) = decide (-(g * a) < 0), pDD e (-(g * a)), true = true, true = true, decide (g < 0) = decide (g < 0), decide (a < 0) = decide (a < 0), pDD g a, decide (g * a < 0) = decide (g * a < 0), True, decide (e < 0) = decide (e < 0), decide (-(g * a) < 0) = decide (-(g * a) < 0), pDD e (-(g * a)), true = true, true = true, decide (g < 0) = decide (g < 0), decide (a < 0) = decide (a < 0), pDD g a, decide (g * a < 0) = decide (g * a < 0), True, decide (e < 0) = decide (e < 0), decide (-(g * a) < 0) = decide (-(g * a) < 0), pDD e (-(g * a)), true = true, true = true, decide (g * a < 0) = decide (g * a < 0), True, decide (e < 0) = decide (e < 0), decide (-(g * a) < 0) = decide (-(g * a) < 0), pDD e (-(g * a)), true = true, true = true, (zdP a b c e f g d) = (zdP a b c e f g d), (zdP a b c e f g d) = (zdP a b c e f g d), (zdP a b c e f g d) = (zdP a b c e f g d), true = true, true = true, true = true, true = true, true = true, true = true, true = true, true = true, true = true, true = true, true = true, true = true, decide (g < 0) = decide (g < 0), decide (b < 0) = decide (b < 0), pDD g b, decide (g * b < 0) = decide (g * b < 0), True, decide (f < 0) = decide (f < 0), decide (-(g * b) < 0) = decide (-(g * b) < 0), pDD f (-(g * b)), true = true, true = true, decide (g < 0) = decide (g < 0), decide (b < 0) = decide (b < 0), pDD g b, decide (g * b < 0) = decide (g * b < 0), True, decide (f < 0) = decide (f < 0), decide (-(g * b) < 0) = decide (-(g * b) < 0), pDD f (-(g * b)), true = true, true = true, decide (g < 0) = decide (g < 0), decide (b < 0) = decide (b < 0), pDD g b, decide (g * b < 0) = decide (g * b < 0), True, decide (f < 0) = decide (f < 0), decide (-(g * b) < 0) = decide (-(g * b) < 0), pDD f (-(g * b)), true = true, true = true, decide (g * b < 0) = decide (g * b < 0), True, decide (f < 0) = decide (f < 0), decide (-(g * b) < 0) = decide (-(g * b) < 0), pDD f (-(g * b)), true = true, true = true, (zdO a b c e f g d) = (zdO a b c e f g d), (zdO a b c e f g d) = (zdO a b c e f g d), (zdO a b c e f g d) = (zdO a b c e f g d), true = true, false = false, true = true, false = false, true = true, true = true, true = true, true = true, true = true, decide (d < 0) = true, decide (d < 0) = decide (d < 0), True, true = true, true = true, true = true, decide (e + -(g * a) < 0) = decide (e + -(g * a) < 0), True, true = true, true = true, true = true, true = true, true = true, true = true, decide (f + -(g * b) < 0) = decide (f + -(g * b) < 0), True, true = true, true = true, true = true, true = true, true = true, true = true, false = false, True, true = true, true = true, true = true, true = true, true = true, true = true, false = false, True, true = true, true = true, true = true, false = false, decide (-(e + -(g * a)) < 0) = decide (-(e + -(g * a)) < 0), decide (-(f + -(g * b)) < 0) = decide (-(f + -(g * b)) < 0), false = false, false = false, decide (-d < 0) = decide (-d < 0), pNu (-(e + -(g * a))) (-(f + -(g * b))) 0 0 (-d)]) := by kernel_rfl
abbrev zcc (a : Int) (b : Int) (c : Int) : AV := .pd [aJ, aJ, aJ, aJ, .sl [aD a, .wd a, aD b, .wd b, aD c, .wd c] 3, aJ, aJ, aJ, aJ, aJ, aJ, aJ] 0
abbrev zl3 (a : Int) (b : Int) (c : Int) : AV := .pd [aJ, aJ, aJ, aJ, .sl [aD a, .wd a, aD b, .wd b, aD c, .wd c] 3, aJ, aJ, aJ, aJ, aJ, aJ, aJ] 4
abbrev zaM : AV := .own 3 0 3 2
abbrev zl4 : Row := .flat [aF, aN, aF, aN, aF, aN, aF, aN, aF, aN] true
abbrev zdQ (a b c e f g d : Int) : St := ⟨sp 89 [(0, (zcc a b c)), (1, zaM), (2, .agg [aD d, .wd d]), (5, .ref 0 0), (6, .ref 1 0), (7, aI 2), (8, aI 2), (9, aI 1), (12, (zcc a b c)), (13, aI 2), (14, .sl [aD e, .wd e, aD f, .wd f, aD g, .wd g] 3), (15, zaM), (16, zaM), (17, aI 3), (18, aI 2), (19, aI 2), (20, aI 2), (21, aT), (24, aI 2), (25, aI 1), (26, aT), (27, aI 1), (28, zaM), (29, aI 2), (30, aI 2), (31, aI 0), (32, aI 1), (33, aI 1), (34, zaM), (35, aI 2), (36, aI 2), (37, aI 0), (38, aI 1), (39, aI 1), (40, .ref 3 2), (41, .agg [aD f, .wd f]), (42, zaM), (43, aI 2), (44, .ref 3 4), (45, .agg [aD g, .wd g]), (46, (zcc a b c)), (47, (zcc a b c)), (48, (zl3 a b c)), (49, .sl [aD a, .wd a, aD b, .wd b, aD c, .wd c] 3), (50, aI 1), (51, .pd [aD a, .wd a, aD b, .wd b, aD c, .wd c] 2), (52, .agg [aD b, .wd b]), (53, .agg [.lit (.bool (decide (g * b < 0))), .wd (g * b)]), (54, .agg [.lit (.bool (decide (-(g * b) < 0))), .wd (-(g * b))]), (55, .agg [.lit (.bool (decide (f + -(g * b) < 0))), .wd (f + -(g * b))]), (56, .ref 3 2), (57, aI 1)], [.flat [aD d, .wd d] true, zl4, .dead, .flat [.lit (.bool (decide (e + -(g * a) < 0))), .wd (e + -(g * a)), .lit (.bool (decide (f + -(g * b) < 0))), .wd (f + -(g * b)), aD g, .wd g] true], [3, 3, 3, 2]⟩
abbrev zdR (a b c e f g d : Int) : St := ⟨sp 89 [(0, (zcc a b c)), (1, zaM), (2, .agg [aD d, .wd d]), (5, .ref 0 0), (6, .ref 1 0), (7, aI 2), (8, aI 2), (9, aI 0), (12, (zcc a b c)), (13, aI 2), (14, .sl [aD e, .wd e, aD f, .wd f, aD g, .wd g] 3), (15, zaM), (16, zaM), (17, aI 3), (18, aI 2), (19, aI 2), (20, aI 2), (21, aT), (24, aI 2), (25, aI 0), (26, aT), (27, aI 0), (28, zaM), (29, aI 2), (30, aI 2), (31, aI 0), (32, aI 0), (33, aI 0), (34, zaM), (35, aI 2), (36, aI 2), (37, aI 0), (38, aI 0), (39, aI 0), (40, .ref 3 0), (41, .agg [aD e, .wd e]), (42, zaM), (43, aI 2), (44, .ref 3 4), (45, .agg [aD g, .wd g]), (46, (zcc a b c)), (47, (zcc a b c)), (48, (zl3 a b c)), (49, .sl [aD a, .wd a, aD b, .wd b, aD c, .wd c] 3), (50, aI 0), (51, .pd [aD a, .wd a, aD b, .wd b, aD c, .wd c] 0), (52, .agg [aD a, .wd a]), (53, .agg [.lit (.bool (decide (g * a < 0))), .wd (g * a)]), (54, .agg [.lit (.bool (decide (-(g * a) < 0))), .wd (-(g * a))]), (55, .agg [.lit (.bool (decide (e + -(g * a) < 0))), .wd (e + -(g * a))]), (56, .ref 3 0)], [.flat [aD d, .wd d] true, zl4, .dead, .flat [.lit (.bool (decide (e + -(g * a) < 0))), .wd (e + -(g * a)), aD f, .wd f, aD g, .wd g] true], [3, 3, 2]⟩
theorem rd3_1 (a b c e f g d : Int) : zaf (dZ Tryz.prog ctrL bw) 60 134 [reA (.sl (qZ .W [a, b, c]) 3), .sl (qZ .W [e, f, g]) 3, W d] [true, true, true, false, false, false] [] = some (.agg [.lit (.bool (decide ((e + -(g * a)) / gc5 (e + -(g * a)) (f + -(g * b)) 0 0 d < 0))), .wd ((e + -(g * a)) / gc5 (e + -(g * a)) (f + -(g * b)) 0 0 d), .lit (.bool (decide ((f + -(g * b)) / gc5 (e + -(g * a)) (f + -(g * b)) 0 0 d < 0))), .wd ((f + -(g * b)) / gc5 (e + -(g * a)) (f + -(g * b)) 0 0 d), aF, .wd (0 / gc5 (e + -(g * a)) (f + -(g * b)) 0 0 d), aF, .wd (0 / gc5 (e + -(g * a)) (f + -(g * b)) 0 0 d), .lit (.bool (decide (d / gc5 (e + -(g * a)) (f + -(g * b)) 0 0 d < 0))), .wd (d / gc5 (e + -(g * a)) (f + -(g * b)) 0 0 d)], [true = true, true = true, true = true, true = true, true = true, true = true, true = true, true = true, true = true, true = true, true = true, true = true, true = true, true = true, true = true, true = true, true = true, decide (g < 0) = decide (g < 0), decide (a < 0) = decide (a < 0), pDD g a, decide (g * a < 0) = decide (g * a < 0), True, decide (e < 0) = decide (e < 0), decide (-(g * a) < 0) = decide (-(g * a) < 0), pDD e (-(g * a)), true = true, true = true, decide (g < 0) = decide (g < 0), decide (a < 0) = decide (a < 0), pDD g a, decide (g * a < 0) = decide (g * a < 0), True, decide (e < 0) = decide (e < 0), decide (-(g * a) < 0) = decide (-(g * a) < 0), pDD e (-(g * a)), true = true, true = true, decide (g < 0) = decide (g < 0), decide (a < 0) = decide (a < 0), pDD g a, decide (g * a < 0) = decide (g * a < 0), True, decide (e < 0) = decide (e < 0), decide (-(g * a) < 0) = decide (-(g * a) < 0), pDD e (-(g * a)), true = true, true = true, decide (g * a < 0) = decide (g * a < 0), True, decide (e < 0) = decide (e < 0), decide (-(g * a) < 0) = decide (-(g * a) < 0), pDD e (-(g * a)), true = true, true = true, (zdR a b c e f g d) = (zdR a b c e f g d), (zdR a b c e f g d) = (zdR a b c e f g d), (zdR a b c e f g d) = (zdR a b c e f g d), true = true, true = true, true = true, true = true, true = true, true = true, true = true, true = true, true = true, true = true, true = true, true = true, decide (g < 0) = decide (g < 0), decide (b < 0) = decide (b < 0), pDD g b, decide (g * b < 0) = decide (g * b < 0), True, decide (f < 0) = decide (f < 0), decide (-(g * b) < 0) = decide (-(g * b) < 0), pDD f (-(g * b)), true = true, true = true, decide (g < 0) = decide (g < 0), decide (b < 0) = decide (b < 0), pDD g b, decide (g * b < 0) = decide (g * b < 0), True, decide (f < 0) = decide (f < 0), decide (-(g * b) < 0) = decide (-(g * b) < 0), pDD f (-(g * b)), true = true, true = true, decide (g < 0) = decide (g < 0), decide (b < 0) = decide (b < 0), pDD g b, decide (g * b < 0) = decide (g * b < 0), True, decide (f < 0) = decide (f < 0), decide (-(g * b) < 0) = decide (-(g * b) < 0), pDD f (-(g * b)), true = true, true = true, decide (g * b < 0) = decide (g * b < 0), True, decide (f < 0) = decide (f < 0), decide (-(g * b) < 0) = decide (-(g * b) < 0), pDD f (-(g * b)), true = true, true = true, (zdQ a b c e f g d) = (zdQ a b c e f g d), (zdQ a b c e f g d) = (zdQ a b c e f g d), (zdQ a b c e f g d) = (zdQ a b c e f g d), true = true, false = false, true = true, false = false, true = true, true = true, true = true, true = true, true = true, decide (d < 0) = false, decide (e + -(g * a) < 0) = decide (e + -(g * a) < 0), decide (f + -(g * b) < 0) = decide (f + -(g * b) < 0), false = false, false = false, decide (d < 0) = decide (d < 0), pNu (e + -(g * a)) (f + -(g * b)) 0 0 d]) := by kernel_rfl
end
def redL (p c : List Int) : List Int := match p, c with
  | [_, _, _], [c0] => [c0, 0, 0, 0]
  | [_, _, _], [c0, c1] => [c0, c1, 0, 0]
  | [p0, p1, _], [c0, c1, c2] => [c0 + -(c2 * p0), c1 + -(c2 * p1), 0, 0]
  | _, _ => []
def sg (d x : Int) : Int := if decide (d < 0) = true then -x else x
theorem sg_neg {d x : Int} (h : decide (d < 0) = true) : sg d x = -x := if_pos h
theorem sg_pos {d x : Int} (h : ¬ decide (d < 0) = true) : sg d x = x := if_neg h
def zk4 (p c : List Int) (d : Int) : AV := match redL p c with
  | [x, y, z, u] => loA (sg d x) (sg d y) (sg d z) (sg d u) (sg d d)
  | _ => .junk
def redOK (p c : List Int) : Bool := match p, c with
  | [_, _, _], [_] => true
  | [_, _, _], [_, _] => true
  | [_, _, _], [_, _, _] => true
  | _, _ => false
def pRed (p c : List Int) (d : Int) : Prop := redOK p c = true ∧ d ≠ 0 ∧ SzL 10000 p ∧ SzL 10000 c ∧ Sz 10000 d
instance tstRed {p c : List Int} {d : Int} : Tst (pRed p c d) := inferInstanceAs (Tst (redOK p c = true ∧ d ≠ 0 ∧ SzL 10000 p ∧ SzL 10000 c ∧ Sz 10000 d))
theorem zhc {a b c e d : Int} {i j k m n : Nat} [ha : SzC a i] [hb : SzC b j] [hc : SzC c k] [he : SzC e m] [hd : SzC d n] (h0 : d ≠ 0) (hi : i ≤ 50000) (hj : j ≤ 50000) (hk : k ≤ 50000) (hm : m ≤ 50000) (hn : n ≤ 50000) : pNu a b c e d :=
  ⟨h0, ha.ok.mono hi, hb.ok.mono hj, hc.ok.mono hk, he.ok.mono hm, hd.ok.mono hn⟩
theorem znw (p c : List Int) (d : Int) (h : pRed p c d) : FC Tryz.prog 134 [reA (.zl .W p), .zl .W c, W d] (zk4 p c d) := by
  obtain ⟨hl, h0, hp, hc, hd⟩ := h
  have id : SzC d 10000 := ⟨hd⟩
  have h0n : -d ≠ 0 := by omega
  match p, c, hl, hp, hc with
  | [p0, p1, p2], [c0], _, ⟨g0, g1, g2, _⟩, ⟨k0, _⟩ =>
    have ip0 : SzC p0 10000 := ⟨g0⟩
    have ip1 : SzC p1 10000 := ⟨g1⟩
    have ip2 : SzC p2 10000 := ⟨g2⟩
    have ic0 : SzC c0 10000 := ⟨k0⟩
    by_cases hd0 : decide (d < 0) = true
    · have h := (jZ okL (rd1_0 p0 p1 p2 c0 d) (by (repeat' (first | exact AllC.nil | refine AllC.cons ?_ ?_)); all_goals (first | (with_reducible rfl) | assumption | (with_reducible exact zb9 (by decide) (by decide)) | (with_reducible exact zhc (by assumption) (by decide) (by decide) (by decide) (by decide) (by decide)) | rfl | trivial)))
      have e : zk4 [p0, p1, p2] [c0] d = loA (-c0) 0 0 0 (-d) := by simp only [zk4, redL, sg_neg hd0]; rfl
      rw [e]
      exact h.le (.cons (zhj (Le.zl_sl .W [p0, p1, p2])) (.cons (Le.zl_sl .W [c0]) (LeL.refl _))) (Le.refl _)
    · have hd1 : decide (d < 0) = false := by simpa using hd0
      have h := (jZ okL (rd1_1 p0 p1 p2 c0 d) (by (repeat' (first | exact AllC.nil | refine AllC.cons ?_ ?_)); all_goals (first | (with_reducible rfl) | assumption | (with_reducible exact zb9 (by decide) (by decide)) | (with_reducible exact zhc (by assumption) (by decide) (by decide) (by decide) (by decide) (by decide)) | rfl | trivial)))
      have e : zk4 [p0, p1, p2] [c0] d = loA c0 0 0 0 d := by simp only [zk4, redL, sg_pos hd0]
      rw [e]
      exact h.le (.cons (zhj (Le.zl_sl .W [p0, p1, p2])) (.cons (Le.zl_sl .W [c0]) (LeL.refl _))) (Le.refl _)
  | [p0, p1, p2], [c0, c1], _, ⟨g0, g1, g2, _⟩, ⟨k0, k1, _⟩ =>
    have ip0 : SzC p0 10000 := ⟨g0⟩
    have ip1 : SzC p1 10000 := ⟨g1⟩
    have ip2 : SzC p2 10000 := ⟨g2⟩
    have ic0 : SzC c0 10000 := ⟨k0⟩
    have ic1 : SzC c1 10000 := ⟨k1⟩
    by_cases hd0 : decide (d < 0) = true
    · have h := (jZ okL (rd2_0 p0 p1 p2 c0 c1 d) (by (repeat' (first | exact AllC.nil | refine AllC.cons ?_ ?_)); all_goals (first | (with_reducible rfl) | assumption | (with_reducible exact zb9 (by decide) (by decide)) | (with_reducible exact zhc (by assumption) (by decide) (by decide) (by decide) (by decide) (by decide)) | rfl | trivial)))
      have e : zk4 [p0, p1, p2] [c0, c1] d = loA (-c0) (-c1) 0 0 (-d) := by simp only [zk4, redL, sg_neg hd0]; rfl
      rw [e]
      exact h.le (.cons (zhj (Le.zl_sl .W [p0, p1, p2])) (.cons (Le.zl_sl .W [c0, c1]) (LeL.refl _))) (Le.refl _)
    · have hd1 : decide (d < 0) = false := by simpa using hd0
      have h := (jZ okL (rd2_1 p0 p1 p2 c0 c1 d) (by (repeat' (first | exact AllC.nil | refine AllC.cons ?_ ?_)); all_goals (first | (with_reducible rfl) | assumption | (with_reducible exact zb9 (by decide) (by decide)) | (with_reducible exact zhc (by assumption) (by decide) (by decide) (by decide) (by decide) (by decide)) | rfl | trivial)))
      have e : zk4 [p0, p1, p2] [c0, c1] d = loA c0 c1 0 0 d := by simp only [zk4, redL, sg_pos hd0]
      rw [e]
      exact h.le (.cons (zhj (Le.zl_sl .W [p0, p1, p2])) (.cons (Le.zl_sl .W [c0, c1]) (LeL.refl _))) (Le.refl _)
  | [p0, p1, p2], [c0, c1, c2], _, ⟨g0, g1, g2, _⟩, ⟨k0, k1, k2, _⟩ =>
    have ip0 : SzC p0 10000 := ⟨g0⟩
    have ip1 : SzC p1 10000 := ⟨g1⟩
    have ip2 : SzC p2 10000 := ⟨g2⟩
    have ic0 : SzC c0 10000 := ⟨k0⟩
    have ic1 : SzC c1 10000 := ⟨k1⟩
    have ic2 : SzC c2 10000 := ⟨k2⟩
    by_cases hd0 : decide (d < 0) = true
    · have h := (jZ okL (rd3_0 p0 p1 p2 c0 c1 c2 d) (by (repeat' (first | exact AllC.nil | refine AllC.cons ?_ ?_)); all_goals (first | (with_reducible rfl) | assumption | (with_reducible exact zb9 (by decide) (by decide)) | (with_reducible exact zhc (by assumption) (by decide) (by decide) (by decide) (by decide) (by decide)) | rfl | trivial)))
      have e : zk4 [p0, p1, p2] [c0, c1, c2] d = loA (-(c0 + -(c2 * p0))) (-(c1 + -(c2 * p1))) 0 0 (-d) := by simp only [zk4, redL, sg_neg hd0]; rfl
      rw [e]
      exact h.le (.cons (zhj (Le.zl_sl .W [p0, p1, p2])) (.cons (Le.zl_sl .W [c0, c1, c2]) (LeL.refl _))) (Le.refl _)
    · have hd1 : decide (d < 0) = false := by simpa using hd0
      have h := (jZ okL (rd3_1 p0 p1 p2 c0 c1 c2 d) (by (repeat' (first | exact AllC.nil | refine AllC.cons ?_ ?_)); all_goals (first | (with_reducible rfl) | assumption | (with_reducible exact zb9 (by decide) (by decide)) | (with_reducible exact zhc (by assumption) (by decide) (by decide) (by decide) (by decide) (by decide)) | rfl | trivial)))
      have e : zk4 [p0, p1, p2] [c0, c1, c2] d = loA (c0 + -(c2 * p0)) (c1 + -(c2 * p1)) 0 0 d := by simp only [zk4, redL, sg_pos hd0]
      rw [e]
      exact h.le (.cons (zhj (Le.zl_sl .W [p0, p1, p2])) (.cons (Le.zl_sl .W [c0, c1, c2]) (LeL.refl _))) (Le.refl _)
def cRed (args : List AV) : M AV := match args with
  | [r, x, y] => do
    let p ← asRe r
    let c ← asWs x
    let d ← asW y
    tellD (pRed p c d) (Tst.b (pRed p c d))
    gives (zk4 p c d)
  | _ => fail 261
theorem cRed_ok : tZ Tryz.prog 134 cRed := by
  intro args _
  unfold cRed
  split
  · exact Spec.bind (asRe_spec.mono fun p hp => Spec.bind (asWs_spec.mono fun c hc => Spec.bind (asW_spec.mono fun d hd => Spec.bind (Spec.tellD Tst.ok fun h => Spec.gives ((znw p c d h).le (.cons hp (.cons hc (.cons hd .nil))) (Le.refl _))))))
  · exact Spec.fail
def ctrR : Ctr := (134, cRed) :: ctrL
theorem zlA : ∀ p ∈ ctrR, tZ Tryz.prog p.1 p.2 := CAll.cons cRed_ok zlx
theorem okR : (dZ Tryz.prog ctrR bw).OK := QZ zlA
noncomputable section
abbrev zdh (l : Int) (m : Int) (n : Int) : AV := .pd [aJ, aJ, aJ, aJ, .sl [aD l, .wd l, aD m, .wd m, aD n, .wd n] 3, aJ, aJ, aJ, aJ, aJ, aJ, aJ] 0
abbrev ziE (a : Int) (b : Int) (c : Int) (e : Int) (d : Int) : Row := .flat [aD a, .wd a, aD b, .wd b, aD c, .wd c, aD e, .wd e, aD d, .wd d] true
abbrev ziF (f : Int) (g : Int) (h : Int) (i : Int) (j : Int) : Row := .flat [aD f, .wd f, aD g, .wd g, aD h, .wd h, aD i, .wd i, aD j, .wd j] true
abbrev ziG (a : Int) (b : Int) (c : Int) (e : Int) (d : Int) : AV := .agg [aD a, .wd a, aD b, .wd b, aD c, .wd c, aD e, .wd e, aD d, .wd d]
abbrev ziH (f : Int) (g : Int) (h : Int) (i : Int) (j : Int) : AV := .agg [aD f, .wd f, aD g, .wd g, aD h, .wd h, aD i, .wd i, aD j, .wd j]
abbrev ziI : Row := .flat [aF, aN, aF, aN, aF, aN, aF, aN, aF, aN] true
abbrev nt_0_s0 (l m n a b c e d f g : Int) (h i j : Int) : St := ⟨sp 53 [(0, (zdh l m n)), (1, (ziG a b c e d)), (2, (ziH f g h i j)), (4, .ref 0 0), (5, .ref 1 0), (6, .ref 2 0), (7, aI 2), (8, .ref 3 0), (9, aI 1), (10, aI 0), (11, (zdh l m n)), (12, aI 2), (13, aI 2), (14, aI 1), (15, aT), (16, aI 1), (17, aI 2), (18, aI 0), (19, aT), (20, aI 0), (21, aI 1), (22, aI 0), (23, aI 1), (24, aI 1), (25, aI 0), (26, aI 1), (27, .ref 3 2), (28, .agg [.lit (.bool (decide (0 + a * g < 0))), .wd (0 + a * g)]), (29, aI 1), (30, .ref 0 0), (31, .ref 0 2), (32, .agg [aD b, .wd b]), (33, aI 0), (34, .ref 1 0), (35, .ref 1 0), (36, .agg [aD f, .wd f]), (37, .agg [.lit (.bool (decide (b * f < 0))), .wd (b * f)]), (38, .agg [.lit (.bool (decide (0 + a * g + b * f < 0))), .wd (0 + a * g + b * f)]), (39, .ref 3 2), (40, aI 2), (41, aI 1)], [(ziE a b c e d), (ziF f g h i j), ziI, .flat [.lit (.bool (decide (0 + a * f < 0))), .wd (0 + a * f), .lit (.bool (decide (0 + a * g + b * f < 0))), .wd (0 + a * g + b * f), aF, aN, aF, aN, aF, aN, aF, aN, aF, aN] true], [3, 3, 3]⟩
abbrev nt_0_s1 (l m n a b c e d f g : Int) (h i j : Int) : St := ⟨sp 53 [(0, (zdh l m n)), (1, (ziG a b c e d)), (2, (ziH f g h i j)), (4, .ref 0 0), (5, .ref 1 0), (6, .ref 2 0), (7, aI 2), (8, .ref 3 0), (9, aI 1), (10, aI 1), (11, (zdh l m n)), (12, aI 2), (13, aI 2), (14, aI 1), (15, aT), (16, aI 1), (17, aI 2), (18, aI 1), (19, aT), (20, aI 1), (21, aI 1), (22, aI 1), (23, aI 2), (24, aI 1), (25, aI 1), (26, aI 2), (27, .ref 3 4), (28, .agg [aF, aN]), (29, aI 1), (30, .ref 0 0), (31, .ref 0 2), (32, .agg [aD b, .wd b]), (33, aI 1), (34, .ref 1 0), (35, .ref 1 2), (36, .agg [aD g, .wd g]), (37, .agg [.lit (.bool (decide (b * g < 0))), .wd (b * g)]), (38, .agg [.lit (.bool (decide (0 + b * g < 0))), .wd (0 + b * g)]), (39, .ref 3 4), (40, aI 1), (41, aI 1)], [(ziE a b c e d), (ziF f g h i j), ziI, .flat [.lit (.bool (decide (0 + a * f < 0))), .wd (0 + a * f), .lit (.bool (decide (0 + a * g + b * f < 0))), .wd (0 + a * g + b * f), .lit (.bool (decide (0 + b * g < 0))), .wd (0 + b * g), aF, aN, aF, aN, aF, aN, aF, aN] true], [3, 3, 3, 3]⟩
abbrev nt_0_s2 (l m n a b c e d f g : Int) (h i j : Int) : St := ⟨sp 53 [(0, (zdh l m n)), (1, (ziG a b c e d)), (2, (ziH f g h i j)), (4, .ref 0 0), (5, .ref 1 0), (6, .ref 2 0), (7, aI 2), (8, .ref 3 0), (9, aI 0), (10, aI 1), (11, (zdh l m n)), (12, aI 2), (13, aI 2), (14, aI 0), (15, aT), (16, aI 0), (17, aI 2), (18, aI 1), (19, aT), (20, aI 1), (21, aI 0), (22, aI 1), (23, aI 1), (24, aI 0), (25, aI 1), (26, aI 1), (27, .ref 3 2), (28, .agg [aF, aN]), (29, aI 0), (30, .ref 0 0), (31, .ref 0 0), (32, .agg [aD a, .wd a]), (33, aI 1), (34, .ref 1 0), (35, .ref 1 2), (36, .agg [aD g, .wd g]), (37, .agg [.lit (.bool (decide (a * g < 0))), .wd (a * g)]), (38, .agg [.lit (.bool (decide (0 + a * g < 0))), .wd (0 + a * g)]), (39, .ref 3 2), (40, aI 1)], [(ziE a b c e d), (ziF f g h i j), ziI, .flat [.lit (.bool (decide (0 + a * f < 0))), .wd (0 + a * f), .lit (.bool (decide (0 + a * g < 0))), .wd (0 + a * g), aF, aN, aF, aN, aF, aN, aF, aN, aF, aN] true], [3, 3]⟩
abbrev nt_0_s3 (l m n a b c e d f g : Int) (h i j : Int) : St := ⟨sp 53 [(0, (zdh l m n)), (1, (ziG a b c e d)), (2, (ziH f g h i j)), (4, .ref 0 0), (5, .ref 1 0), (6, .ref 2 0), (7, aI 2), (8, .ref 3 0), (9, aI 0), (10, aI 0), (11, (zdh l m n)), (12, aI 2), (13, aI 2), (14, aI 0), (15, aT), (16, aI 0), (17, aI 2), (18, aI 0), (19, aT), (20, aI 0), (21, aI 0), (22, aI 0), (23, aI 0), (24, aI 0), (25, aI 0), (26, aI 0), (27, .ref 3 0), (28, .agg [aF, aN]), (29, aI 0), (30, .ref 0 0), (31, .ref 0 0), (32, .agg [aD a, .wd a]), (33, aI 0), (34, .ref 1 0), (35, .ref 1 0), (36, .agg [aD f, .wd f]), (37, .agg [.lit (.bool (decide (a * f < 0))), .wd (a * f)]), (38, .agg [.lit (.bool (decide (0 + a * f < 0))), .wd (0 + a * f)]), (39, .ref 3 0)], [(ziE a b c e d), (ziF f g h i j), ziI, .flat [.lit (.bool (decide (0 + a * f < 0))), .wd (0 + a * f), aF, aN, aF, aN, aF, aN, aF, aN, aF, aN, aF, aN] true], [3]⟩
theorem nt_0 (l m n a b c e d f g h i j : Int) : zaf (dZ Tryz.prog ctrR bw) 60 84 [reA (.sl (qZ .W [l, m, n]) 3), nuA a b c e d, nuA f g h i j] [true, true, true, false, true, true, true, false, false] [] = some (.agg [.lit (.bool (decide (sg (d * j) (0 + a * f + -((0 + b * g) * l)) / gc5 (sg (d * j) (0 + a * f + -((0 + b * g) * l))) (sg (d * j) (0 + a * g + b * f + -((0 + b * g) * m))) (sg (d * j) 0) (sg (d * j) 0) (sg (d * j) (d * j)) < 0))), .wd (sg (d * j) (0 + a * f + -((0 + b * g) * l)) / gc5 (sg (d * j) (0 + a * f + -((0 + b * g) * l))) (sg (d * j) (0 + a * g + b * f + -((0 + b * g) * m))) (sg (d * j) 0) (sg (d * j) 0) (sg (d * j) (d * j))), .lit (.bool (decide (sg (d * j) (0 + a * g + b * f + -((0 + b * g) * m)) / gc5 (sg (d * j) (0 + a * f + -((0 + b * g) * l))) (sg (d * j) (0 + a * g + b * f + -((0 + b * g) * m))) (sg (d * j) 0) (sg (d * j) 0) (sg (d * j) (d * j)) < 0))), .wd (sg (d * j) (0 + a * g + b * f + -((0 + b * g) * m)) / gc5 (sg (d * j) (0 + a * f + -((0 + b * g) * l))) (sg (d * j) (0 + a * g + b * f + -((0 + b * g) * m))) (sg (d * j) 0) (sg (d * j) 0) (sg (d * j) (d * j))), .lit (.bool (decide (sg (d * j) 0 / gc5 (sg (d * j) (0 + a * f + -((0 + b * g) * l))) (sg (d * j) (0 + a * g + b * f + -((0 + b * g) * m))) (sg (d * j) 0) (sg (d * j) 0) (sg (d * j) (d * j)) < 0))), .wd (sg (d * j) 0 / gc5 (sg (d * j) (0 + a * f + -((0 + b * g) * l))) (sg (d * j) (0 + a * g + b * f + -((0 + b * g) * m))) (sg (d * j) 0) (sg (d * j) 0) (sg (d * j) (d * j))), .lit (.bool (decide (sg (d * j) 0 / gc5 (sg (d * j) (0 + a * f + -((0 + b * g) * l))) (sg (d * j) (0 + a * g + b * f + -((0 + b * g) * m))) (sg (d * j) 0) (sg (d * j) 0) (sg (d * j) (d * j)) < 0))), .wd (sg (d * j) 0 / gc5 (sg (d * j) (0 + a * f + -((0 + b * g) * l))) (sg (d * j) (0 + a * g + b * f + -((0 + b * g) * m))) (sg (d * j) 0) (sg (d * j) 0) (sg (d * j) (d * j))), .lit (.bool (decide (sg (d * j) (d * j) / gc5 (sg (d * j) (0 + a * f + -((0 + b * g) * l))) (sg (d * j) (0 + a * g + b * f + -((0 + b * g) * m))) (sg (d * j) 0) (sg (d * j) 0) (sg (d * j) (d * j)) < 0))), .wd (sg (d * j) (d * j) / gc5 (sg (d * j) (0 + a * f + -((0 + b * g) * l))) (sg (d * j) (0 + a * g + b * f + -((0 + b * g) * m))) (sg (d * j) 0) (sg (d * j) 0) (sg (d * j) (d * j)))], [true = true, true = true, true = true, true = true, true = true, true = true, true = true, true = true, true = true, true = true, true = true, decide (a < 0) = decide (a < 0), decide (f < 0) = decide (f < 0), pDD a f, false = false, decide (a * f < 0) = decide (a * f < 0), pDD 0 (a * f), true = true, true = true, decide (a < 0) = decide (a < 0), decide (f < 0) = decide (f < 0), pDD a f, false = false, decide (a * f < 0) = decide (a * f < 0), pDD 0 (a * f), true = true, true = true, (nt_0_s3 l m n a b c e d f g h i j) = (nt_0_s3 l m n a b c e d f g h i j), true = true, true = true, true = true, true = true, true = true, true = true, true = true, true = true, true = true, true = true, decide (a < 0) = decide (a < 0), decide (g < 0) = decide (g < 0), pDD a g, false = false, decide (a * g < 0) = decide (a * g < 0), pDD 0 (a * g), true = true, true = true, decide (a < 0) = decide (a < 0), decide (g < 0) = decide (g < 0), pDD a g, false = false, decide (a * g < 0) = decide (a * g < 0), pDD 0 (a * g), true = true, true = true, (nt_0_s2 l m n a b c e d f g h i j) = (nt_0_s2 l m n a b c e d f g h i j), true = true, false = false, true = true, true = true, true = true, true = true, true = true, true = true, true = true, true = true, true = true, true = true, true = true, decide (b < 0) = decide (b < 0), decide (f < 0) = decide (f < 0), pDD b f, decide (0 + a * g < 0) = decide (0 + a * g < 0), decide (b * f < 0) = decide (b * f < 0), pDD (0 + a * g) (b * f), true = true, true = true, decide (b < 0) = decide (b < 0), decide (f < 0) = decide (f < 0), pDD b f, decide (0 + a * g < 0) = decide (0 + a * g < 0), decide (b * f < 0) = decide (b * f < 0), pDD (0 + a * g) (b * f), true = true, true = true, (nt_0_s0 l m n a b c e d f g h i j) = (nt_0_s0 l m n a b c e d f g h i j), true = true, true = true, true = true, true = true, true = true, true = true, true = true, true = true, true = true, true = true, decide (b < 0) = decide (b < 0), decide (g < 0) = decide (g < 0), pDD b g, false = false, decide (b * g < 0) = decide (b * g < 0), pDD 0 (b * g), true = true, true = true, decide (b < 0) = decide (b < 0), decide (g < 0) = decide (g < 0), pDD b g, false = false, decide (b * g < 0) = decide (b * g < 0), pDD 0 (b * g), true = true, true = true, (nt_0_s1 l m n a b c e d f g h i j) = (nt_0_s1 l m n a b c e d f g h i j), true = true, false = false, true = true, false = false, true = true, true = true, true = true, true = true, true = true, decide (d < 0) = decide (d < 0), decide (j < 0) = decide (j < 0), pDD d j, decide (l < 0) = decide (l < 0), decide (m < 0) = decide (m < 0), decide (n < 0) = decide (n < 0), decide (0 + a * f < 0) = decide (0 + a * f < 0), decide (0 + a * g + b * f < 0) = decide (0 + a * g + b * f < 0), decide (0 + b * g < 0) = decide (0 + b * g < 0), decide (d * j < 0) = decide (d * j < 0), pRed [l, m, n] [0 + a * f, 0 + a * g + b * f, 0 + b * g] (d * j)]) := by kernel_rfl
theorem np_0 (a b c e d f g h i j : Int) : zaf (dZ Tryz.prog ctrR bw) 60 92 [nuA a b c e d, nuA f g h i j] [true, true, true, true, false] [] = some (.agg [.lit (.bool (decide ((a * j + f * d) / gc5 (a * j + f * d) (b * j + g * d) (c * j + h * d) (e * j + i * d) (d * j) < 0))), .wd ((a * j + f * d) / gc5 (a * j + f * d) (b * j + g * d) (c * j + h * d) (e * j + i * d) (d * j)), .lit (.bool (decide ((b * j + g * d) / gc5 (a * j + f * d) (b * j + g * d) (c * j + h * d) (e * j + i * d) (d * j) < 0))), .wd ((b * j + g * d) / gc5 (a * j + f * d) (b * j + g * d) (c * j + h * d) (e * j + i * d) (d * j)), .lit (.bool (decide ((c * j + h * d) / gc5 (a * j + f * d) (b * j + g * d) (c * j + h * d) (e * j + i * d) (d * j) < 0))), .wd ((c * j + h * d) / gc5 (a * j + f * d) (b * j + g * d) (c * j + h * d) (e * j + i * d) (d * j)), .lit (.bool (decide ((e * j + i * d) / gc5 (a * j + f * d) (b * j + g * d) (c * j + h * d) (e * j + i * d) (d * j) < 0))), .wd ((e * j + i * d) / gc5 (a * j + f * d) (b * j + g * d) (c * j + h * d) (e * j + i * d) (d * j)), .lit (.bool (decide (d * j / gc5 (a * j + f * d) (b * j + g * d) (c * j + h * d) (e * j + i * d) (d * j) < 0))), .wd (d * j / gc5 (a * j + f * d) (b * j + g * d) (c * j + h * d) (e * j + i * d) (d * j))], [decide (d < 0) = decide (d < 0), decide (j < 0) = decide (j < 0), pDD d j, true = true, true = true, true = true, true = true, true = true, decide (a < 0) = decide (a < 0), decide (j < 0) = decide (j < 0), pDD a j, decide (f < 0) = decide (f < 0), decide (d < 0) = decide (d < 0), pDD f d, decide (a * j < 0) = decide (a * j < 0), decide (f * d < 0) = decide (f * d < 0), pDD (a * j) (f * d), true = true, true = true, true = true, true = true, true = true, true = true, true = true, true = true, decide (b < 0) = decide (b < 0), decide (j < 0) = decide (j < 0), pDD b j, decide (g < 0) = decide (g < 0), decide (d < 0) = decide (d < 0), pDD g d, decide (b * j < 0) = decide (b * j < 0), decide (g * d < 0) = decide (g * d < 0), pDD (b * j) (g * d), true = true, true = true, true = true, true = true, true = true, true = true, true = true, true = true, decide (c < 0) = decide (c < 0), decide (j < 0) = decide (j < 0), pDD c j, decide (h < 0) = decide (h < 0), decide (d < 0) = decide (d < 0), pDD h d, decide (c * j < 0) = decide (c * j < 0), decide (h * d < 0) = decide (h * d < 0), pDD (c * j) (h * d), true = true, true = true, true = true, true = true, true = true, true = true, true = true, true = true, decide (e < 0) = decide (e < 0), decide (j < 0) = decide (j < 0), pDD e j, decide (i < 0) = decide (i < 0), decide (d < 0) = decide (d < 0), pDD i d, decide (e * j < 0) = decide (e * j < 0), decide (i * d < 0) = decide (i * d < 0), pDD (e * j) (i * d), true = true, true = true, true = true, false = false, decide (a * j + f * d < 0) = decide (a * j + f * d < 0), decide (b * j + g * d < 0) = decide (b * j + g * d < 0), decide (c * j + h * d < 0) = decide (c * j + h * d < 0), decide (e * j + i * d < 0) = decide (e * j + i * d < 0), decide (d * j < 0) = decide (d * j < 0), pNu (a * j + f * d) (b * j + g * d) (c * j + h * d) (e * j + i * d) (d * j)]) := by kernel_rfl
end
def pNs (a b c e d : Int) : Prop := d ≠ 0 ∧ Sz 2000 a ∧ Sz 2000 b ∧ Sz 2000 c ∧ Sz 2000 e ∧ Sz 2000 d
instance tstNs {a b c e d : Int} : Tst (pNs a b c e d) := inferInstanceAs (Tst (d ≠ 0 ∧ Sz 2000 a ∧ Sz 2000 b ∧ Sz 2000 c ∧ Sz 2000 e ∧ Sz 2000 d))
theorem nplus_fc (a b c e d f g h i j : Int) (hx : pNs a b c e d) (hy : pNs f g h i j) :
    FC Tryz.prog 92 [nuA a b c e d, nuA f g h i j] (loA (a * j + f * d) (b * j + g * d) (c * j + h * d) (e * j + i * d) (d * j)) := by
  obtain ⟨hd, h1, h2, h3, h4, h5⟩ := hx
  obtain ⟨hj, k1, k2, k3, k4, k5⟩ := hy
  have ia : SzC a 2000 := ⟨h1⟩
  have ib : SzC b 2000 := ⟨h2⟩
  have ic : SzC c 2000 := ⟨h3⟩
  have ie : SzC e 2000 := ⟨h4⟩
  have id : SzC d 2000 := ⟨h5⟩
  have if' : SzC f 2000 := ⟨k1⟩
  have ig : SzC g 2000 := ⟨k2⟩
  have ih : SzC h 2000 := ⟨k3⟩
  have ii : SzC i 2000 := ⟨k4⟩
  have ij : SzC j 2000 := ⟨k5⟩
  have hm : d * j ≠ 0 := Int.mul_ne_zero hd hj
  exact jZ okR (np_0 a b c e d f g h i j) (by (repeat' (first | exact AllC.nil | refine AllC.cons ?_ ?_)); all_goals (first | (with_reducible rfl) | (with_reducible exact zb9 (by decide) (by decide)) | (with_reducible exact zhc (by assumption) (by decide) (by decide) (by decide) (by decide) (by decide)) | rfl | trivial))
def ntL (p : List Int) (a b d f g j : Int) : AV := zk4 p [0 + a * f, 0 + a * g + b * f, 0 + b * g] (d * j)
def pNt (p : List Int) : Prop := Nat.beq p.length 3 = true ∧ SzL 2000 p
instance tstNt {p : List Int} : Tst (pNt p) := inferInstanceAs (Tst (_ ∧ SzL 2000 p))
theorem ntimes_fc (p : List Int) (a b c e d f g h i j : Int) (hp : pNt p) (hx : pNs a b c e d) (hy : pNs f g h i j) :
    FC Tryz.prog 84 [reA (.zl .W p), nuA a b c e d, nuA f g h i j] (ntL p a b d f g j) := by
  obtain ⟨hd, h1, h2, h3, h4, h5⟩ := hx
  obtain ⟨hj, k1, k2, k3, k4, k5⟩ := hy
  obtain ⟨hl, hz⟩ := hp
  match p, hl, hz with
  | [p0, p1, p2], _, ⟨q0, q1, q2, _⟩ =>
    have ia : SzC a 2000 := ⟨h1⟩
    have ib : SzC b 2000 := ⟨h2⟩
    have id : SzC d 2000 := ⟨h5⟩
    have if' : SzC f 2000 := ⟨k1⟩
    have ig : SzC g 2000 := ⟨k2⟩
    have ij : SzC j 2000 := ⟨k5⟩
    have hm : d * j ≠ 0 := Int.mul_ne_zero hd hj
    have s1 : SzC (0 + a * f) 4001 := inferInstance
    have s2 : SzC (0 + a * g + b * f) 4002 := inferInstance
    have s3 : SzC (0 + b * g) 4001 := inferInstance
    have s4 : SzC (d * j) 4000 := inferInstance
    have hr : pRed [p0, p1, p2] [0 + a * f, 0 + a * g + b * f, 0 + b * g] (d * j) :=
      ⟨rfl, hm, ⟨q0.mono (by decide), q1.mono (by decide), q2.mono (by decide), trivial⟩, ⟨s1.ok.mono (by decide), s2.ok.mono (by decide), s3.ok.mono (by decide), trivial⟩, s4.ok.mono (by decide)⟩
    exact (jZ okR (nt_0 p0 p1 p2 a b c e d f g h i j) (by (repeat' (first | exact AllC.nil | refine AllC.cons ?_ ?_)); all_goals (first | (with_reducible rfl) | assumption | (with_reducible exact zb9 (by decide) (by decide)) | rfl | trivial))).le
      (.cons (zhj (Le.zl_sl .W [p0, p1, p2])) (LeL.refl _)) (Le.refl _)
def cNp (args : List AV) : M AV := match args with
  | [x, y] => do
    let q ← asNu x
    let q2 ← asNu y
    match q, q2 with
    | (a, b, c, e, d), (f, g, h, i, j) => do
      tellD (pNs a b c e d ∧ pNs f g h i j) (Tst.b (pNs a b c e d ∧ pNs f g h i j))
      gives (loA (a * j + f * d) (b * j + g * d) (c * j + h * d) (e * j + i * d) (d * j))
  | _ => fail 262
theorem cNp_ok : tZ Tryz.prog 92 cNp := by
  intro args _
  unfold cNp
  split
  · exact Spec.bind (asNu_spec.mono fun q hq => Spec.bind (asNu_spec.mono fun q2 hq2 => Spec.bind (Spec.tellD Tst.ok fun h => Spec.gives ((nplus_fc _ _ _ _ _ _ _ _ _ _ h.1 h.2).le (.cons hq (.cons hq2 .nil)) (Le.refl _)))))
  · exact Spec.fail
def cNt (args : List AV) : M AV := match args with
  | [r, x, y] => do
    let p ← asRe r
    let q ← asNu x
    let q2 ← asNu y
    match q, q2 with
    | (a, b, c, e, d), (f, g, h, i, j) => do
      tellD (pNt p ∧ pNs a b c e d ∧ pNs f g h i j) (Tst.b (pNt p ∧ pNs a b c e d ∧ pNs f g h i j))
      gives (ntL p a b d f g j)
  | _ => fail 263
theorem cNt_ok : tZ Tryz.prog 84 cNt := by
  intro args _
  unfold cNt
  split
  · exact Spec.bind (asRe_spec.mono fun p hp => Spec.bind (asNu_spec.mono fun q hq => Spec.bind (asNu_spec.mono fun q2 hq2 => Spec.bind (Spec.tellD Tst.ok fun h => Spec.gives ((ntimes_fc p _ _ _ _ _ _ _ _ _ _ h.1 h.2.1 h.2.2).le (.cons hp (.cons hq (.cons hq2 .nil))) (Le.refl _))))))
  · exact Spec.fail
def zly : Ctr := (84, cNt) :: (92, cNp) :: ctrR
theorem zlz : ∀ p ∈ zly, tZ Tryz.prog p.1 p.2 := CAll.cons cNt_ok <| CAll.cons cNp_ok zlA
theorem okN : (dZ Tryz.prog zly bw).OK := QZ zlz
end Go.Proofs.YtloaeinogiplbaaGreatDoor
end
section
namespace Go.Proofs
open Go.Shelf
def Tryz.lays169_ren : Go.Shelf.Ren := ⟨fun | 169 => 174 | n => n, fun | 70 => 189 | 9 => 9 | 0 => 0 | 72 => 192 | 37 => 190 | 127 => 226 | 3 => 3 | 5 => 5 | n => n, fun | n => n⟩
theorem Tryz.lays169 : Go.Proofs.Lays.n169 Tryz.prog Tryz.lays169_ren := {
  mixed := by kernel_rfl
  f169 := Tryz.func174.trans (congrArg some (by kernel_rfl))
  t0 := Tryz.underlying0
  a0 := Tryz.isAgg0
  z0 := Tryz.sizeOf0
  v0 := Tryz.zeroValue0
  t3 := Tryz.underlying3
  a3 := Tryz.isAgg3
  z3 := Tryz.sizeOf3
  v3 := Tryz.zeroValue3
  t9 := Tryz.underlying9
  a9 := Tryz.isAgg9
  z9 := Tryz.sizeOf9
  v9 := Tryz.zeroValue9
  t37 := Tryz.underlying190
  a37 := Tryz.isAgg190
  z37 := Tryz.sizeOf190
  v37 := Tryz.zeroValue190
  t70 := Tryz.underlying189
  a70 := Tryz.isAgg189
  z70 := Tryz.sizeOf189
  v70 := Tryz.zeroValue189
  t72 := Tryz.underlying192
  a72 := Tryz.isAgg192
  z72 := Tryz.sizeOf192
  v72 := Tryz.zeroValue192
  t127 := Tryz.underlying226
  a127 := Tryz.isAgg226
  z127 := Tryz.sizeOf226
  v127 := Tryz.zeroValue226 }
theorem Tryz.Builder_Extra_169 : Builder.Extra Tryz.prog Tryz.lays169_ren := {
  sizeBuilder := by kernel_rfl
  liesBuilder := by kernel_rfl
  t5 := Tryz.underlying5
  a5 := Tryz.isAgg5
  z5 := Tryz.sizeOf5
  v5 := Tryz.zeroValue5
  infoByte := by kernel_rfl
  cellsByte := by kernel_rfl
  sizeByte := by kernel_rfl
  neB5 := by decide }
def Tryz.lays156_ren : Go.Shelf.Ren := ⟨fun | 156 => 131 | 165 => 172 | 166 => 173 | 169 => 174 | 240 => 211 | 241 => 212 | 276 => 240 | 277 => 241 | n => n, fun | 31 => 150 | 9 => 9 | 3 => 3 | 4 => 4 | 0 => 0 | 20 => 20 | 72 => 192 | 76 => 185 | 70 => 189 | 37 => 190 | 75 => 184 | 127 => 226 | 164 => 245 | 5 => 5 | 80 => 187 | n => n, fun | n => n⟩
theorem Tryz.lays156 : Go.Proofs.Lays.n156 Tryz.prog Tryz.lays156_ren := {
  mixed := by kernel_rfl
  f156 := Tryz.func131.trans (congrArg some (by kernel_rfl))
  f165 := Tryz.func172.trans (congrArg some (by kernel_rfl))
  f166 := Tryz.func173.trans (congrArg some (by kernel_rfl))
  f169 := Tryz.func174.trans (congrArg some (by kernel_rfl))
  f240 := Tryz.func211.trans (congrArg some (by kernel_rfl))
  f241 := Tryz.func212.trans (congrArg some (by kernel_rfl))
  f276 := Tryz.func240.trans (congrArg some (by kernel_rfl))
  f277 := Tryz.func241.trans (congrArg some (by kernel_rfl))
  t0 := Tryz.underlying0
  a0 := Tryz.isAgg0
  z0 := Tryz.sizeOf0
  v0 := Tryz.zeroValue0
  t3 := Tryz.underlying3
  a3 := Tryz.isAgg3
  z3 := Tryz.sizeOf3
  v3 := Tryz.zeroValue3
  t4 := Tryz.underlying4
  a4 := Tryz.isAgg4
  z4 := Tryz.sizeOf4
  v4 := Tryz.zeroValue4
  t9 := Tryz.underlying9
  a9 := Tryz.isAgg9
  z9 := Tryz.sizeOf9
  v9 := Tryz.zeroValue9
  t20 := Tryz.underlying20
  a20 := Tryz.isAgg20
  z20 := Tryz.sizeOf20
  v20 := Tryz.zeroValue20
  t31 := Tryz.underlying150
  a31 := Tryz.isAgg150
  z31 := Tryz.sizeOf150
  v31 := Tryz.zeroValue150
  t37 := Tryz.underlying190
  a37 := Tryz.isAgg190
  z37 := Tryz.sizeOf190
  v37 := Tryz.zeroValue190
  t70 := Tryz.underlying189
  a70 := Tryz.isAgg189
  z70 := Tryz.sizeOf189
  v70 := Tryz.zeroValue189
  t72 := Tryz.underlying192
  a72 := Tryz.isAgg192
  z72 := Tryz.sizeOf192
  v72 := Tryz.zeroValue192
  t75 := Tryz.underlying184
  a75 := Tryz.isAgg184
  z75 := Tryz.sizeOf184
  v75 := Tryz.zeroValue184
  t76 := Tryz.underlying185
  a76 := Tryz.isAgg185
  z76 := Tryz.sizeOf185
  v76 := Tryz.zeroValue185
  t127 := Tryz.underlying226
  a127 := Tryz.isAgg226
  z127 := Tryz.sizeOf226
  v127 := Tryz.zeroValue226
  t164 := Tryz.underlying245
  a164 := Tryz.isAgg245
  z164 := Tryz.sizeOf245
  v164 := Tryz.zeroValue245 }
theorem Tryz.Builder_Extra_156 : Builder.Extra Tryz.prog Tryz.lays156_ren := {
  sizeBuilder := by kernel_rfl
  liesBuilder := by kernel_rfl
  t5 := Tryz.underlying5
  a5 := Tryz.isAgg5
  z5 := Tryz.sizeOf5
  v5 := Tryz.zeroValue5
  infoByte := by kernel_rfl
  cellsByte := by kernel_rfl
  sizeByte := by kernel_rfl
  neB5 := by decide }
open Go.RowKit in
theorem Tryz.strings_Join (bk o c : Nat) (xs : List ByteArray) (sep : ByteArray) (w : World) (hcells : ∀ (j : Nat) x, xs[j]? = some x → w.cell? ⟨bk, o + j, none⟩ = some (.string x)) (hbk : bk < w.heap.size) (hN : xs.length ≤ 140737488355328) (hcap : xs.length ≤ c) (hlen : (Lib.join (xs.map (·.data.toList)) sep.data.toList).length ≤ 140737488355328) :
    Calls Tryz.prog 131 #[.slice (some ⟨bk, o, none⟩) xs.length c, .string sep] w fun e w' => e = .returned (.string ⟨(Lib.join (xs.map (·.data.toList)) sep.data.toList).toArray⟩) ∧ Below w.heap.size w w' := Any.strings_Join Tryz.lays156 Tryz.Builder_Extra_156 bk o c xs sep w hcells hbk hN hcap hlen
open Go.RowKit in
theorem Tryz.Builder_String_any_k (B b : Nat) (l : List UInt8) (w : World) (h : Lib.IsBuilderF 192 5 B b (Lib.byteCells l) w) (hBw : B ≤ w.heap.size) :
    Calls Tryz.prog 174 #[.pointer (some ⟨b, 0, none⟩)] w fun e w' => e = .returned (.string ⟨l.toArray⟩) ∧ (Lib.IsBuilderF 192 5 B b (Lib.byteCells l) w' ∧ Below B w w' ∧ Lib.OthersKept 5 (some b) w w') := Any.Builder_String_any_k Tryz.lays169 Tryz.Builder_Extra_169 B b l w h hBw
def Tryz.lays171_ren : Go.Shelf.Ren := ⟨fun | 171 => 206 | 243 => 234 | 246 => 250 | 283 => 257 | 284 => 258 | 285 => 259 | 286 => 260 | 129 => 262 | 317 => 261 | 318 => 263 | 319 => 264 | 320 => 265 | 337 => 266 | 338 => 267 | n => n, fun | 3 => 3 | 9 => 9 | 2 => 2 | 4 => 4 | 171 => 273 | 0 => 0 | 53 => 252 | 37 => 190 | 5 => 5 | 173 => 276 | 212 => 279 | 51 => 248 | 20 => 20 | 213 => 280 | 46 => 230 | 232 => 283 | 233 => 284 | n => n, fun | 17 => 5 | 18 => 6 | 19 => 7 | n => n⟩
theorem Tryz.lays171 : Go.Proofs.Lays.n171 Tryz.prog Tryz.lays171_ren := {
  mixed := by kernel_rfl
  f129 := Tryz.func262.trans (congrArg some (by kernel_rfl))
  f171 := Tryz.func206.trans (congrArg some (by kernel_rfl))
  f243 := Tryz.func234.trans (congrArg some (by kernel_rfl))
  f246 := Tryz.func250.trans (congrArg some (by kernel_rfl))
  f283 := Tryz.func257.trans (congrArg some (by kernel_rfl))
  f284 := Tryz.func258.trans (congrArg some (by kernel_rfl))
  f285 := Tryz.func259.trans (congrArg some (by kernel_rfl))
  f286 := Tryz.func260.trans (congrArg some (by kernel_rfl))
  f317 := Tryz.func261.trans (congrArg some (by kernel_rfl))
  f318 := Tryz.func263.trans (congrArg some (by kernel_rfl))
  f319 := Tryz.func264.trans (congrArg some (by kernel_rfl))
  f320 := Tryz.func265.trans (congrArg some (by kernel_rfl))
  f337 := Tryz.func266.trans (congrArg some (by kernel_rfl))
  f338 := Tryz.func267.trans (congrArg some (by kernel_rfl))
  t0 := Tryz.underlying0
  a0 := Tryz.isAgg0
  z0 := Tryz.sizeOf0
  v0 := Tryz.zeroValue0
  t2 := Tryz.underlying2
  a2 := Tryz.isAgg2
  z2 := Tryz.sizeOf2
  v2 := Tryz.zeroValue2
  t3 := Tryz.underlying3
  a3 := Tryz.isAgg3
  z3 := Tryz.sizeOf3
  v3 := Tryz.zeroValue3
  t4 := Tryz.underlying4
  a4 := Tryz.isAgg4
  z4 := Tryz.sizeOf4
  v4 := Tryz.zeroValue4
  t5 := Tryz.underlying5
  a5 := Tryz.isAgg5
  z5 := Tryz.sizeOf5
  v5 := Tryz.zeroValue5
  t9 := Tryz.underlying9
  a9 := Tryz.isAgg9
  z9 := Tryz.sizeOf9
  v9 := Tryz.zeroValue9
  t20 := Tryz.underlying20
  a20 := Tryz.isAgg20
  z20 := Tryz.sizeOf20
  v20 := Tryz.zeroValue20
  t37 := Tryz.underlying190
  a37 := Tryz.isAgg190
  z37 := Tryz.sizeOf190
  v37 := Tryz.zeroValue190
  t46 := Tryz.underlying230
  a46 := Tryz.isAgg230
  z46 := Tryz.sizeOf230
  v46 := Tryz.zeroValue230
  t51 := Tryz.underlying248
  a51 := Tryz.isAgg248
  z51 := Tryz.sizeOf248
  v51 := Tryz.zeroValue248
  t53 := Tryz.underlying252
  a53 := Tryz.isAgg252
  z53 := Tryz.sizeOf252
  v53 := Tryz.zeroValue252
  t171 := Tryz.underlying273
  a171 := Tryz.isAgg273
  z171 := Tryz.sizeOf273
  v171 := Tryz.zeroValue273
  t173 := Tryz.underlying276
  a173 := Tryz.isAgg276
  z173 := Tryz.sizeOf276
  v173 := Tryz.zeroValue276
  t212 := Tryz.underlying279
  a212 := Tryz.isAgg279
  z212 := Tryz.sizeOf279
  v212 := Tryz.zeroValue279
  t213 := Tryz.underlying280
  a213 := Tryz.isAgg280
  z213 := Tryz.sizeOf280
  t232 := Tryz.underlying283
  a232 := Tryz.isAgg283
  z232 := Tryz.sizeOf283
  v232 := Tryz.zeroValue283
  t233 := Tryz.underlying284
  a233 := Tryz.isAgg284
  z233 := Tryz.sizeOf284
  v233 := Tryz.zeroValue284
  g17 := by kernel_rfl
  g18 := by kernel_rfl
  g19 := by kernel_rfl }
open Go.RowKit Go.Sort Go.Lib in
theorem Tryz.strconv_Itoa_small (i : Nat) (hi : i < 100) (w : World) :
    Calls Tryz.prog 206 #[.int .i64 i] w fun e w' => e = .returned (.string ⟨(Lib.decDigits i).toArray⟩) ∧ w' = w := Any.strconv_Itoa_small Tryz.lays171 i hi w
end Go.Proofs
end
section
open Go Go.RowKit
namespace Go.Proofs
set_option maxRecDepth 100000
set_option maxHeartbeats 4000000
set_option linter.unusedVariables false
set_option linter.unusedSimpArgs false
theorem Tryz.write_k (B b : Nat) (bs : List Value) (s : ByteArray) (w : World) (h : Lib.IsBuilderF 192 5 B b bs w) (hlen : bs.length + s.size ≤ 140737488355328) (hBw : B ≤ w.heap.size) :
    Calls Tryz.prog 173 #[.pointer (some ⟨b, 0, none⟩), .string s] w fun e w' => e = .returned (.tuple #[.int .i64 s.size, .nilIface]) ∧ (Lib.BuilderAtF 192 5 B b (.pointer (some ⟨b, 0, none⟩)) (bs ++ Lib.strCells s) w' ∧ Below B w w' ∧ Lib.OthersKept 5 (some b) w w') :=
  Any.Builder_WriteString_k { Tryz.lays156 with } Tryz.Builder_Extra_156 B b bs s w h hlen hBw
def TxtIs (w : World) (l : List UInt8) (e : Ending) (w' : World) : Prop := e = .returned (.string ⟨l.toArray⟩) ∧ Below w.heap.size w w'
theorem text_zero (neg : Bool) (a : Option Addr) (cap : Nat) (w : World) :
    Calls Tryz.prog 170 #[.agg #[.bool neg, .slice a 0 cap]] w (TxtIs w [48]) := by
  go_enter Tryz.func170, Tryz.ntmps170
  go_wp2
  go_ret
  exact ⟨rfl, (Below.refl _ _).alloc (Nat.le_refl _) _⟩
def TR (B : Nat) (W1 : World) (l0 l1 : List UInt8) (i : Value) (wr : World) : Prop :=
  (i = .int .i64 0 ∧ Lib.IsBuilderF 192 5 B B (Lib.byteCells l0) wr ∧ Below B W1 wr) ∨ (i = .int .i64 (-1) ∧ Lib.IsBuilderF 192 5 B B (Lib.byteCells l1) wr ∧ Below B W1 wr)
theorem zeB (d : Nat) (hd : d < 100) : (Lib.decDigits d).length ≤ 2 := by
  by_cases h : d < 10
  · rw [Lib.decDigits_one h]; simp
  · rw [Lib.decDigits_two h hd]; simp
theorem text_one (neg : Bool) (b o cap d : Nat) (w : World) (hd : d < 100) (hcap : 1 ≤ cap) (hc : w.cell? ⟨b, o, none⟩ = some (.int .i64 d)) :
    Calls Tryz.prog 170 #[.agg #[.bool neg, .slice (some ⟨b, o, none⟩) 1 cap]] w (TxtIs w ((if neg then [45] else []) ++ Lib.decDigits d)) := by
  have hbw : b < w.heap.size := by
    rcases Nat.lt_or_ge b w.heap.size with h | h
    · exact h
    · have : w.heap[b]? = none := by simp; omega
      simp [World.cell?, this] at hc
  go_enter Tryz.func170, Tryz.ntmps170
  cases neg with
  | false =>
    go_wp2
    go_loopw [4] (fun i wr => TR (w.heap.size + 1) ((w.alloc (.cells #[.bool false, .slice (some ⟨b, o, none⟩) 1 cap] 100)).alloc (.cells #[.pointer none, .slice none 0 0] 192)) [] (Lib.decDigits d) i wr) (fun i _ => (intOf i + 1).toNat)
    case atStart =>
      exact .inl ⟨rfl, Lib.IsBuilderF.of (by have := Lib.fresh_isBuilder 192 5 (w.alloc (.cells #[.bool false, .slice (some ⟨b, o, none⟩) 1 cap] 100)); simpa [Lib.byteCells] using this), Below.refl _ _⟩
    case round =>
      have hsz : w.heap.size + 2 ≤ wr.heap.size := by
        rcases hrel with ⟨_, _, hB⟩ | ⟨_, _, hB⟩ <;> (have := hB.size; simp at this; omega)
      have hcells : wr.cell? ⟨w.heap.size, 1, none⟩ = some (.slice (some ⟨b, o, none⟩) 1 cap) ∧ wr.cell? ⟨b, o, none⟩ = some (.int .i64 d) := by
        rcases hrel with ⟨_, _, hB⟩ | ⟨_, _, hB⟩ <;>
        · refine ⟨(hB.cell (p := ⟨w.heap.size, 1, none⟩) (by simp)).trans ?_, (hB.cell (p := ⟨b, o, none⟩) (by simp; omega)).trans ?_⟩
          · exact World.cell?_alloc2_first ..
          · exact (World.cell?_alloc_past _ _ _ (by simp; omega)).trans ((World.cell?_alloc_past _ _ _ hbw).trans hc)
      obtain ⟨c1, cd⟩ := hcells
      obtain ⟨rfl, hI, hB⟩ | ⟨rfl, hI, hB⟩ := hrel
      · go_wp2_with (go_at_call 206; refine (Tryz.strconv_Itoa_small d hd _).mono ?_)
        rintro e W2 ⟨rfl, rfl⟩
        go_wp2_with (go_at_call 173; refine (Tryz.write_k (w.heap.size + 1) (w.heap.size + 1) _ _ _ hI (by have := zeB d hd; simp [Lib.byteCells, ByteArray.size]; omega) (by omega)).mono ?_)
        rintro e W3 ⟨rfl, h1, b1, k1⟩
        go_wp2
        go_roundw
        case rel => exact .inr ⟨rfl, .inr (by simpa [Lib.byteCells, Lib.strCells] using h1), hB.trans b1⟩
        case measure => simp [intOf]
      · go_wp2_with (go_at_call 174; refine (Tryz.Builder_String_any_k (w.heap.size + 1) (w.heap.size + 1) _ _ hI (by omega)).mono ?_)
        rintro e W2 ⟨rfl, h1, b1, k1⟩
        go_wp2
        go_ret
        exact ⟨by simp, (((Below.refl _ w).alloc (Nat.le_refl _) _).alloc (by simp) _).trans ((hB.mono (by omega)).trans (b1.mono (by omega)))⟩
  | true =>
    have hI0 : Lib.IsBuilderF 192 5 (w.heap.size + 1) (w.heap.size + 1) (Lib.byteCells []) ((w.alloc (.cells #[.bool true, .slice (some ⟨b, o, none⟩) 1 cap] 100)).alloc (.cells #[.pointer none, .slice none 0 0] 192)) :=
      Lib.IsBuilderF.of (by have := Lib.fresh_isBuilder 192 5 (w.alloc (.cells #[.bool true, .slice (some ⟨b, o, none⟩) 1 cap] 100)); simpa [Lib.byteCells] using this)
    go_wp2_with (go_at_call 173; refine (Tryz.write_k (w.heap.size + 1) (w.heap.size + 1) _ _ _ hI0 (by simp [Lib.byteCells, ByteArray.size]) (by simp)).mono ?_)
    rintro e W0 rfl h0 b0 k0
    have hz0 : w.heap.size + 2 ≤ W0.heap.size := by have := b0.size; simp at this; omega
    have cc : ∀ W : World, Below (w.heap.size + 1) W0 W → W.cell? ⟨w.heap.size, 0, none⟩ = some (.bool true) ∧ W.cell? ⟨w.heap.size, 1, none⟩ = some (.slice (some ⟨b, o, none⟩) 1 cap) ∧ W.cell? ⟨b, o, none⟩ = some (.int .i64 d) := by
      intro W hB
      have hB2 := b0.trans hB
      exact ⟨(hB2.cell (p := ⟨w.heap.size, 0, none⟩) (by simp)).trans (World.cell?_alloc2_first ..), (hB2.cell (p := ⟨w.heap.size, 1, none⟩) (by simp)).trans (World.cell?_alloc2_first ..),
        (hB2.cell (p := ⟨b, o, none⟩) (by simp; omega)).trans ((World.cell?_alloc_past _ _ _ (by simp; omega)).trans ((World.cell?_alloc_past _ _ _ hbw).trans hc))⟩
    have cw0 := cc W0 (Below.refl _ _)
    obtain ⟨k0a, k0b, k0c⟩ := cw0
    go_wp2
    go_loopw [4] (fun i wr => TR (w.heap.size + 1) W0 [45] ([45] ++ Lib.decDigits d) i wr) (fun i _ => (intOf i + 1).toNat)
    case atStart =>
      exact .inl ⟨rfl, .inr (by simpa [Lib.byteCells, Lib.strCells] using h0), Below.refl _ _⟩
    case round =>
      have hB : Below (w.heap.size + 1) W0 wr := by
        rcases hrel with ⟨_, _, hB⟩ | ⟨_, _, hB⟩ <;> exact hB
      have hsz : w.heap.size + 2 ≤ wr.heap.size := Nat.le_trans hz0 hB.size
      obtain ⟨c0, c1, cd⟩ := cc wr hB
      obtain ⟨rfl, hI, _⟩ | ⟨rfl, hI, _⟩ := hrel
      · go_wp2_with (go_at_call 206; refine (Tryz.strconv_Itoa_small d hd _).mono ?_)
        rintro e W2 ⟨rfl, rfl⟩
        go_wp2_with (go_at_call 173; refine (Tryz.write_k (w.heap.size + 1) (w.heap.size + 1) _ _ _ hI (by have := zeB d hd; simp [Lib.byteCells, ByteArray.size]; omega) (by omega)).mono ?_)
        rintro e W3 ⟨rfl, h1, b1, k1⟩
        go_wp2
        go_roundw
        case rel => exact .inr ⟨rfl, .inr (by simpa [Lib.byteCells, Lib.strCells] using h1), hB.trans b1⟩
        case measure => simp [intOf]
      · go_wp2_with (go_at_call 174; refine (Tryz.Builder_String_any_k (w.heap.size + 1) (w.heap.size + 1) _ _ hI (by omega)).mono ?_)
        rintro e W2 ⟨rfl, h1, b1, k1⟩
        go_wp2
        go_ret
        exact ⟨by simp, (((Below.refl _ w).alloc (Nat.le_refl _) _).alloc (by simp) _).trans ((b0.mono (by omega)).trans ((hB.mono (by omega)).trans (b1.mono (by omega))))⟩
end Go.Proofs
end
section
open Go Go.Ev Go.RowKit
namespace Go.Proofs.YtloaeinogiplbaaGreatDoor
open Go.Proofs
set_option maxRecDepth 100000
set_option maxHeartbeats 4000000
set_option linter.unusedVariables false
set_option linter.unusedSimpArgs false
def txtL (z : Int) : List UInt8 := if z = 0 then [48] else (if decide (z < 0) = true then [45] else []) ++ Lib.decDigits z.natAbs
def txtB (z : Int) : ByteArray := ⟨(txtL z).toArray⟩
theorem wd_inv {E : Env} {z : Int} {v : Value} (h : Rd E (.wd z) v) : ∃ a cap, v = .slice a (digs z.natAbs).length cap ∧ (digs z.natAbs).length ≤ cap ∧ IntsAt E (digs z.natAbs) a := by
  cases h with
  | wd hi hc => exact ⟨_, _, rfl, hc, hi⟩
theorem text_fc (z : Int) (hz : z.natAbs < 100) : FC Tryz.prog 170 [W z] (.lit (.string (txtB z))) := by
  intro M w vs _ hl ha
  have h0 : Rd ⟨w.heap, M, []⟩ (W z) (vs.getD 0 undef) := ha 0 (by simp)
  obtain ⟨v0, rfl⟩ : ∃ v0, vs = #[v0] := by
    have h1 : vs.size = 1 := by simpa using hl.symm
    exact ⟨vs[0], by apply Array.ext (by simp [h1]); intro i h2 h3; have : i = 0 := by omega
                     subst this; simp⟩
  have h0' : Rd ⟨w.heap, M, []⟩ (W z) v0 := h0
  unfold W at h0'
  cases h0' with
  | @agg _ us hlen hr =>
    obtain ⟨u0, u1, rfl⟩ : ∃ u0 u1, us = #[u0, u1] := by
      have h1 : us.size = 2 := by simpa using hlen.symm
      exact ⟨us[0], us[1], by apply Array.ext (by simp [h1]); intro i h2 h3; have : i = 0 ∨ i = 1 := by omega
                              rcases this with rfl | rfl <;> simp⟩
    have e0 : u0 = .bool (decide (z < 0)) := Rd.lit_inv (hr 0 (by simp))
    obtain ⟨a, cap, e1, hcap, hi⟩ := wd_inv (hr 1 (by simp))
    have e1' : u1 = .slice a (digs z.natAbs).length cap := e1
    subst e0; subst e1'
    by_cases h : z = 0
    · subst h
      refine (text_zero _ a cap w).mono ?_
      rintro e w' ⟨rfl, hb⟩
      exact ⟨_, rfl, hb, .lit _⟩
    · have hd : digs z.natAbs = [((z.natAbs : Nat) : Int)] := by
        rw [zbP _ (by omega)]
        rw [Nat.mod_eq_of_lt (by omega), Nat.div_eq_of_lt (by omega)]; rfl
      rw [hd] at hi hcap
      rcases hi with hi | ⟨b, o, rfl, _, hc⟩
      · cases hi
      · have hc0 := hc 0 (by simp)
        have hcell : w.cell? ⟨b, o, none⟩ = some (.int .i64 ((z.natAbs : Nat) : Int)) := by rw [cell?_eq]; simpa using hc0
        rw [hd]
        refine (text_one (decide (z < 0)) b o cap z.natAbs w hz (by simpa using hcap) hcell).mono ?_
        rintro e w' ⟨rfl, hb⟩
        refine ⟨_, rfl, hb, ?_⟩
        have : (⟨((if decide (z < 0) = true then [45] else []) ++ Lib.decDigits z.natAbs).toArray⟩ : ByteArray) = txtB z := by unfold txtB txtL; rw [if_neg h]
        rw [this]; exact .lit _
def zml : List AV → Option (List ByteArray)
  | [] => some []
  | .lit (.string s) :: l => match zml l with | some r => some (s :: r) | none => none
  | _ => none
theorem zkq : ∀ {cs : List AV} {l : List ByteArray}, zml cs = some l → cs = l.map fun s => AV.lit (.string s)
  | [], l, h => by cases h; rfl
  | c :: cs, l, h => by
    unfold zml at h
    split at h
    · rename_i heq; cases heq
    · rename_i s q heq
      cases heq
      split at h
      · rename_i r hr
        cases h
        rw [zkq hr]; rfl
      · cases h
    · cases h
def joinB (xs : List ByteArray) (sep : ByteArray) : ByteArray := ⟨(Lib.join (xs.map (·.data.toList)) sep.data.toList).toArray⟩
def cJoin (args : List AV) : M AV := match args with
  | [.sl cs n, .lit (.string sep)] => do
    let xs ← ofOpt 240 (zml cs)
    tellD (xs.length = n ∧ n ≠ 0 ∧ n ≤ 1000 ∧ (joinB xs sep).size ≤ 1000000) (Tst.b (xs.length = n ∧ n ≠ 0 ∧ n ≤ 1000 ∧ (joinB xs sep).size ≤ 1000000))
    M.pure (.lit (.string (joinB xs sep)))
  | _ => fail 241
theorem join_ok : tZ Tryz.prog 131 cJoin := by
  intro args _
  unfold cJoin
  split
  · rename_i cs n sep _
    refine Spec.bind (Spec.ofOpt fun xs hxs => Spec.bind (Spec.tellD Tst.ok fun hp => Spec.pure' ?_))
    obtain ⟨h1, h2, h3, h4⟩ := hp
    have hcs := zkq hxs
    intro M w vs _ hl ha
    have h0 : Rd ⟨w.heap, M, []⟩ (.sl cs n) (vs.getD 0 undef) := ha 0 (by simp)
    have h5 : Rd ⟨w.heap, M, []⟩ (.lit (.string sep)) (vs.getD 1 undef) := ha 1 (by simp)
    obtain ⟨v0, v1, rfl⟩ : ∃ v0 v1, vs = #[v0, v1] := by
      have h1 : vs.size = 2 := by simpa using hl.symm
      exact ⟨vs[0], vs[1], by apply Array.ext (by simp [h1]); intro i h2 h3; have : i = 0 ∨ i = 1 := by omega
                              rcases this with rfl | rfl <;> simp⟩
    have e1 : v1 = .string sep := Rd.lit_inv h5
    subst e1
    have h0' : Rd ⟨w.heap, M, []⟩ (.sl cs n) v0 := h0
    cases h0' with
    | sl0 => exact absurd rfl h2
    | @sl _ _ b o cap vals hs hM hc hv hr =>
      have hlen : cs.length = xs.length := by rw [hcs]; simp
      subst h1
      refine (Tryz.strings_Join b o cap xs sep w ?_ hs (by omega) hc ?_).mono ?_
      · intro j x hj
        have hjl : j < xs.length := (List.getElem?_eq_some_iff.1 hj).1
        have k1 := hv j (by omega)
        have k2 := hr j (by omega)
        have k3 : cs.getD j .junk = .lit (.string x) := by rw [hcs]; simp [List.getD, hj]
        rw [k3] at k2
        rw [cell?_eq, k1, Rd.lit_inv k2]
      · have : (joinB xs sep).size = (Lib.join (xs.map (·.data.toList)) sep.data.toList).length := by unfold joinB; simp [ByteArray.size]
        omega
      · rintro e w' ⟨rfl, hb⟩
        exact ⟨_, rfl, hb, .lit _⟩
  · exact Spec.fail
end Go.Proofs.YtloaeinogiplbaaGreatDoor
end
section
open Go Go.Ev Go.RowKit
namespace Go.Proofs.YtloaeinogiplbaaGreatDoor
open Go.Proofs
set_option maxRecDepth 100000
set_option maxHeartbeats 1000000
set_option linter.unusedVariables false
set_option linter.unusedSimpArgs false
noncomputable section
end
def ctrT2 : Ctr := (170, c1 (fun z => z.natAbs < 100) (fun z => .lit (.string (txtB z)))) :: (131, cJoin) :: zly
theorem zjQ : ∀ p ∈ ctrT2, tZ Tryz.prog p.1 p.2 := CAll.cons (c1_ok text_fc) <| CAll.cons join_ok zlz
theorem okT2 : (dZ Tryz.prog ctrT2 bw).OK := QZ zjQ
noncomputable section
end
open Go.Kf
abbrev F2 : AV := .agg [.sq [-2, 0, 1], .lit (.int .i64 1), .lit (.int .i64 2), .lit (.int .i64 1)]
abbrev R2 : AV := .pd [.sq [-2, 0, 1], .lit (.int .i64 1), .lit (.int .i64 2), .lit (.int .i64 1), .sl [.lit (.bool true), .wd (-2), .lit (.bool false), .wd 0, .lit (.bool false), .wd 1] 3, .sl [.lit (.bool false), .wd 2, .lit (.bool false), .wd 0] 2,
  .lit (.bool false), .wd 26087635650665564424, .lit (.bool false), .wd 26087635650665564425, .lit (.bool false), .wd 18446744073709551616] 0
theorem red2 : red [-2, 0, 1] = false := Value.bool.inj (AV.lit.inj (zhP fun h => by
  rcases h.2 with ⟨x, hx⟩ | ⟨h5, _⟩
  · have e : pv [-2, 0, 1] x = (((0 * x + 1) * x + 0) * x + -2 : Int) := rfl
    rw [e] at hx
    have h2 : x * x = 2 := by grind
    have h3 : x.natAbs * x.natAbs = 2 := by rw [← Int.natAbs_mul, h2]; rfl
    have : x.natAbs = 0 ∨ x.natAbs = 1 ∨ 2 ≤ x.natAbs := by omega
    rcases this with h | h | h
    · rw [h] at h3; cases h3
    · rw [h] at h3; cases h3
    · have := Nat.mul_le_mul h h; omega
  · cases h5))
theorem chk2 : zd6 [-2, 0, 1] 1 2 1 = 0 := by
  have hr : ChkR [-2, 0, 1] 1 2 1 := ⟨by decide, by decide, by decide, by decide, by decide, by decide, by decide, by decide, by decide⟩
  rw [hr.eq, red2, if_neg (by decide), if_neg (by decide), show zkx [-2, 0, 1] 1 2 1 = true by kernel_rfl]; rfl
theorem hv64 : hvG [-2, 0, 1] 64 1 2 1 = (26087635650665564424, 26087635650665564425, 18446744073709551616) := by kernel_rfl
theorem Le.lst_sl {l : List Int} {cells : List AV} {n : Nat} (h : cells = qZ .W l) (hn : n = l.length) : Le (.lst .whole l) (.sl cells n) := by
  subst h; subst hn; exact Le.lst_slW l
theorem open2 : FC Tryz.prog 35 [F2] (.tup [R2, .lit (.int .i64 0)]) := by
  have := open_fc [-2, 0, 1] 1 2 1 chk2
  refine this.le (LeL.refl _) ?_
  unfold openA oA
  rw [show hvC [-2, 0, 1] = 64 from rfl, hv64]
  exact Le.tup (.cons (Le.pd (LeL.six (Le.lst_sl rfl rfl) (Le.lst_sl rfl rfl))) (LeL.refl _))
abbrev nW : AV := .agg [.sl [.lit (.slice none 0 0), .sq [1]] 2, .lit (.slice none 0 0)]
abbrev nA1 (a d : Int) : AV := .agg [.sl [.ni a] 1, .ni d]
abbrev nA2 (a b d : Int) : AV := .agg [.sl [.ni a, .ni b] 2, .ni d]
noncomputable section
theorem cRoot : zkI (dZ Tryz.prog zly bw) 300 68 [.lit (.int .i64 2)] = some (.tup [.agg [.sq [-2, 0, 1], aI 1, aI 2, aI 1], aI 0], [3 ≤ 3]) := by kernel_rfl
theorem cWhole1 : zkI (dZ Tryz.prog zly bw) 300 31 [.lit (.int .i64 1)] = some (.agg [.sl [.ni 1] 1, .ni 1], []) := by kernel_rfl
theorem cWhole3 : zkI (dZ Tryz.prog zly bw) 300 31 [.lit (.int .i64 3)] = some (.agg [.sl [.ni 3] 1, .ni 1], []) := by kernel_rfl
theorem cWhole100 : zkI (dZ Tryz.prog zly bw) 300 31 [.lit (.int .i64 100)] = some (.agg [.sl [.ni 100] 1, .ni 1], []) := by kernel_rfl
theorem cAdd1 : zkI (dZ Tryz.prog zly bw) 300 24 [R2, nA1 1 1, nW] = some (.agg [.sl [.ni 1, .ni 1] 2, .ni 1], []) := by kernel_rfl
theorem cAdd2 : zkI (dZ Tryz.prog zly bw) 300 24 [R2, nW, nW] = some (.agg [.sl [.ni 0, .ni 2] 2, .ni 1], []) := by kernel_rfl
theorem cSub : zkI (dZ Tryz.prog zly bw) 300 26 [R2, nA1 3 1, nA2 0 2 1] = some (.agg [.sl [.ni 3, .ni (-2)] 2, .ni 1], []) := by kernel_rfl
theorem cMul : zkI (dZ Tryz.prog zly bw) 300 28 [R2, nA1 100 1, nW] = some (.agg [.sl [.ni 0, .ni 100] 2, .ni 1], []) := by kernel_rfl
theorem cSign : zkI (dZ Tryz.prog zly bw) 300 30 [R2, nA2 3 (-2) 1] = some (aI 1, []) := by kernel_rfl
theorem cFloor : zkI (dZ Tryz.prog zly bw) 300 33 [R2, nA2 0 100 1] = some (.ni 141, []) := by kernel_rfl
theorem cQuo : zkI (dZ Tryz.prog zly bw) 300 19 [R2, nA1 1 1, nA2 1 1 1] = some (.tup [.agg [.sl [.ni (-1), .ni 1] 2, .ni 1], aI 0], []) := by kernel_rfl
end
theorem cFmt : zkI (dZ Tryz.prog ctrT2 bw) 300 76 [R2, nA2 (-1) 1 1] = some (.lit (.string ⟨#[45, 49, 44, 49]⟩), []) := by kernel_rfl
theorem root2 : FC Tryz.prog 68 [.lit (.int .i64 2)] (.tup [F2, .lit (.int .i64 0)]) := zcr okN cRoot (.cons (Nat.le_refl _) .nil)
theorem whole1 : FC Tryz.prog 31 [.lit (.int .i64 1)] (nA1 1 1) := zcr okN cWhole1 .nil
theorem whole3 : FC Tryz.prog 31 [.lit (.int .i64 3)] (nA1 3 1) := zcr okN cWhole3 .nil
theorem whole100 : FC Tryz.prog 31 [.lit (.int .i64 100)] (nA1 100 1) := zcr okN cWhole100 .nil
theorem add1 : FC Tryz.prog 24 [R2, nA1 1 1, nW] (nA2 1 1 1) := zcr okN cAdd1 .nil
theorem add2 : FC Tryz.prog 24 [R2, nW, nW] (nA2 0 2 1) := zcr okN cAdd2 .nil
theorem sub1 : FC Tryz.prog 26 [R2, nA1 3 1, nA2 0 2 1] (nA2 3 (-2) 1) := zcr okN cSub .nil
theorem mul1 : FC Tryz.prog 28 [R2, nA1 100 1, nW] (nA2 0 100 1) := zcr okN cMul .nil
theorem sign1 : FC Tryz.prog 30 [R2, nA2 3 (-2) 1] (.lit (.int .i64 1)) := zcr okN cSign .nil
theorem floor1 : FC Tryz.prog 33 [R2, nA2 0 100 1] (.ni 141) := zcr okN cFloor .nil
theorem fmt1 : FC Tryz.prog 76 [R2, nA2 (-1) 1 1] (.lit (.string ⟨#[45, 49, 44, 49]⟩)) := zcr okT2 cFmt .nil
theorem quo1 : FC Tryz.prog 19 [R2, nA1 1 1, nA2 1 1 1] (.tup [nA2 (-1) 1 1, .lit (.int .i64 0)]) := zcr okN cQuo .nil
def ctrW : Ctr := (35, cK [F2] (.tup [R2, .lit (.int .i64 0)])) :: (68, cK [.lit (.int .i64 2)] (.tup [F2, .lit (.int .i64 0)])) ::
  (31, orC (cK [.lit (.int .i64 1)] (nA1 1 1)) (orC (cK [.lit (.int .i64 3)] (nA1 3 1)) (cK [.lit (.int .i64 100)] (nA1 100 1)))) ::
  (24, orC (cK [R2, nA1 1 1, nW] (nA2 1 1 1)) (cK [R2, nW, nW] (nA2 0 2 1))) ::
  (26, cK [R2, nA1 3 1, nA2 0 2 1] (nA2 3 (-2) 1)) ::
  (28, cK [R2, nA1 100 1, nW] (nA2 0 100 1)) ::
  (30, cK [R2, nA2 3 (-2) 1] (.lit (.int .i64 1))) ::
  (33, cK [R2, nA2 0 100 1] (.ni 141)) ::
  (76, cK [R2, nA2 (-1) 1 1] (.lit (.string ⟨#[45, 49, 44, 49]⟩))) ::
  (19, cK [R2, nA1 1 1, nA2 1 1 1] (.tup [nA2 (-1) 1 1, .lit (.int .i64 0)])) :: ctrT2
theorem ctrW_all : ∀ p ∈ ctrW, tZ Tryz.prog p.1 p.2 :=
  CAll.cons (zey open2) <| CAll.cons (zey root2) <| CAll.cons (orC_ok (zey whole1) (orC_ok (zey whole3) (zey whole100))) <| CAll.cons (orC_ok (zey add1) (zey add2)) <| CAll.cons (zey sub1) <|
  CAll.cons (zey mul1) <| CAll.cons (zey sign1) <| CAll.cons (zey floor1) <| CAll.cons (zey fmt1) <| CAll.cons (zey quo1) zjQ
theorem okW : (dZ Tryz.prog ctrW bw).OK := QZ ctrW_all
noncomputable section
theorem cAwake : zkI (dZ Tryz.prog ctrW bw) 300 18 [] = some (aT, [1 ≤ 1, 1 ≤ 1, 1 ≤ 1, 1 ≤ 1, 1 ≤ 1, 1 ≤ 1, 1 ≤ 1, 1 ≤ 1, 1 ≤ 1, 1 ≤ 1, 1 ≤ 1, 1 ≤ 1, 1 ≤ 1, 1 ≤ 1, 1 ≤ 1, 1 ≤ 1, 1 ≤ 1, 1 ≤ 1, 1 ≤ 1, 1 ≤ 1, 1 ≤ 1]) := by kernel_rfl
end
theorem awake_fc : FC Tryz.prog 18 [] (.lit (.bool true)) := zcr okW cAwake (by (repeat' (first | exact AllC.nil | refine AllC.cons ?_ ?_)); all_goals (first | (with_reducible rfl) | exact Nat.le_refl _ | trivial | decide))
def ctrSf : Ctr := [(58, cLL pIn (fun a b => .lit (.bool (decide (a = b))))), (104, cL pCl (fun p => .sq p))]
theorem ctrSf_all : ∀ p ∈ ctrSf, tZ Tryz.prog p.1 p.2 := CAll.cons (zbM ints_fc) <| CAll.cons (zhG zln) (fun _ h => by cases h)
theorem okSf : (dZ Tryz.prog ctrSf bw).OK := QZ ctrSf_all
noncomputable section
theorem rf_0 (p : List Int) (a b d : Int) (h1 : pCl p) : FC Tryz.prog 38 [.pd [.sq p, .lit (.int .i64 a), .lit (.int .i64 b), .lit (.int .i64 d), .junk, .junk, .junk, .junk, .junk, .junk, .junk, .junk] 0] (.agg [.sq p, aI a, aI b, aI d]) := kZ okSf 60 [] [] (.cons h1 .nil) (by kernel_rfl)
theorem sf_0 (p q : List Int) (a b d x y z : Int) (h1 : pIn p q) (h2 : p = q) (h3 : a = x) (h4 : b = y) : FC Tryz.prog 37 [.agg [.sq p, .lit (.int .i64 a), .lit (.int .i64 b), .lit (.int .i64 d)], .agg [.sq q, .lit (.int .i64 x), .lit (.int .i64 y), .lit (.int .i64 z)]] (.lit (.bool (d == z))) := kZ okSf 60 [(0, true), (0, true), (0, true)] [] (.cons h1 (.cons (dT h2) (.cons (beq_iff_eq.2 h3) (.cons (beq_iff_eq.2 h4) .nil)))) (by kernel_rfl)
end
open Go.Kf
def pSame (f g : fieldK.ty) : Prop := f = g ∧ f.1.length ≤ 1048576
instance tSame {f g : fieldK.ty} : Tst (pSame f g) := ⟨false, fun h => by cases h⟩
theorem same_fc (f g : fieldK.ty) (h : pSame f g) : FC Tryz.prog 37 [fieldK.val f, fieldK.val g] (.lit (.bool true)) := by
  obtain ⟨rfl, hl⟩ := h
  obtain ⟨p, a, b, d⟩ := f
  have := sf_0 p p a b d a b d ⟨hl, hl⟩ rfl rfl rfl
  rw [show (d == d) = true from beq_self_eq_true d] at this
  exact this
def cRF (args : List AV) : M AV := match args with
  | [.pd [q, .lit (.int .i64 a), .lit (.int .i64 b), .lit (.int .i64 d), _, _, _, _, _, _, _, _] 0] => do
    let p ← ofOpt 314 (ints? q)
    tell (pCl p)
    M.pure (.agg [.sq p, .lit (.int .i64 a), .lit (.int .i64 b), .lit (.int .i64 d)])
  | _ => fail 315
theorem cRF_ok : tZ Tryz.prog 38 cRF := by
  intro args _
  unfold cRF
  split
  · refine Spec.bind (Spec.ofOpt fun p hp => Spec.bind (Spec.tell fun h => Spec.pure' ((rf_0 p _ _ _ h).le (.cons (Le.pd ?_) .nil) (Le.refl _))))
    exact .cons (fun E v hv => hv.toSq hp) (.cons (Le.refl _) (.cons (Le.refl _) (.cons (Le.refl _) (.cons (Le.junk _) (.cons (Le.junk _) (.cons (Le.junk _) (.cons (Le.junk _) (.cons (Le.junk _) (.cons (Le.junk _) (.cons (Le.junk _) (.cons (Le.junk _) .nil)))))))))))
  · exact Spec.fail
noncomputable def ctrFf : Ctr := [(34, cFd (fun _ _ _ _ => True) (fun l a b d => .lit (.int .i64 (zd6 l a b d)))), (36, cFd (fun _ _ _ _ => True) (fun l a b d => .lit (.int .i64 (zd6 l a b d)))), (35, cOpen), (38, cRF),
  (37, cD2 fieldK fieldK pSame (fun _ _ => .lit (.bool true))), (18, cK [] (.lit (.bool true)))]
theorem ctrFf_all : ∀ p ∈ ctrFf, tZ Tryz.prog p.1 p.2 := CAll.cons (zhR fun l a b d _ => rcheck_fc l a b d) <| CAll.cons (zhR fun l a b d _ => zlm l a b d) <| CAll.cons cOpen_ok <| CAll.cons cRF_ok <|
  CAll.cons (cD2_ok same_fc) <| CAll.cons (zey awake_fc) CAll.nil
theorem okFf : (dZ Tryz.prog ctrFf bw).OK := QZ ctrFf_all
noncomputable section
theorem ff_0 (p : List Int) (a b d : Int) (h1 : (p.length : Int) > 8) : FC Tryz.prog 6 [.agg [.sq p, .lit (.int .i64 a), .lit (.int .i64 b), .lit (.int .i64 d)]] (aT) := kZ okFf 60 [(0, true)] [] (.cons (dT h1) .nil) (by kernel_rfl)
theorem ff_5 (p : List Int) (a b d : Int) (h1 : ¬ ((p.length : Int) > 8)) (h2 : zd6 p a b d = 0) (h3 : zd6 p a b d = zd6 p a b d) (h4 : 0 = zd6 p a b d) (h5 : false = (zd6 p a b d != 0)) (h6 : pCl p) (h7 : pSame (p, a, b, d) (p, a, b, d)) : FC Tryz.prog 6 [.agg [.sq p, .lit (.int .i64 a), .lit (.int .i64 b), .lit (.int .i64 d)]] (aT) := kZ okFf 60 [(0, false), (0, true), (0, false), (0, false), (0, false), (0, false)] [] (.cons (dF h1) (.cons trivial (.cons (dT h2) (.cons trivial (.cons (bne_eq_false_iff_eq.2 h3) (.cons (bne_eq_false_iff_eq.2 h4) (.cons (congrArg Bool.not (beq_iff_eq.2 h5)) (.cons (bne_eq_false_iff_eq.2 h2) (.cons h6 (.cons h7 .nil)))))))))) (by kernel_rfl)
theorem ff_8 (p : List Int) (a b d : Int) (h1 : ¬ ((p.length : Int) > 8)) (h2 : ¬ (zd6 p a b d = 0)) (h3 : zd6 p a b d = zd6 p a b d) (h4 : true = (zd6 p a b d != 0)) (h5 : zd6 p a b d ≠ 0) : FC Tryz.prog 6 [.agg [.sq p, .lit (.int .i64 a), .lit (.int .i64 b), .lit (.int .i64 d)]] (aT) := kZ okFf 60 [(0, false), (0, false), (0, false), (0, false), (0, false), (0, true)] [] (.cons (dF h1) (.cons trivial (.cons (dF h2) (.cons trivial (.cons (bne_eq_false_iff_eq.2 h3) (.cons (bne_eq_false_iff_eq.2 h3) (.cons (congrArg Bool.not (beq_iff_eq.2 h4)) (.cons (bne_iff_ne.2 h5) .nil)))))))) (by kernel_rfl)
end
open Go.Kf
theorem fields_fc (f : fieldK.ty) : FC Tryz.prog 6 [fieldK.val f] (.lit (.bool true)) := by
  obtain ⟨p, a, b, d⟩ := f
  by_cases h8 : p.length ≤ 8
  · by_cases h0 : zd6 p a b d = 0
    · have hr := chk_ok h0
      have hne : p ≠ [] := fun e => by have := hr.l2; rw [e] at this; simp at this
      exact ff_5 p a b d (by omega) h0 rfl h0.symm (by rw [h0]; rfl) ⟨hne, by omega⟩ ⟨rfl, by show p.length ≤ 1048576; omega⟩
    · exact ff_8 p a b d (by omega) h0 rfl (by rw [bne_iff_ne.2 h0]) h0
  · exact ff_0 p a b d (by omega)
end Go.Proofs.YtloaeinogiplbaaGreatDoor
end
