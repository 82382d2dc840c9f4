/- Part of a proof about a given program: see the last module of the claim. -/
import Derived.Test.YtloaeinogiplbaaGreatDoorC
section
open Go Go.Ev Go.RowKit
namespace Go.Proofs.YtloaeinogiplbaaGreatDoor
open Go.Proofs
set_option maxRecDepth 100000
set_option maxHeartbeats 1000000
set_option linter.unusedVariables false
set_option linter.unusedSimpArgs false
theorem plZ_0 (c d : Bool) (a b p q : Int) : za3 (dZ Tryz.prog zhD bw) 60 (eZ Tryz.prog 108 0) 4 [5] [2, 4, 5, 6, 7, 8, 31, 32, 33] [3] (PZ c d a b p q) [true, true] [] = some (Ex.normal, ⟨sp 97 [(2, .ref 0 0), (4, .ref 2 0), (5, .wd p), (6, .wd q), (7, .own 4 0 1 1), (8, aI (Int.tdiv ((digs p.natAbs).getD 0 0 + 0 + (digs q.natAbs).getD 0 0) 100000000)), (31, .wd p), (32, aI (↑((digs p.natAbs).length) : Int)), (33, aI 1)], [.flat [.lit (.bool c), .wd a] true, .flat [.lit (.bool d), .wd b] true, .flat [aF, aN] true, .dead, .ints [Int.tmod ((digs p.natAbs).getD 0 0 + 0 + (digs q.natAbs).getD 0 0) 100000000] true], [3]⟩, [decide (0 < (↑((digs p.natAbs).length) : Int)) = true, true = true, decide (0 < (↑((digs p.natAbs).length) : Int)) = true, decide (0 < (digs p.natAbs).length) = true, inR .i64 ((digs p.natAbs).getD 0 0 + 0) = true, decide (0 < (↑((digs q.natAbs).length) : Int)) = true, true = true, decide (0 < (↑((digs q.natAbs).length) : Int)) = true, decide (0 < (digs q.natAbs).length) = true, inR .i64 ((digs p.natAbs).getD 0 0 + 0 + (digs q.natAbs).getD 0 0) = true, true = true, inR .i64 (Int.tdiv ((digs p.natAbs).getD 0 0 + 0 + (digs q.natAbs).getD 0 0) 100000000) = true, true = true, true = true, true = true, true = true, decide ((List.take 1 [Int.tmod ((digs p.natAbs).getD 0 0 + 0 + (digs q.natAbs).getD 0 0) 100000000]).length = 1) = true, true = true]) := by kernel_rfl
theorem plZ_1 (c d : Bool) (a b p q : Int) : za3 (dZ Tryz.prog zhD bw) 60 (eZ Tryz.prog 108 0) 4 [5] [2, 4, 5, 6, 7, 8, 31, 32, 33] [3] (PZ c d a b p q) [true, false] [] = some (Ex.normal, ⟨sp 97 [(2, .ref 0 0), (4, .ref 2 0), (5, .wd p), (6, .wd q), (7, .own 4 0 1 1), (8, aI (Int.tdiv ((digs p.natAbs).getD 0 0 + 0) 100000000)), (31, .wd p), (32, aI (↑((digs p.natAbs).length) : Int)), (33, aI 1)], [.flat [.lit (.bool c), .wd a] true, .flat [.lit (.bool d), .wd b] true, .flat [aF, aN] true, .dead, .ints [Int.tmod ((digs p.natAbs).getD 0 0 + 0) 100000000] true], [3]⟩, [decide (0 < (↑((digs p.natAbs).length) : Int)) = true, true = true, decide (0 < (↑((digs p.natAbs).length) : Int)) = true, decide (0 < (digs p.natAbs).length) = true, inR .i64 ((digs p.natAbs).getD 0 0 + 0) = true, decide (0 < (↑((digs q.natAbs).length) : Int)) = false, true = true, inR .i64 (Int.tdiv ((digs p.natAbs).getD 0 0 + 0) 100000000) = true, true = true, true = true, true = true, true = true, decide ((List.take 1 [Int.tmod ((digs p.natAbs).getD 0 0 + 0) 100000000]).length = 1) = true, true = true]) := by kernel_rfl
theorem plX_2 (c d : Bool) (a b p q : Int) : za3 (dZ Tryz.prog zhD bw) 60 (eZ Tryz.prog 108 0) 4 [] [2, 4, 5, 6, 7, 8, 31, 32, 33] [3] (PZ c d a b p q) [false] [] = some (Ex.exit 0, ⟨sp 97 [(2, .ref 0 0), (4, .ref 2 0), (5, .wd p), (6, .wd q), (7, .own 3 0 0 1), (8, aI 0), (31, .wd p), (32, aI (↑((digs p.natAbs).length) : Int)), (33, aI 0)], [.flat [.lit (.bool c), .wd a] true, .flat [.lit (.bool d), .wd b] true, .flat [aF, aN] true, .ints [] true], [3]⟩, [decide (0 < (↑((digs p.natAbs).length) : Int)) = false]) := by kernel_rfl
theorem plR_0 (d e : Bool) (a b p q i c : Int) (n : Nat) (f : List Int) : za3 (dZ Tryz.prog zhD bw) 60 (eZ Tryz.prog 108 0) 4 [6] [2, 4, 5, 6, 7, 8, 31, 32, 33] [3] (PR d e a b p q i c n f) [true, true] [] = some (Ex.normal, ⟨sp 97 [(2, .ref 0 0), (4, .ref 2 0), (5, .wd p), (6, .wd q), (7, .own 4 0 (n + 1) 1), (8, aI (Int.tdiv ((digs p.natAbs).getD i.toNat 0 + c + (digs q.natAbs).getD i.toNat 0) 100000000)), (31, .wd p), (32, aI (↑((digs p.natAbs).length) : Int)), (33, aI (i + 1))], [.flat [.lit (.bool d), .wd a] true, .flat [.lit (.bool e), .wd b] true, .flat [aF, aN] true, .dead, .ints (f.take n ++ List.take 1 [Int.tmod ((digs p.natAbs).getD i.toNat 0 + c + (digs q.natAbs).getD i.toNat 0) 100000000]) true], [3]⟩, [decide (i < (↑((digs p.natAbs).length) : Int)) = true, decide (0 ≤ i) = true, decide (i < (↑((digs p.natAbs).length) : Int)) = true, decide (i.toNat < (digs p.natAbs).length) = true, inR .i64 ((digs p.natAbs).getD i.toNat 0 + c) = true, decide (i < (↑((digs q.natAbs).length) : Int)) = true, decide (0 ≤ i) = true, decide (i < (↑((digs q.natAbs).length) : Int)) = true, decide (i.toNat < (digs q.natAbs).length) = true, inR .i64 ((digs p.natAbs).getD i.toNat 0 + c + (digs q.natAbs).getD i.toNat 0) = true, true = true, inR .i64 (Int.tdiv ((digs p.natAbs).getD i.toNat 0 + c + (digs q.natAbs).getD i.toNat 0) 100000000) = true, true = true, decide ((n + 1) * 8 ≤ 140737488355328) = true, decide (n + 1 ≤ 4611686018427387904) = true, decide (n ≤ f.length) = true, decide ((List.take 1 [Int.tmod ((digs p.natAbs).getD i.toNat 0 + c + (digs q.natAbs).getD i.toNat 0) 100000000]).length = 1) = true, inR .i64 (i + 1) = true]) := by kernel_rfl
theorem plR_1 (d e : Bool) (a b p q i c : Int) (n : Nat) (f : List Int) : za3 (dZ Tryz.prog zhD bw) 60 (eZ Tryz.prog 108 0) 4 [6] [2, 4, 5, 6, 7, 8, 31, 32, 33] [3] (PR d e a b p q i c n f) [true, false] [] = some (Ex.normal, ⟨sp 97 [(2, .ref 0 0), (4, .ref 2 0), (5, .wd p), (6, .wd q), (7, .own 4 0 (n + 1) 1), (8, aI (Int.tdiv ((digs p.natAbs).getD i.toNat 0 + c) 100000000)), (31, .wd p), (32, aI (↑((digs p.natAbs).length) : Int)), (33, aI (i + 1))], [.flat [.lit (.bool d), .wd a] true, .flat [.lit (.bool e), .wd b] true, .flat [aF, aN] true, .dead, .ints (f.take n ++ List.take 1 [Int.tmod ((digs p.natAbs).getD i.toNat 0 + c) 100000000]) true], [3]⟩, [decide (i < (↑((digs p.natAbs).length) : Int)) = true, decide (0 ≤ i) = true, decide (i < (↑((digs p.natAbs).length) : Int)) = true, decide (i.toNat < (digs p.natAbs).length) = true, inR .i64 ((digs p.natAbs).getD i.toNat 0 + c) = true, decide (i < (↑((digs q.natAbs).length) : Int)) = false, true = true, inR .i64 (Int.tdiv ((digs p.natAbs).getD i.toNat 0 + c) 100000000) = true, true = true, decide ((n + 1) * 8 ≤ 140737488355328) = true, decide (n + 1 ≤ 4611686018427387904) = true, decide (n ≤ f.length) = true, decide ((List.take 1 [Int.tmod ((digs p.natAbs).getD i.toNat 0 + c) 100000000]).length = 1) = true, inR .i64 (i + 1) = true]) := by kernel_rfl
theorem plE_2 (d e : Bool) (a b p q i c : Int) (n : Nat) (f : List Int) : za3 (dZ Tryz.prog zhD bw) 60 (eZ Tryz.prog 108 0) 4 [4] [2, 4, 5, 6, 7, 8, 31, 32, 33] [3] (PR d e a b p q i c n f) [false] [] = some (Ex.exit 0, ⟨sp 97 [(2, .ref 0 0), (4, .ref 2 0), (5, .wd p), (6, .wd q), (7, .own 4 0 n 1), (8, aI c), (31, .wd p), (32, aI (↑((digs p.natAbs).length) : Int)), (33, aI i)], [.flat [.lit (.bool d), .wd a] true, .flat [.lit (.bool e), .wd b] true, .flat [aF, aN] true, .dead, .ints f true], [3]⟩, [decide (i < (↑((digs p.natAbs).length) : Int)) = false]) := by kernel_rfl
theorem leL_0 (c d : Bool) (a b q e i : Int) (n : Nat) (l : List Int) : za3 (dZ Tryz.prog zhD bw) 60 (eZ Tryz.prog 152 0) 5 [] [0, 1, 5, 7, 8, 9] [3, 4] (PL c d a b q e i n l) [true, true, true] [] = some (Ex.normal, ⟨sp 47 [(0, .own 4 0 n 1), (1, .wd q), (5, aI 1), (7, .own 4 0 n 1), (8, aI (n : Int)), (9, aI (i + 1))], [.flat [.lit (.bool c), .wd a] true, .flat [.lit (.bool d), .wd b] true, .flat [aF, aN] true, .dead, .ints (((l.set (0 + i.toNat * 1) (l.getD (0 + i.toNat * 1) 0 - e)).set (0 + i.toNat * 1) ((l.set (0 + i.toNat * 1) (l.getD (0 + i.toNat * 1) 0 - e)).getD (0 + i.toNat * 1) 0 - (digs q.natAbs).getD i.toNat 0)).set (0 + i.toNat * 1) (((l.set (0 + i.toNat * 1) (l.getD (0 + i.toNat * 1) 0 - e)).set (0 + i.toNat * 1) ((l.set (0 + i.toNat * 1) (l.getD (0 + i.toNat * 1) 0 - e)).getD (0 + i.toNat * 1) 0 - (digs q.natAbs).getD i.toNat 0)).getD (0 + i.toNat * 1) 0 + 100000000)) true], [3, 4]⟩, [decide (i < (n : Int)) = true, decide (0 ≤ i) = true, decide (i < (n : Int)) = true, decide (0 + i.toNat * 1 < l.length) = true, inR .i64 (l.getD (0 + i.toNat * 1) 0 - e) = true, decide (0 ≤ i) = true, decide (i < (n : Int)) = true, decide (0 + i.toNat * 1 < l.length) = true, decide (i < (↑((digs q.natAbs).length) : Int)) = true, decide (0 ≤ i) = true, decide (i < (n : Int)) = true, decide (0 ≤ i) = true, decide (i < (↑((digs q.natAbs).length) : Int)) = true, decide (i.toNat < (digs q.natAbs).length) = true, decide (0 + i.toNat * 1 < (l.set (0 + i.toNat * 1) (l.getD (0 + i.toNat * 1) 0 - e)).length) = true, inR .i64 ((l.set (0 + i.toNat * 1) (l.getD (0 + i.toNat * 1) 0 - e)).getD (0 + i.toNat * 1) 0 - (digs q.natAbs).getD i.toNat 0) = true, decide (0 ≤ i) = true, decide (i < (n : Int)) = true, decide (0 + i.toNat * 1 < (l.set (0 + i.toNat * 1) (l.getD (0 + i.toNat * 1) 0 - e)).length) = true, decide (0 ≤ i) = true, decide (i < (n : Int)) = true, decide (0 + i.toNat * 1 < ((l.set (0 + i.toNat * 1) (l.getD (0 + i.toNat * 1) 0 - e)).set (0 + i.toNat * 1) ((l.set (0 + i.toNat * 1) (l.getD (0 + i.toNat * 1) 0 - e)).getD (0 + i.toNat * 1) 0 - (digs q.natAbs).getD i.toNat 0)).length) = true, decide (((l.set (0 + i.toNat * 1) (l.getD (0 + i.toNat * 1) 0 - e)).set (0 + i.toNat * 1) ((l.set (0 + i.toNat * 1) (l.getD (0 + i.toNat * 1) 0 - e)).getD (0 + i.toNat * 1) 0 - (digs q.natAbs).getD i.toNat 0)).getD (0 + i.toNat * 1) 0 < 0) = true, decide (0 ≤ i) = true, decide (i < (n : Int)) = true, decide (0 + i.toNat * 1 < ((l.set (0 + i.toNat * 1) (l.getD (0 + i.toNat * 1) 0 - e)).set (0 + i.toNat * 1) ((l.set (0 + i.toNat * 1) (l.getD (0 + i.toNat * 1) 0 - e)).getD (0 + i.toNat * 1) 0 - (digs q.natAbs).getD i.toNat 0)).length) = true, inR .i64 (((l.set (0 + i.toNat * 1) (l.getD (0 + i.toNat * 1) 0 - e)).set (0 + i.toNat * 1) ((l.set (0 + i.toNat * 1) (l.getD (0 + i.toNat * 1) 0 - e)).getD (0 + i.toNat * 1) 0 - (digs q.natAbs).getD i.toNat 0)).getD (0 + i.toNat * 1) 0 + 100000000) = true, decide (0 ≤ i) = true, decide (i < (n : Int)) = true, decide (0 + i.toNat * 1 < ((l.set (0 + i.toNat * 1) (l.getD (0 + i.toNat * 1) 0 - e)).set (0 + i.toNat * 1) ((l.set (0 + i.toNat * 1) (l.getD (0 + i.toNat * 1) 0 - e)).getD (0 + i.toNat * 1) 0 - (digs q.natAbs).getD i.toNat 0)).length) = true, inR .i64 (i + 1) = true]) := by kernel_rfl
theorem leL_1 (c d : Bool) (a b q e i : Int) (n : Nat) (l : List Int) : za3 (dZ Tryz.prog zhD bw) 60 (eZ Tryz.prog 152 0) 5 [] [0, 1, 5, 7, 8, 9] [3, 4] (PL c d a b q e i n l) [true, true, false] [] = some (Ex.normal, ⟨sp 47 [(0, .own 4 0 n 1), (1, .wd q), (5, aI 0), (7, .own 4 0 n 1), (8, aI (n : Int)), (9, aI (i + 1))], [.flat [.lit (.bool c), .wd a] true, .flat [.lit (.bool d), .wd b] true, .flat [aF, aN] true, .dead, .ints ((l.set (0 + i.toNat * 1) (l.getD (0 + i.toNat * 1) 0 - e)).set (0 + i.toNat * 1) ((l.set (0 + i.toNat * 1) (l.getD (0 + i.toNat * 1) 0 - e)).getD (0 + i.toNat * 1) 0 - (digs q.natAbs).getD i.toNat 0)) true], [3, 4]⟩, [decide (i < (n : Int)) = true, decide (0 ≤ i) = true, decide (i < (n : Int)) = true, decide (0 + i.toNat * 1 < l.length) = true, inR .i64 (l.getD (0 + i.toNat * 1) 0 - e) = true, decide (0 ≤ i) = true, decide (i < (n : Int)) = true, decide (0 + i.toNat * 1 < l.length) = true, decide (i < (↑((digs q.natAbs).length) : Int)) = true, decide (0 ≤ i) = true, decide (i < (n : Int)) = true, decide (0 ≤ i) = true, decide (i < (↑((digs q.natAbs).length) : Int)) = true, decide (i.toNat < (digs q.natAbs).length) = true, decide (0 + i.toNat * 1 < (l.set (0 + i.toNat * 1) (l.getD (0 + i.toNat * 1) 0 - e)).length) = true, inR .i64 ((l.set (0 + i.toNat * 1) (l.getD (0 + i.toNat * 1) 0 - e)).getD (0 + i.toNat * 1) 0 - (digs q.natAbs).getD i.toNat 0) = true, decide (0 ≤ i) = true, decide (i < (n : Int)) = true, decide (0 + i.toNat * 1 < (l.set (0 + i.toNat * 1) (l.getD (0 + i.toNat * 1) 0 - e)).length) = true, decide (0 ≤ i) = true, decide (i < (n : Int)) = true, decide (0 + i.toNat * 1 < ((l.set (0 + i.toNat * 1) (l.getD (0 + i.toNat * 1) 0 - e)).set (0 + i.toNat * 1) ((l.set (0 + i.toNat * 1) (l.getD (0 + i.toNat * 1) 0 - e)).getD (0 + i.toNat * 1) 0 - (digs q.natAbs).getD i.toNat 0)).length) = true, decide (((l.set (0 + i.toNat * 1) (l.getD (0 + i.toNat * 1) 0 - e)).set (0 + i.toNat * 1) ((l.set (0 + i.toNat * 1) (l.getD (0 + i.toNat * 1) 0 - e)).getD (0 + i.toNat * 1) 0 - (digs q.natAbs).getD i.toNat 0)).getD (0 + i.toNat * 1) 0 < 0) = false, inR .i64 (i + 1) = true]) := by kernel_rfl
theorem leL_2 (c d : Bool) (a b q e i : Int) (n : Nat) (l : List Int) : za3 (dZ Tryz.prog zhD bw) 60 (eZ Tryz.prog 152 0) 5 [] [0, 1, 5, 7, 8, 9] [3, 4] (PL c d a b q e i n l) [true, false, true] [] = some (Ex.normal, ⟨sp 47 [(0, .own 4 0 n 1), (1, .wd q), (5, aI 1), (7, .own 4 0 n 1), (8, aI (n : Int)), (9, aI (i + 1))], [.flat [.lit (.bool c), .wd a] true, .flat [.lit (.bool d), .wd b] true, .flat [aF, aN] true, .dead, .ints ((l.set (0 + i.toNat * 1) (l.getD (0 + i.toNat * 1) 0 - e)).set (0 + i.toNat * 1) ((l.set (0 + i.toNat * 1) (l.getD (0 + i.toNat * 1) 0 - e)).getD (0 + i.toNat * 1) 0 + 100000000)) true], [3, 4]⟩, [decide (i < (n : Int)) = true, decide (0 ≤ i) = true, decide (i < (n : Int)) = true, decide (0 + i.toNat * 1 < l.length) = true, inR .i64 (l.getD (0 + i.toNat * 1) 0 - e) = true, decide (0 ≤ i) = true, decide (i < (n : Int)) = true, decide (0 + i.toNat * 1 < l.length) = true, decide (i < (↑((digs q.natAbs).length) : Int)) = false, decide (0 ≤ i) = true, decide (i < (n : Int)) = true, decide (0 + i.toNat * 1 < (l.set (0 + i.toNat * 1) (l.getD (0 + i.toNat * 1) 0 - e)).length) = true, decide ((l.set (0 + i.toNat * 1) (l.getD (0 + i.toNat * 1) 0 - e)).getD (0 + i.toNat * 1) 0 < 0) = true, decide (0 ≤ i) = true, decide (i < (n : Int)) = true, decide (0 + i.toNat * 1 < (l.set (0 + i.toNat * 1) (l.getD (0 + i.toNat * 1) 0 - e)).length) = true, inR .i64 ((l.set (0 + i.toNat * 1) (l.getD (0 + i.toNat * 1) 0 - e)).getD (0 + i.toNat * 1) 0 + 100000000) = true, decide (0 ≤ i) = true, decide (i < (n : Int)) = true, decide (0 + i.toNat * 1 < (l.set (0 + i.toNat * 1) (l.getD (0 + i.toNat * 1) 0 - e)).length) = true, inR .i64 (i + 1) = true]) := by kernel_rfl
theorem leL_3 (c d : Bool) (a b q e i : Int) (n : Nat) (l : List Int) : za3 (dZ Tryz.prog zhD bw) 60 (eZ Tryz.prog 152 0) 5 [] [0, 1, 5, 7, 8, 9] [3, 4] (PL c d a b q e i n l) [true, false, false] [] = some (Ex.normal, ⟨sp 47 [(0, .own 4 0 n 1), (1, .wd q), (5, aI 0), (7, .own 4 0 n 1), (8, aI (n : Int)), (9, aI (i + 1))], [.flat [.lit (.bool c), .wd a] true, .flat [.lit (.bool d), .wd b] true, .flat [aF, aN] true, .dead, .ints (l.set (0 + i.toNat * 1) (l.getD (0 + i.toNat * 1) 0 - e)) true], [3, 4]⟩, [decide (i < (n : Int)) = true, decide (0 ≤ i) = true, decide (i < (n : Int)) = true, decide (0 + i.toNat * 1 < l.length) = true, inR .i64 (l.getD (0 + i.toNat * 1) 0 - e) = true, decide (0 ≤ i) = true, decide (i < (n : Int)) = true, decide (0 + i.toNat * 1 < l.length) = true, decide (i < (↑((digs q.natAbs).length) : Int)) = false, decide (0 ≤ i) = true, decide (i < (n : Int)) = true, decide (0 + i.toNat * 1 < (l.set (0 + i.toNat * 1) (l.getD (0 + i.toNat * 1) 0 - e)).length) = true, decide ((l.set (0 + i.toNat * 1) (l.getD (0 + i.toNat * 1) 0 - e)).getD (0 + i.toNat * 1) 0 < 0) = false, inR .i64 (i + 1) = true]) := by kernel_rfl
theorem leL_4 (c d : Bool) (a b q e i : Int) (n : Nat) (l : List Int) : za3 (dZ Tryz.prog zhD bw) 60 (eZ Tryz.prog 152 0) 5 [] [0, 1, 5, 7, 8, 9] [3, 4] (PL c d a b q e i n l) [false] [] = some (Ex.exit 0, ⟨sp 47 [(0, .own 4 0 n 1), (1, .wd q), (5, aI e), (7, .own 4 0 n 1), (8, aI (n : Int)), (9, aI i)], [.flat [.lit (.bool c), .wd a] true, .flat [.lit (.bool d), .wd b] true, .flat [aF, aN] true, .dead, .ints l true], [3, 4]⟩, [decide (i < (n : Int)) = false]) := by kernel_rfl
abbrev zlS (d e : Bool) (a b i c : Int) (n : Nat) (f : List Int) : St := ⟨sp 97 [(2, .ref 0 0), (4, .ref 2 0), (5, .wd a), (6, .wd b), (7, .own 4 0 n 1), (8, aI c), (31, .wd a), (32, aI (↑((digs a.natAbs).length) : Int)), (33, aI i)], [.flat [.lit (.bool d), .wd a] true, .flat [.lit (.bool e), .wd b] true, .flat [aF, aN] true, .dead, .ints f true], [3]⟩
abbrev zgu (c d : Bool) (a b : Int) : St := ⟨sp 97 [(2, .ref 0 0), (4, .ref 2 0), (5, .wd a), (6, .wd b), (7, .own 3 0 0 1), (8, aI 0), (31, .wd a), (32, aI (↑((digs a.natAbs).length) : Int)), (33, aI 0)], [.flat [.lit (.bool c), .wd a] true, .flat [.lit (.bool d), .wd b] true, .flat [aF, aN] true, .ints [] true], [3]⟩
theorem plA_2 (d e : Bool) (a b i c : Int) (n : Nat) (f : List Int) : zaf (dZ Tryz.prog zhD bw) 60 108 [.agg [.lit (.bool d), .wd a], .agg [.lit (.bool e), .wd b]] [true, false, true] [some (wZ Tryz.prog (eZ Tryz.prog 108 0) [] [2,4,5,6,7,8,31,32,33] [3] (PZ d e a b a b) (.exit 0, PR d e a b a b i c n f))] = some (.agg [.lit (.bool d), .sq ((f.take n ++ List.take 1 [c]).take (n + 1))], [(d == e) = true, decide ((↑((digs a.natAbs).length) : Int) < (↑((digs b.natAbs).length) : Int)) = false, inR .i64 ((↑((digs a.natAbs).length) : Int) + 1) = true, true = true, decide (0 ≤ (↑((digs a.natAbs).length) : Int) + 1) = true, decide (8 * ((↑((digs a.natAbs).length) : Int) + 1) ≤ 281474976710656) = true, decide ((↑((digs a.natAbs).length) : Int) + 1 ≤ 9223372036854775807) = true, IZ Tryz.prog (eZ Tryz.prog 108 0) (wZ Tryz.prog (eZ Tryz.prog 108 0) [] [2, 4, 5, 6, 7, 8, 31, 32, 33] [3] (zgu d e a b) (Ex.exit 0, (zlS d e a b i c n f))), (zgu d e a b) = (zgu d e a b), Loops 4 Tryz.prog (eZ Tryz.prog 108 0) (zgu d e a b) (Ex.exit 0, (zlS d e a b i c n f)), decide (c > 0) = true, decide ((n + 1) * 8 ≤ 140737488355328) = true, decide (n + 1 ≤ 4611686018427387904) = true, decide (n ≤ f.length) = true, decide ((List.take 1 [c]).length = 1) = true, n + 1 ≤ (f.take n ++ List.take 1 [c]).length]) := by kernel_rfl
abbrev zlT (d e : Bool) (a b i c : Int) (n : Nat) (f : List Int) : St := ⟨sp 97 [(2, .ref 0 0), (4, .ref 2 0), (5, .wd a), (6, .wd b), (7, .own 4 0 n 1), (8, aI c), (31, .wd a), (32, aI (↑((digs a.natAbs).length) : Int)), (33, aI i)], [.flat [.lit (.bool d), .wd a] true, .flat [.lit (.bool e), .wd b] true, .flat [aF, aN] true, .dead, .ints f true], [3]⟩
abbrev zgv (c d : Bool) (a b : Int) : St := ⟨sp 97 [(2, .ref 0 0), (4, .ref 2 0), (5, .wd a), (6, .wd b), (7, .own 3 0 0 1), (8, aI 0), (31, .wd a), (32, aI (↑((digs a.natAbs).length) : Int)), (33, aI 0)], [.flat [.lit (.bool c), .wd a] true, .flat [.lit (.bool d), .wd b] true, .flat [aF, aN] true, .ints [] true], [3]⟩
theorem plA_3 (d e : Bool) (a b i c : Int) (n : Nat) (f : List Int) : zaf (dZ Tryz.prog zhD bw) 60 108 [.agg [.lit (.bool d), .wd a], .agg [.lit (.bool e), .wd b]] [true, false, false] [some (wZ Tryz.prog (eZ Tryz.prog 108 0) [] [2,4,5,6,7,8,31,32,33] [3] (PZ d e a b a b) (.exit 0, PR d e a b a b i c n f))] = some (.agg [.lit (.bool d), .sq (f.take n)], [(d == e) = true, decide ((↑((digs a.natAbs).length) : Int) < (↑((digs b.natAbs).length) : Int)) = false, inR .i64 ((↑((digs a.natAbs).length) : Int) + 1) = true, true = true, decide (0 ≤ (↑((digs a.natAbs).length) : Int) + 1) = true, decide (8 * ((↑((digs a.natAbs).length) : Int) + 1) ≤ 281474976710656) = true, decide ((↑((digs a.natAbs).length) : Int) + 1 ≤ 9223372036854775807) = true, IZ Tryz.prog (eZ Tryz.prog 108 0) (wZ Tryz.prog (eZ Tryz.prog 108 0) [] [2, 4, 5, 6, 7, 8, 31, 32, 33] [3] (zgv d e a b) (Ex.exit 0, (zlT d e a b i c n f))), (zgv d e a b) = (zgv d e a b), Loops 4 Tryz.prog (eZ Tryz.prog 108 0) (zgv d e a b) (Ex.exit 0, (zlT d e a b i c n f)), decide (c > 0) = false, n ≤ f.length]) := by kernel_rfl
abbrev zlU (d e : Bool) (a b i c : Int) (n : Nat) (f : List Int) : St := ⟨sp 97 [(2, .ref 0 0), (4, .ref 2 0), (5, .wd b), (6, .wd a), (7, .own 4 0 n 1), (8, aI c), (31, .wd b), (32, aI (↑((digs b.natAbs).length) : Int)), (33, aI i)], [.flat [.lit (.bool d), .wd a] true, .flat [.lit (.bool e), .wd b] true, .flat [aF, aN] true, .dead, .ints f true], [3]⟩
abbrev zgw (c d : Bool) (a b : Int) : St := ⟨sp 97 [(2, .ref 0 0), (4, .ref 2 0), (5, .wd b), (6, .wd a), (7, .own 3 0 0 1), (8, aI 0), (31, .wd b), (32, aI (↑((digs b.natAbs).length) : Int)), (33, aI 0)], [.flat [.lit (.bool c), .wd a] true, .flat [.lit (.bool d), .wd b] true, .flat [aF, aN] true, .ints [] true], [3]⟩
theorem plB_0 (d e : Bool) (a b i c : Int) (n : Nat) (f : List Int) : zaf (dZ Tryz.prog zhD bw) 60 108 [.agg [.lit (.bool d), .wd a], .agg [.lit (.bool e), .wd b]] [true, true, true] [some (wZ Tryz.prog (eZ Tryz.prog 108 0) [] [2,4,5,6,7,8,31,32,33] [3] (PZ d e a b b a) (.exit 0, PR d e a b b a i c n f))] = some (.agg [.lit (.bool d), .sq ((f.take n ++ List.take 1 [c]).take (n + 1))], [(d == e) = true, decide ((↑((digs a.natAbs).length) : Int) < (↑((digs b.natAbs).length) : Int)) = true, inR .i64 ((↑((digs b.natAbs).length) : Int) + 1) = true, true = true, decide (0 ≤ (↑((digs b.natAbs).length) : Int) + 1) = true, decide (8 * ((↑((digs b.natAbs).length) : Int) + 1) ≤ 281474976710656) = true, decide ((↑((digs b.natAbs).length) : Int) + 1 ≤ 9223372036854775807) = true, IZ Tryz.prog (eZ Tryz.prog 108 0) (wZ Tryz.prog (eZ Tryz.prog 108 0) [] [2, 4, 5, 6, 7, 8, 31, 32, 33] [3] (zgw d e a b) (Ex.exit 0, (zlU d e a b i c n f))), (zgw d e a b) = (zgw d e a b), Loops 4 Tryz.prog (eZ Tryz.prog 108 0) (zgw d e a b) (Ex.exit 0, (zlU d e a b i c n f)), decide (c > 0) = true, decide ((n + 1) * 8 ≤ 140737488355328) = true, decide (n + 1 ≤ 4611686018427387904) = true, decide (n ≤ f.length) = true, decide ((List.take 1 [c]).length = 1) = true, n + 1 ≤ (f.take n ++ List.take 1 [c]).length]) := by kernel_rfl
abbrev zlV (d e : Bool) (a b i c : Int) (n : Nat) (f : List Int) : St := ⟨sp 97 [(2, .ref 0 0), (4, .ref 2 0), (5, .wd b), (6, .wd a), (7, .own 4 0 n 1), (8, aI c), (31, .wd b), (32, aI (↑((digs b.natAbs).length) : Int)), (33, aI i)], [.flat [.lit (.bool d), .wd a] true, .flat [.lit (.bool e), .wd b] true, .flat [aF, aN] true, .dead, .ints f true], [3]⟩
abbrev zgx (c d : Bool) (a b : Int) : St := ⟨sp 97 [(2, .ref 0 0), (4, .ref 2 0), (5, .wd b), (6, .wd a), (7, .own 3 0 0 1), (8, aI 0), (31, .wd b), (32, aI (↑((digs b.natAbs).length) : Int)), (33, aI 0)], [.flat [.lit (.bool c), .wd a] true, .flat [.lit (.bool d), .wd b] true, .flat [aF, aN] true, .ints [] true], [3]⟩
theorem plB_1 (d e : Bool) (a b i c : Int) (n : Nat) (f : List Int) : zaf (dZ Tryz.prog zhD bw) 60 108 [.agg [.lit (.bool d), .wd a], .agg [.lit (.bool e), .wd b]] [true, true, false] [some (wZ Tryz.prog (eZ Tryz.prog 108 0) [] [2,4,5,6,7,8,31,32,33] [3] (PZ d e a b b a) (.exit 0, PR d e a b b a i c n f))] = some (.agg [.lit (.bool d), .sq (f.take n)], [(d == e) = true, decide ((↑((digs a.natAbs).length) : Int) < (↑((digs b.natAbs).length) : Int)) = true, inR .i64 ((↑((digs b.natAbs).length) : Int) + 1) = true, true = true, decide (0 ≤ (↑((digs b.natAbs).length) : Int) + 1) = true, decide (8 * ((↑((digs b.natAbs).length) : Int) + 1) ≤ 281474976710656) = true, decide ((↑((digs b.natAbs).length) : Int) + 1 ≤ 9223372036854775807) = true, IZ Tryz.prog (eZ Tryz.prog 108 0) (wZ Tryz.prog (eZ Tryz.prog 108 0) [] [2, 4, 5, 6, 7, 8, 31, 32, 33] [3] (zgx d e a b) (Ex.exit 0, (zlV d e a b i c n f))), (zgx d e a b) = (zgx d e a b), Loops 4 Tryz.prog (eZ Tryz.prog 108 0) (zgx d e a b) (Ex.exit 0, (zlV d e a b i c n f)), decide (c > 0) = false, n ≤ f.length]) := by kernel_rfl
abbrev zdM (c d : Bool) (a b : Int) : St := ⟨sp 97 [(2, .ref 0 0), (4, .ref 2 0), (5, .wd a), (6, .wd b), (7, .own 3 0 0 1), (8, aI 0), (31, .wd a), (32, aI (↑((digs a.natAbs).length) : Int)), (33, aI 0)], [.flat [.lit (.bool c), .wd a] true, .flat [.lit (.bool d), .wd b] true, .flat [aF, aN] true, .ints [] true], [3]⟩
theorem plO_1 (c d : Bool) (a b : Int) : zaf (dZ Tryz.prog zhD bw) 60 108 [.agg [.lit (.bool c), .wd a], .agg [.lit (.bool d), .wd b]] [true, false, false] [some (wZ Tryz.prog (eZ Tryz.prog 108 0) [] [2,4,5,6,7,8,31,32,33] [3] (PZ c d a b a b) (.exit 0, PZ c d a b a b))] = some (.agg [.lit (.bool c), .sq []], [(c == d) = true, decide ((↑((digs a.natAbs).length) : Int) < (↑((digs b.natAbs).length) : Int)) = false, inR .i64 ((↑((digs a.natAbs).length) : Int) + 1) = true, true = true, decide (0 ≤ (↑((digs a.natAbs).length) : Int) + 1) = true, decide (8 * ((↑((digs a.natAbs).length) : Int) + 1) ≤ 281474976710656) = true, decide ((↑((digs a.natAbs).length) : Int) + 1 ≤ 9223372036854775807) = true, IZ Tryz.prog (eZ Tryz.prog 108 0) (wZ Tryz.prog (eZ Tryz.prog 108 0) [] [2, 4, 5, 6, 7, 8, 31, 32, 33] [3] (zdM c d a b) (Ex.exit 0, (zdM c d a b))), (zdM c d a b) = (zdM c d a b), Loops 4 Tryz.prog (eZ Tryz.prog 108 0) (zdM c d a b) (Ex.exit 0, (zdM c d a b)), false = false, 0 ≤ 0]) := by kernel_rfl
abbrev zi5 (c d : Bool) (a b : Int) : St := ⟨sp 47 [(0, .own 4 0 (digs a.natAbs).length 1), (1, .wd b), (5, aI 0), (7, .own 4 0 (digs a.natAbs).length 1), (8, aI (↑((digs a.natAbs).length) : Int)), (9, aI 0)], [.flat [.lit (.bool c), .wd a] true, .flat [.lit (.bool d), .wd b] true, .flat [aF, aN] true, .dead, .ints (digs a.natAbs) true], [3, 4]⟩
abbrev zlW (c d : Bool) (a b i : Int) (l : List Int) : St := ⟨sp 47 [(0, .own 4 0 (digs a.natAbs).length 1), (1, .wd b), (5, aI 0), (7, .own 4 0 (digs a.natAbs).length 1), (8, aI (↑((digs a.natAbs).length) : Int)), (9, aI i)], [.flat [.lit (.bool c), .wd a] true, .flat [.lit (.bool d), .wd b] true, .flat [aF, aN] true, .dead, .ints l true], [3, 4]⟩
theorem plC_1 (c d : Bool) (a b i : Int) (l : List Int) : zaf (dZ Tryz.prog zhD bw) 60 108 [.agg [.lit (.bool c), .wd a], .agg [.lit (.bool d), .wd b]] [false, false, true] [some (wZ Tryz.prog (eZ Tryz.prog 152 0) [] [0,1,5,7,8,9] [3,4] (PL c d a b b 0 0 (digs a.natAbs).length (digs a.natAbs)) (.exit 0, PL c d a b b 0 i (digs a.natAbs).length l))] = some (.agg [.lit (.bool c), .sq (trm (l.take (digs a.natAbs).length))], [(c == d) = false, pDD a b, (zaV (a.natAbs : Int) (b.natAbs : Int) == 0) = false, (zaV (a.natAbs : Int) (b.natAbs : Int) == 1) = true, (!(digs a.natAbs).isEmpty) = true, decide ((0 + (digs a.natAbs).length) * 8 ≤ 140737488355328) = true, decide (0 + (digs a.natAbs).length ≤ 4611686018427387904) = true, true = true, decide ((digs a.natAbs).length = (digs a.natAbs).length) = true, IZ Tryz.prog (eZ Tryz.prog 152 0) (wZ Tryz.prog (eZ Tryz.prog 152 0) [] [0, 1, 5, 7, 8, 9] [3, 4] (zi5 c d a b) (Ex.exit 0, (zlW c d a b i l))), (⟨sp 47 [(0, .own 4 0 (0 + (digs a.natAbs).length) 1), (1, .wd b), (5, aI 0), (7, .own 4 0 (0 + (digs a.natAbs).length) 1), (8, aI (↑(0 + (digs a.natAbs).length) : Int)), (9, aI 0)], [.flat [.lit (.bool c), .wd a] true, .flat [.lit (.bool d), .wd b] true, .flat [aF, aN] true, .dead, .ints (List.take 0 [] ++ digs a.natAbs) true], [3, 4]⟩ : St) = (zi5 c d a b), Loops 5 Tryz.prog (eZ Tryz.prog 152 0) (zi5 c d a b) (Ex.exit 0, (zlW c d a b i l)), (digs a.natAbs).length ≤ l.length, NZ (l.take (digs a.natAbs).length)]) := by kernel_rfl
abbrev zi6 (c d : Bool) (a b : Int) : St := ⟨sp 47 [(0, .own 4 0 (digs b.natAbs).length 1), (1, .wd a), (5, aI 0), (7, .own 4 0 (digs b.natAbs).length 1), (8, aI (↑((digs b.natAbs).length) : Int)), (9, aI 0)], [.flat [.lit (.bool c), .wd a] true, .flat [.lit (.bool d), .wd b] true, .flat [aF, aN] true, .dead, .ints (digs b.natAbs) true], [3, 4]⟩
abbrev zlX (c d : Bool) (a b i : Int) (l : List Int) : St := ⟨sp 47 [(0, .own 4 0 (digs b.natAbs).length 1), (1, .wd a), (5, aI 0), (7, .own 4 0 (digs b.natAbs).length 1), (8, aI (↑((digs b.natAbs).length) : Int)), (9, aI i)], [.flat [.lit (.bool c), .wd a] true, .flat [.lit (.bool d), .wd b] true, .flat [aF, aN] true, .dead, .ints l true], [3, 4]⟩
theorem plD_2 (c d : Bool) (a b i : Int) (l : List Int) : zaf (dZ Tryz.prog zhD bw) 60 108 [.agg [.lit (.bool c), .wd a], .agg [.lit (.bool d), .wd b]] [false, false, false] [some (wZ Tryz.prog (eZ Tryz.prog 152 0) [] [0,1,5,7,8,9] [3,4] (PL c d a b a 0 0 (digs b.natAbs).length (digs b.natAbs)) (.exit 0, PL c d a b a 0 i (digs b.natAbs).length l))] = some (.agg [.lit (.bool d), .sq (trm (l.take (digs b.natAbs).length))], [(c == d) = false, pDD a b, (zaV (a.natAbs : Int) (b.natAbs : Int) == 0) = false, (zaV (a.natAbs : Int) (b.natAbs : Int) == 1) = false, (!(digs b.natAbs).isEmpty) = true, decide ((0 + (digs b.natAbs).length) * 8 ≤ 140737488355328) = true, decide (0 + (digs b.natAbs).length ≤ 4611686018427387904) = true, true = true, decide ((digs b.natAbs).length = (digs b.natAbs).length) = true, IZ Tryz.prog (eZ Tryz.prog 152 0) (wZ Tryz.prog (eZ Tryz.prog 152 0) [] [0, 1, 5, 7, 8, 9] [3, 4] (zi6 c d a b) (Ex.exit 0, (zlX c d a b i l))), (⟨sp 47 [(0, .own 4 0 (0 + (digs b.natAbs).length) 1), (1, .wd a), (5, aI 0), (7, .own 4 0 (0 + (digs b.natAbs).length) 1), (8, aI (↑(0 + (digs b.natAbs).length) : Int)), (9, aI 0)], [.flat [.lit (.bool c), .wd a] true, .flat [.lit (.bool d), .wd b] true, .flat [aF, aN] true, .dead, .ints (List.take 0 [] ++ digs b.natAbs) true], [3, 4]⟩ : St) = (zi6 c d a b), Loops 5 Tryz.prog (eZ Tryz.prog 152 0) (zi6 c d a b) (Ex.exit 0, (zlX c d a b i l)), (digs b.natAbs).length ≤ l.length, NZ (l.take (digs b.natAbs).length)]) := by kernel_rfl
theorem plN_0 (c d : Bool) (a b : Int) : zaf (dZ Tryz.prog zhD bw) 60 108 [.agg [.lit (.bool c), .wd a], .agg [.lit (.bool d), .wd b]] [false, true] [] = some (.agg [aF, aN], [(c == d) = false, pDD a b, (zaV (a.natAbs : Int) (b.natAbs : Int) == 0) = true]) := by kernel_rfl
theorem zaG (l : List Int) (i : Nat) : vl (l.drop i) = l.getD i 0 + 100000000 * vl (l.drop (i + 1)) := by
  by_cases h : i < l.length
  · rw [List.drop_eq_getElem_cons h]
    simp [vl, List.getD, h]
  · rw [List.drop_eq_nil_of_le (by omega), List.drop_eq_nil_of_le (by omega)]
    simp [vl, List.getD, h]
theorem LZ {l : List Int} (h : Digs l) (i : Nat) : 0 ≤ l.getD i 0 ∧ l.getD i 0 < 100000000 := by
  by_cases hi : i < l.length
  · have : l.getD i 0 = l[i] := by simp [List.getD, hi]
    rw [this]; exact h _ (List.getElem_mem hi)
  · have : l.getD i 0 = 0 := by simp [List.getD, hi]
    rw [this]; omega
theorem zda {l : List Int} (h : Digs l) {d : Int} (h0 : 0 ≤ d) (h1 : d < 100000000) : Digs (l ++ [d]) := by
  intro x hx
  rcases List.mem_append.1 hx with hx | hx
  · exact h x hx
  · simp at hx; subst hx; exact ⟨h0, h1⟩
theorem zif : ∀ {l : List Int}, l.length ≤ (trm l).length → trm l = l
  | [], _ => rfl
  | d :: l, h => by
    simp only [trm] at h ⊢
    split
    · rename_i hc
      rw [if_pos hc] at h
      simp at h
    · rename_i hc
      rw [if_neg hc] at h
      simp only [List.length_cons] at h
      rw [zif (l := l) (by omega)]
theorem tdm {t : Int} (h : 0 ≤ t) : Int.tdiv t 100000000 = t / 100000000 ∧ Int.tmod t 100000000 = t % 100000000 :=
  ⟨Int.tdiv_eq_ediv_of_nonneg h, Int.tmod_eq_emod_of_nonneg h⟩
theorem plusR (na nb : Bool) (a b p q : Int) (hp : zaE p) (hq : zaE q) : ∀ (k : Nat) (out : List Int) (c : Int), (digs p.natAbs).length = out.length + k → Digs out → (c = 0 ∨ c = 1) →
    ∃ (i' c' : Int) (out' : List Int), (c' = 0 ∨ c' = 1) ∧ Digs out' ∧ out'.length = (digs p.natAbs).length ∧
      vl out' + 100000000 ^ out'.length * c' = vl out + 100000000 ^ out.length * (c + (vl ((digs p.natAbs).drop out.length) + vl ((digs q.natAbs).drop out.length))) - 100000000 ^ (digs p.natAbs).length * vl ((digs q.natAbs).drop (digs p.natAbs).length) ∧
      Loops 4 Tryz.prog (eZ Tryz.prog 108 0) (PR na nb a b p q out.length c out.length out) (.exit 0, PR na nb a b p q i' c' out'.length out')
  | 0, out, c, hk, hd, hc => by
    unfold zaE dl at hp hq
    refine ⟨_, c, out, hc, hd, by omega, ?_, Loops.fin (LS.of ok4 (plE_2 na nb a b p q out.length c out.length out) (by (repeat' (first | exact AllC.nil | refine AllC.cons ?_ ?_)); all_goals (first | exact fZ | ((with_reducible refine inR64.2 ?_); omega) | (with_reducible refine pFl ?_ ?_ <;> omega) | ((with_reducible refine decide_eq_true ?_); omega) | ((with_reducible refine decide_eq_false ?_); omega) | omega | (simp [hk] <;> omega) | assumption | rfl))) (by simp [Ex.toExit])⟩
    have e : (digs p.natAbs).length = out.length := by omega
    rw [e, List.drop_eq_nil_of_le (show (digs p.natAbs).length ≤ out.length by omega)]
    simp only [vl, Int.zero_add, Int.mul_add]
    omega
  | k + 1, out, c, hk, hd, hc => by
    have hp' := hp
    have hq' := hq
    unfold zaE dl at hp' hq'
    have hnat : Int.toNat (out.length : Int) = out.length := by omega
    have hx := LZ (pZ p.natAbs) out.length
    have hy := LZ (pZ q.natAbs) out.length
    have hlt : out.length < (digs p.natAbs).length := by omega
    have e0 : out.length + 1 = (out ++ [((digs p.natAbs).getD out.length 0 + c + (digs q.natAbs).getD out.length 0) % 100000000]).length := by simp
    have e2 : (out.length : Int) + 1 = ((out ++ [((digs p.natAbs).getD out.length 0 + c + (digs q.natAbs).getD out.length 0) % 100000000]).length : Nat) := by simp
    have hd2 : Digs (out ++ [((digs p.natAbs).getD out.length 0 + c + (digs q.natAbs).getD out.length 0) % 100000000]) := zda hd (by omega) (by omega)
    have hstep : LS 4 Tryz.prog (eZ Tryz.prog 108 0) (PR na nb a b p q out.length c out.length out)
        (.normal, PR na nb a b p q ((out.length : Int) + 1) (((digs p.natAbs).getD out.length 0 + c + (digs q.natAbs).getD out.length 0) / 100000000) (out.length + 1) (out ++ [((digs p.natAbs).getD out.length 0 + c + (digs q.natAbs).getD out.length 0) % 100000000])) := by
      by_cases hq2 : out.length < (digs q.natAbs).length
      · obtain ⟨t1, t2⟩ := tdm (t := (digs p.natAbs).getD out.length 0 + c + (digs q.natAbs).getD out.length 0) (by omega)
        have h := LS.of ok4 (plR_0 na nb a b p q out.length c out.length out) (by
          rw [hnat, t1]
          exact (by (repeat' (first | exact AllC.nil | refine AllC.cons ?_ ?_)); all_goals (first | exact fZ | ((with_reducible refine inR64.2 ?_); omega) | (with_reducible refine pFl ?_ ?_ <;> omega) | ((with_reducible refine decide_eq_true ?_); omega) | ((with_reducible refine decide_eq_false ?_); omega) | omega | (simp [hlt, hq2] <;> omega) | assumption | rfl)))
        rw [hnat, t1, t2, zcF] at h
        exact h
      · have hz : (digs q.natAbs).getD out.length 0 = 0 := by
          have : ¬ out.length < (digs q.natAbs).length := hq2
          simp [List.getD, this]
        rw [hz, Int.add_zero]
        obtain ⟨t1, t2⟩ := tdm (t := (digs p.natAbs).getD out.length 0 + c) (by omega)
        have h := LS.of ok4 (plR_1 na nb a b p q out.length c out.length out) (by
          rw [hnat, t1]
          exact (by (repeat' (first | exact AllC.nil | refine AllC.cons ?_ ?_)); all_goals (first | exact fZ | ((with_reducible refine inR64.2 ?_); omega) | (with_reducible refine pFl ?_ ?_ <;> omega) | ((with_reducible refine decide_eq_true ?_); omega) | ((with_reducible refine decide_eq_false ?_); omega) | omega | (simp [hlt, hq2] <;> omega) | assumption | rfl)))
        rw [hnat, t1, t2, zcF] at h
        exact h
    rw [e0, e2] at hstep
    obtain ⟨i', c', out', k1, k2, k3, k4, k5⟩ := plusR na nb a b p q hp hq k (out ++ [((digs p.natAbs).getD out.length 0 + c + (digs q.natAbs).getD out.length 0) % 100000000]) (((digs p.natAbs).getD out.length 0 + c + (digs q.natAbs).getD out.length 0) / 100000000)
      (by simp; omega) hd2 (by omega)
    refine ⟨i', c', out', k1, k2, k3, ?_, Loops.go hstep k5⟩
    rw [k4]
    have := zfL out c ((digs p.natAbs).getD out.length 0 + (digs q.natAbs).getD out.length 0) (((digs p.natAbs).getD out.length 0 + c + (digs q.natAbs).getD out.length 0) % 100000000)
      (((digs p.natAbs).getD out.length 0 + c + (digs q.natAbs).getD out.length 0) / 100000000) (vl ((digs p.natAbs).drop (out.length + 1)) + vl ((digs q.natAbs).drop (out.length + 1))) (by omega)
    have e4 : c + (vl ((digs p.natAbs).drop out.length) + vl ((digs q.natAbs).drop out.length)) = c + ((digs p.natAbs).getD out.length 0 + (digs q.natAbs).getD out.length 0 + 100000000 * (vl ((digs p.natAbs).drop (out.length + 1)) + vl ((digs q.natAbs).drop (out.length + 1)))) := by
      rw [zaG (digs p.natAbs) out.length, zaG (digs q.natAbs) out.length]; omega
    rw [e4, ← this]
    simp only [List.length_append, List.length_singleton]
theorem plus0 (na nb : Bool) (a b p q : Int) (hp : zaE p) (hq : zaE q) (hl : (digs q.natAbs).length ≤ (digs p.natAbs).length) (h0 : 0 < (digs p.natAbs).length) :
    ∃ (i' c' : Int) (out' : List Int), (c' = 0 ∨ c' = 1) ∧ Digs out' ∧ out'.length = (digs p.natAbs).length ∧
      vl out' + 100000000 ^ out'.length * c' = (p.natAbs : Int) + (q.natAbs : Int) ∧
      Loops 4 Tryz.prog (eZ Tryz.prog 108 0) (PZ na nb a b p q) (.exit 0, PR na nb a b p q i' c' out'.length out') := by
  have hx := LZ (pZ p.natAbs) 0
  have hy := LZ (pZ q.natAbs) 0
  have hd2 : Digs [((digs p.natAbs).getD 0 0 + 0 + (digs q.natAbs).getD 0 0) % 100000000] := zda (l := []) (fun d hd => by cases hd) (by omega) (by omega)
  have hstep : LS 4 Tryz.prog (eZ Tryz.prog 108 0) (PZ na nb a b p q)
      (.normal, PR na nb a b p q 1 (((digs p.natAbs).getD 0 0 + 0 + (digs q.natAbs).getD 0 0) / 100000000) 1 [((digs p.natAbs).getD 0 0 + 0 + (digs q.natAbs).getD 0 0) % 100000000]) := by
    by_cases hq2 : 0 < (digs q.natAbs).length
    · obtain ⟨t1, t2⟩ := tdm (t := (digs p.natAbs).getD 0 0 + 0 + (digs q.natAbs).getD 0 0) (by omega)
      have h := LS.of ok4 (plZ_0 na nb a b p q) (by
        rw [t1]
        exact (by (repeat' (first | exact AllC.nil | refine AllC.cons ?_ ?_)); all_goals (first | exact fZ | ((with_reducible refine inR64.2 ?_); omega) | (with_reducible refine pFl ?_ ?_ <;> omega) | ((with_reducible refine decide_eq_true ?_); omega) | ((with_reducible refine decide_eq_false ?_); omega) | omega | (simp [h0, hq2] <;> omega) | assumption | rfl)))
      rw [t1, t2] at h
      exact h
    · have hz : (digs q.natAbs).getD 0 0 = 0 := by simp [List.getD, hq2]
      rw [hz, Int.add_zero]
      obtain ⟨t1, t2⟩ := tdm (t := (digs p.natAbs).getD 0 0 + 0) (by omega)
      have h := LS.of ok4 (plZ_1 na nb a b p q) (by
        rw [t1]
        exact (by (repeat' (first | exact AllC.nil | refine AllC.cons ?_ ?_)); all_goals (first | exact fZ | ((with_reducible refine inR64.2 ?_); omega) | (with_reducible refine pFl ?_ ?_ <;> omega) | ((with_reducible refine decide_eq_true ?_); omega) | ((with_reducible refine decide_eq_false ?_); omega) | omega | (simp [h0, hq2] <;> omega) | assumption | rfl)))
      rw [t1, t2] at h
      exact h
  obtain ⟨i', c', out', k1, k2, k3, k4, k5⟩ := plusR na nb a b p q hp hq ((digs p.natAbs).length - 1) [((digs p.natAbs).getD 0 0 + 0 + (digs q.natAbs).getD 0 0) % 100000000] (((digs p.natAbs).getD 0 0 + 0 + (digs q.natAbs).getD 0 0) / 100000000) (by simp; omega) hd2 (by omega)
  refine ⟨i', c', out', k1, k2, k3, ?_, Loops.go hstep k5⟩
  rw [k4, List.drop_eq_nil_of_le hl]
  have e1 := zaG (digs p.natAbs) 0
  have e2 := zaG (digs q.natAbs) 0
  rw [List.drop_zero, zae, Nat.zero_add] at e1 e2
  simp only [vl, List.length_singleton, Int.pow_succ, Int.pow_zero]
  omega
theorem lessL (na nb : Bool) (a b q : Int) (n : Nat) (hn : n ≤ 1048576) (hq : (digs q.natAbs).length ≤ n) : ∀ (suf pre : List Int) (bo : Int), (bo = 0 ∨ bo = 1) → Digs pre → Digs suf → n = pre.length + suf.length →
    ∃ (pre' : List Int) (bo' : Int), Digs pre' ∧ pre'.length = n ∧ (bo' = 0 ∨ bo' = 1) ∧ vl pre' - 100000000 ^ n * bo' = vl pre + 100000000 ^ pre.length * (vl suf - bo - vl ((digs q.natAbs).drop pre.length)) ∧
      Loops 5 Tryz.prog (eZ Tryz.prog 152 0) (PL na nb a b q bo pre.length n (pre ++ suf)) (.exit 0, PL na nb a b q bo' n n pre')
  | [], pre, bo, hb, hp, hs, hk => by
    simp only [List.length_nil, Nat.add_zero] at hk
    subst hk
    refine ⟨pre, bo, hp, rfl, hb, ?_, ?_⟩
    · rw [List.drop_eq_nil_of_le hq]
      simp only [vl, Int.sub_zero, Int.zero_sub, Int.mul_neg]
      omega
    · rw [List.append_nil]
      exact Loops.fin (LS.of ok4 (leL_4 na nb a b q bo pre.length pre.length pre) (by (repeat' (first | exact AllC.nil | refine AllC.cons ?_ ?_)); all_goals (first | exact fZ | ((with_reducible refine inR64.2 ?_); omega) | (with_reducible refine pFl ?_ ?_ <;> omega) | ((with_reducible refine decide_eq_true ?_); omega) | ((with_reducible refine decide_eq_false ?_); omega) | omega | (simp [] <;> omega) | assumption | rfl))) (by simp [Ex.toExit])
  | s :: suf, pre, bo, hb, hp, hs, hk => by
    have hs0 := hs s (by simp)
    have hsf : Digs suf := fun d hd => hs d (by simp [hd])
    have hkk : 0 + Int.toNat (pre.length : Int) * 1 = pre.length := by omega
    have hnat : Int.toNat (pre.length : Int) = pre.length := by omega
    have hy := LZ (pZ q.natAbs) pre.length
    simp only [List.length_cons] at hk
    have main : ∀ (dg bo1 : Int), (bo1 = 0 ∨ bo1 = 1) → 0 ≤ dg → dg < 100000000 → dg - 100000000 * bo1 = s - bo - (digs q.natAbs).getD pre.length 0 →
        LS 5 Tryz.prog (eZ Tryz.prog 152 0) (PL na nb a b q bo pre.length n (pre ++ s :: suf)) (.normal, PL na nb a b q bo1 ((pre.length : Int) + 1) n (pre ++ dg :: suf)) →
        ∃ (pre' : List Int) (bo' : Int), Digs pre' ∧ pre'.length = n ∧ (bo' = 0 ∨ bo' = 1) ∧ vl pre' - 100000000 ^ n * bo' = vl pre + 100000000 ^ pre.length * (vl (s :: suf) - bo - vl ((digs q.natAbs).drop pre.length)) ∧
          Loops 5 Tryz.prog (eZ Tryz.prog 152 0) (PL na nb a b q bo pre.length n (pre ++ s :: suf)) (.exit 0, PL na nb a b q bo' n n pre') := by
      intro dg bo1 h1 h2 h3 h4 h
      have e : pre ++ dg :: suf = (pre ++ [dg]) ++ suf := by simp
      have e2 : (pre.length : Int) + 1 = ((pre ++ [dg]).length : Nat) := by simp
      rw [e, e2] at h
      obtain ⟨pre', bo', k1, k2, k3, k4, k5⟩ := lessL na nb a b q n hn hq suf (pre ++ [dg]) bo1 h1 (zda hp h2 h3) hsf (by simp; omega)
      refine ⟨pre', bo', k1, k2, k3, ?_, Loops.go h k5⟩
      rw [k4, zbU, List.length_append, List.length_singleton, Int.pow_succ, zaG (digs q.natAbs) pre.length]
      simp only [vl]
      have e3 : s + 100000000 * vl suf - bo - ((digs q.natAbs).getD pre.length 0 + 100000000 * vl ((digs q.natAbs).drop (pre.length + 1))) =
          dg + 100000000 * (vl suf - bo1 - vl ((digs q.natAbs).drop (pre.length + 1))) := by omega
      rw [e3, alg1, Int.add_assoc]
    by_cases hq2 : pre.length < (digs q.natAbs).length
    · by_cases hneg : s - bo - (digs q.natAbs).getD pre.length 0 < 0
      · have h := LS.of ok4 (leL_0 na nb a b q bo pre.length n (pre ++ s :: suf)) (by
          simp only [hnat, Nat.zero_add, Nat.mul_one, zaj, za6]
          exact (by (repeat' (first | exact AllC.nil | refine AllC.cons ?_ ?_)); all_goals (first | exact fZ | ((with_reducible refine inR64.2 ?_); omega) | (with_reducible refine pFl ?_ ?_ <;> omega) | ((with_reducible refine decide_eq_true ?_); omega) | ((with_reducible refine decide_eq_false ?_); omega) | omega | (simp [hneg, hk, hq2] <;> omega) | assumption | rfl)))
        simp only [hnat, Nat.zero_add, Nat.mul_one, zaj, za6] at h
        exact main _ 1 (.inr rfl) (by omega) (by omega) (by omega) h
      · have h := LS.of ok4 (leL_1 na nb a b q bo pre.length n (pre ++ s :: suf)) (by
          simp only [hnat, Nat.zero_add, Nat.mul_one, zaj, za6]
          exact (by (repeat' (first | exact AllC.nil | refine AllC.cons ?_ ?_)); all_goals (first | exact fZ | ((with_reducible refine inR64.2 ?_); omega) | (with_reducible refine pFl ?_ ?_ <;> omega) | ((with_reducible refine decide_eq_true ?_); omega) | ((with_reducible refine decide_eq_false ?_); omega) | omega | (simp [hneg, hk, hq2] <;> omega) | assumption | rfl)))
        simp only [hnat, Nat.zero_add, Nat.mul_one, zaj, za6] at h
        exact main _ 0 (.inl rfl) (by omega) (by omega) (by omega) h
    · have hz : (digs q.natAbs).getD pre.length 0 = 0 := by simp [List.getD, hq2]
      by_cases hneg : s - bo < 0
      · have h := LS.of ok4 (leL_2 na nb a b q bo pre.length n (pre ++ s :: suf)) (by
          simp only [hnat, Nat.zero_add, Nat.mul_one, zaj, za6]
          exact (by (repeat' (first | exact AllC.nil | refine AllC.cons ?_ ?_)); all_goals (first | exact fZ | ((with_reducible refine inR64.2 ?_); omega) | (with_reducible refine pFl ?_ ?_ <;> omega) | ((with_reducible refine decide_eq_true ?_); omega) | ((with_reducible refine decide_eq_false ?_); omega) | omega | (simp [hneg, hk, hq2] <;> omega) | assumption | rfl)))
        simp only [hnat, Nat.zero_add, Nat.mul_one, zaj, za6] at h
        exact main _ 1 (.inr rfl) (by omega) (by omega) (by omega) h
      · have h := LS.of ok4 (leL_3 na nb a b q bo pre.length n (pre ++ s :: suf)) (by
          simp only [hnat, Nat.zero_add, Nat.mul_one, zaj, za6]
          exact (by (repeat' (first | exact AllC.nil | refine AllC.cons ?_ ?_)); all_goals (first | exact fZ | ((with_reducible refine inR64.2 ?_); omega) | (with_reducible refine pFl ?_ ?_ <;> omega) | ((with_reducible refine decide_eq_true ?_); omega) | ((with_reducible refine decide_eq_false ?_); omega) | omega | (simp [hneg, hk, hq2] <;> omega) | assumption | rfl)))
        simp only [hnat, Nat.zero_add, Nat.mul_one, zaj, za6] at h
        exact main _ 0 (.inl rfl) (by omega) (by omega) (by omega) h
theorem zgP {out : List Int} {m n : Nat} (hd : Digs out) (hv : vl out = (n : Int)) (hl : out.length = (digs m).length) (hmn : m ≤ n) : out = digs n := by
  have h1 := zaO hd
  rw [hv, Int.toNat_natCast] at h1
  have h2 : (digs m).length ≤ (digs n).length := by
    rcases Nat.lt_or_ge (digs n).length (digs m).length with h | h
    · have := zcu h; omega
    · exact h
  rw [← h1]
  exact (zif (by rw [h1]; omega)).symm
theorem zdq (a b : Int) (ha : zaE a) (hb : zaE b) (hs : decide (a < 0) = decide (b < 0)) (nb : Bool) (hnb : nb = decide (a < 0)) (l : List Int) (hl : l = digs (a.natAbs + b.natAbs)) :
    ∀ (E : Env) (v : Value), Rd E (.agg [.lit (.bool nb), .sq l]) v → Rd E (W (a + b)) v := by
  intro E v h
  have hs' : (a < 0) ↔ (b < 0) := by simpa using hs
  refine h.toW (b := nb) rfl rfl ?_ ?_
  · rw [hnb, decide_eq_decide]; omega
  · rw [hl]; congr 1; omega
theorem plus_fc (a b : Int) (h : pDD a b) : FC Tryz.prog 108 [W a, W b] (W (a + b)) := by
  obtain ⟨ha, hb⟩ := h
  have ha' := ha
  have hb' := hb
  unfold zaE dl at ha' hb'
  by_cases hs : decide (a < 0) = decide (b < 0)
  · have hbe : (decide (a < 0) == decide (b < 0)) = true := by simpa using hs
    by_cases hl : (digs a.natAbs).length < (digs b.natAbs).length
    · -- the second one is longer
      obtain ⟨i', c', out, k1, k2, k3, k4, k5⟩ := plus0 (decide (a < 0)) (decide (b < 0)) a b b a hb ha (by omega) (by omega)
      rcases k1 with rfl | rfl
      · have := jZ ok4 (plB_1 (decide (a < 0)) (decide (b < 0)) a b i' 0 out.length out) (by (repeat' (first | exact AllC.nil | refine AllC.cons ?_ ?_)); all_goals (first | exact fZ | ((with_reducible refine inR64.2 ?_); omega) | (with_reducible refine pFl ?_ ?_ <;> omega) | ((with_reducible refine decide_eq_true ?_); omega) | ((with_reducible refine decide_eq_false ?_); omega) | omega | (simp [hbe, hl] <;> omega) | assumption | rfl))
        rw [zaN] at this
        refine this.res (zdq a b ha hb hs _ rfl out ?_)
        exact zgP (m := b.natAbs) (n := a.natAbs + b.natAbs) k2 (by rw [Int.mul_zero] at k4; omega) k3 (by omega)
      · have := jZ ok4 (plB_0 (decide (a < 0)) (decide (b < 0)) a b i' 1 out.length out) (by (repeat' (first | exact AllC.nil | refine AllC.cons ?_ ?_)); all_goals (first | exact fZ | ((with_reducible refine inR64.2 ?_); omega) | (with_reducible refine pFl ?_ ?_ <;> omega) | ((with_reducible refine decide_eq_true ?_); omega) | ((with_reducible refine decide_eq_false ?_); omega) | omega | (simp [hbe, hl] <;> omega) | assumption | rfl))
        have e : List.take (out.length + 1) (List.take out.length out ++ List.take 1 [1]) = out ++ [1] := by
          rw [zcF]; exact List.take_of_length_le (by simp)
        rw [e] at this
        refine this.res (zdq a b ha hb hs _ rfl _ ?_)
        have hv : vl (out ++ [1]) = ((a.natAbs + b.natAbs : Nat) : Int) := by rw [zbU]; omega
        have := zkN (zda k2 (d := 1) (by omega) (by omega)) (zc2 out 1 (by decide))
        rw [hv, Int.toNat_natCast] at this
        exact this.symm
    · by_cases h0 : 0 < (digs a.natAbs).length
      · obtain ⟨i', c', out, k1, k2, k3, k4, k5⟩ := plus0 (decide (a < 0)) (decide (b < 0)) a b a b ha hb (by omega) h0
        rcases k1 with rfl | rfl
        · have := jZ ok4 (plA_3 (decide (a < 0)) (decide (b < 0)) a b i' 0 out.length out) (by (repeat' (first | exact AllC.nil | refine AllC.cons ?_ ?_)); all_goals (first | exact fZ | ((with_reducible refine inR64.2 ?_); omega) | (with_reducible refine pFl ?_ ?_ <;> omega) | ((with_reducible refine decide_eq_true ?_); omega) | ((with_reducible refine decide_eq_false ?_); omega) | omega | (simp [hbe, hl] <;> omega) | assumption | rfl))
          rw [zaN] at this
          refine this.res (zdq a b ha hb hs _ rfl out ?_)
          exact zgP (m := a.natAbs) (n := a.natAbs + b.natAbs) k2 (by rw [Int.mul_zero] at k4; omega) k3 (by omega)
        · have := jZ ok4 (plA_2 (decide (a < 0)) (decide (b < 0)) a b i' 1 out.length out) (by (repeat' (first | exact AllC.nil | refine AllC.cons ?_ ?_)); all_goals (first | exact fZ | ((with_reducible refine inR64.2 ?_); omega) | (with_reducible refine pFl ?_ ?_ <;> omega) | ((with_reducible refine decide_eq_true ?_); omega) | ((with_reducible refine decide_eq_false ?_); omega) | omega | (simp [hbe, hl] <;> omega) | assumption | rfl))
          have e : List.take (out.length + 1) (List.take out.length out ++ List.take 1 [1]) = out ++ [1] := by
            rw [zcF]; exact List.take_of_length_le (by simp)
          rw [e] at this
          refine this.res (zdq a b ha hb hs _ rfl _ ?_)
          have hv : vl (out ++ [1]) = ((a.natAbs + b.natAbs : Nat) : Int) := by rw [zbU]; omega
          have := zkN (zda k2 (d := 1) (by omega) (by omega)) (zc2 out 1 (by decide))
          rw [hv, Int.toNat_natCast] at this
          exact this.symm
      · have ea : a.natAbs = 0 := (zbY _).1 (List.eq_nil_of_length_eq_zero (by omega))
        have eb : b.natAbs = 0 := (zbY _).1 (List.eq_nil_of_length_eq_zero (by omega))
        have hL := Loops.fin (LS.of ok4 (plX_2 (decide (a < 0)) (decide (b < 0)) a b a b) (by (repeat' (first | exact AllC.nil | refine AllC.cons ?_ ?_)); all_goals (first | exact fZ | ((with_reducible refine inR64.2 ?_); omega) | (with_reducible refine pFl ?_ ?_ <;> omega) | ((with_reducible refine decide_eq_true ?_); omega) | ((with_reducible refine decide_eq_false ?_); omega) | omega | (simp [h0] <;> omega) | assumption | rfl))) (by simp [Ex.toExit])
        have := jZ ok4 (plO_1 (decide (a < 0)) (decide (b < 0)) a b) (by (repeat' (first | exact AllC.nil | refine AllC.cons ?_ ?_)); all_goals (first | exact fZ | ((with_reducible refine inR64.2 ?_); omega) | (with_reducible refine pFl ?_ ?_ <;> omega) | ((with_reducible refine decide_eq_true ?_); omega) | ((with_reducible refine decide_eq_false ?_); omega) | omega | (simp [hbe, hl] <;> omega) | assumption | rfl))
        refine this.res (zdq a b ha hb hs _ rfl _ ?_)
        rw [ea, eb]; rfl
  · have hbe : (decide (a < 0) == decide (b < 0)) = false := by
      cases h1 : decide (a < 0) <;> cases h2 : decide (b < 0) <;> simp_all
    have hs' : ¬ ((a < 0) ↔ (b < 0)) := by simpa using hs
    rcases Nat.lt_trichotomy a.natAbs b.natAbs with hlt | heq | hgt
    · -- the second one is greater
      obtain ⟨out, bo, k1, k2, k3, k4, k5⟩ := lessL (decide (a < 0)) (decide (b < 0)) a b a (digs b.natAbs).length hb' (by
        rcases Nat.lt_or_ge (digs b.natAbs).length (digs a.natAbs).length with h | h
        · have := zcu h; omega
        · exact h) (digs b.natAbs) [] 0 (.inl rfl) (fun d hd => by cases hd) (pZ _) (by simp)
      simp only [List.length_nil, List.nil_append, vl, Int.pow_zero, Int.one_mul, Int.zero_add, List.drop_zero, zae, Int.sub_zero] at k4 k5
      have hv := zfK k1
      rw [k2] at hv
      have hbo : bo = 0 := by
        rcases k3 with h | h
        · exact h
        · subst h; omega
      subst hbo
      have hcmp : zaV (a.natAbs : Int) (b.natAbs : Int) = -1 := by unfold zaV; rw [if_pos (by omega)]
      have hbn : b ≠ 0 := by omega
      have hne := zeq hbn
      have k5' : Loops 5 Tryz.prog (eZ Tryz.prog 152 0) (PL (decide (a < 0)) (decide (b < 0)) a b a 0 0 (digs b.natAbs).length (digs b.natAbs)) (.exit 0, PL (decide (a < 0)) (decide (b < 0)) a b a 0 ((digs b.natAbs).length : Int) (digs b.natAbs).length out) := k5
      have hP : pDD a b := ⟨ha, hb⟩
      have ht : List.take (digs b.natAbs).length out = out := by rw [← k2, zaN]
      have := jZ ok4 (plD_2 (decide (a < 0)) (decide (b < 0)) a b ((digs b.natAbs).length : Int) out) (by
        rw [hcmp, ht]
        simp only [Nat.zero_add, List.take_zero, List.nil_append]
        exact (by (repeat' (first | exact AllC.nil | refine AllC.cons ?_ ?_)); all_goals (first | exact fZ | ((with_reducible refine inR64.2 ?_); omega) | (with_reducible refine pFl ?_ ?_ <;> omega) | ((with_reducible refine decide_eq_true ?_); omega) | ((with_reducible refine decide_eq_false ?_); omega) | omega | (simp [hbe, hne, NZ] <;> omega) | assumption | rfl)))
      rw [ht] at this
      refine this.res fun E v h => h.toW (b := decide (b < 0)) rfl rfl ?_ ?_
      · rw [decide_eq_decide]; omega
      · rw [zaO k1]; congr 1; omega
    · have := jZ ok4 (plN_0 (decide (a < 0)) (decide (b < 0)) a b) (by
        have hP : pDD a b := ⟨ha, hb⟩
        have hcmp : zaV (a.natAbs : Int) (b.natAbs : Int) = 0 := by unfold zaV; rw [if_neg (by omega), if_neg (by omega)]
        rw [hcmp]
        exact (by (repeat' (first | exact AllC.nil | refine AllC.cons ?_ ?_)); all_goals (first | exact fZ | ((with_reducible refine inR64.2 ?_); omega) | (with_reducible refine pFl ?_ ?_ <;> omega) | ((with_reducible refine decide_eq_true ?_); omega) | ((with_reducible refine decide_eq_false ?_); omega) | omega | (simp [hbe] <;> omega) | assumption | rfl)))
      refine this.res fun E v h => h.toW (b := false) (l := []) rfl rfl ?_ ?_
      · simp; omega
      · rw [show (a + b).natAbs = 0 by omega]; rfl
    · obtain ⟨out, bo, k1, k2, k3, k4, k5⟩ := lessL (decide (a < 0)) (decide (b < 0)) a b b (digs a.natAbs).length ha' (by
        rcases Nat.lt_or_ge (digs a.natAbs).length (digs b.natAbs).length with h | h
        · have := zcu h; omega
        · exact h) (digs a.natAbs) [] 0 (.inl rfl) (fun d hd => by cases hd) (pZ _) (by simp)
      simp only [List.length_nil, List.nil_append, vl, Int.pow_zero, Int.one_mul, Int.zero_add, List.drop_zero, zae, Int.sub_zero] at k4 k5
      have hv := zfK k1
      rw [k2] at hv
      have hbo : bo = 0 := by
        rcases k3 with h | h
        · exact h
        · subst h; omega
      subst hbo
      have hcmp : zaV (a.natAbs : Int) (b.natAbs : Int) = 1 := by unfold zaV; rw [if_neg (by omega), if_pos (by omega)]
      have hbn : a ≠ 0 := by omega
      have hne := zeq hbn
      have k5' : Loops 5 Tryz.prog (eZ Tryz.prog 152 0) (PL (decide (a < 0)) (decide (b < 0)) a b b 0 0 (digs a.natAbs).length (digs a.natAbs)) (.exit 0, PL (decide (a < 0)) (decide (b < 0)) a b b 0 ((digs a.natAbs).length : Int) (digs a.natAbs).length out) := k5
      have hP : pDD a b := ⟨ha, hb⟩
      have ht : List.take (digs a.natAbs).length out = out := by rw [← k2, zaN]
      have := jZ ok4 (plC_1 (decide (a < 0)) (decide (b < 0)) a b ((digs a.natAbs).length : Int) out) (by
        rw [hcmp, ht]
        simp only [Nat.zero_add, List.take_zero, List.nil_append]
        exact (by (repeat' (first | exact AllC.nil | refine AllC.cons ?_ ?_)); all_goals (first | exact fZ | ((with_reducible refine inR64.2 ?_); omega) | (with_reducible refine pFl ?_ ?_ <;> omega) | ((with_reducible refine decide_eq_true ?_); omega) | ((with_reducible refine decide_eq_false ?_); omega) | omega | (simp [hbe, hne, NZ] <;> omega) | assumption | rfl)))
      rw [ht] at this
      refine this.res fun E v h => h.toW (b := decide (a < 0)) rfl rfl ?_ ?_
      · rw [decide_eq_decide]; omega
      · rw [zaO k1]; congr 1; omega
def ctr5 : Ctr := (108, c2 pDD (fun a b => W (a + b))) :: zhD
theorem zls : ∀ p ∈ ctr5, tZ Tryz.prog p.1 p.2 := CAll.cons (c2_ok plus_fc) zlr
theorem ok5 : (dZ Tryz.prog ctr5 bw).OK := QZ zls
end Go.Proofs.YtloaeinogiplbaaGreatDoor
end
section
open Go Go.Ev
namespace Go.Proofs.YtloaeinogiplbaaGreatDoor
open Go.Proofs
abbrev TO (c d : Bool) (a b i : Int) (n : Nat) (l : List Int) : St := ⟨sp 86 [(2, .ref 0 0), (3, .ref 1 0), (4, .ref 2 0), (5, .own 3 0 n 1), (32, .wd a), (33, .lit (.int .i64 ((digs a.natAbs).length : Int))), (34, .lit (.int .i64 i))], [.flat [.lit (.bool c), .wd a] true, .flat [.lit (.bool d), .wd b] true, .flat [.lit (.bool false), .lit (.slice none 0 0)] true, .ints l true], [3]⟩
abbrev TN (e f : Bool) (a b i d c k : Int) (n : Nat) (l : List Int) : St := ⟨sp 86 [(2, .ref 0 0), (3, .ref 1 0), (4, .ref 2 0), (5, .own 3 0 n 1), (6, .lit (.int .i64 i)), (7, .lit (.int .i64 d)), (8, .lit (.int .i64 c)), (32, .wd a), (33, .lit (.int .i64 ((digs a.natAbs).length : Int))), (34, .lit (.int .i64 i)), (40, .wd b), (41, .lit (.int .i64 ((digs b.natAbs).length : Int))), (42, .lit (.int .i64 k))], [.flat [.lit (.bool e), .wd a] true, .flat [.lit (.bool f), .wd b] true, .flat [.lit (.bool false), .lit (.slice none 0 0)] true, .ints l true], [3]⟩
end Go.Proofs.YtloaeinogiplbaaGreatDoor
end
section
open Go Go.Ev Go.RowKit
namespace Go.Proofs.YtloaeinogiplbaaGreatDoor
open Go.Proofs
set_option maxRecDepth 100000
set_option maxHeartbeats 1000000
set_option linter.unusedVariables false
set_option linter.unusedSimpArgs false
theorem tiL_0 (e f : Bool) (a b i d c k : Int) (n : Nat) (l : List Int) : za3 (dZ Tryz.prog ctr5 bw) 60 (eZ Tryz.prog 107 1) 4 [] [2, 3, 4, 5, 6, 7, 8, 32, 33, 34, 40, 41, 42] [3] (TN e f a b i d c k n l) [true] [] = some (Ex.normal, ⟨sp 86 [(2, .ref 0 0), (3, .ref 1 0), (4, .ref 2 0), (5, .own 3 0 n 1), (6, aI i), (7, aI d), (8, aI (Int.tdiv (l.getD (0 + (i + k).toNat * 1) 0 + d * (digs b.natAbs).getD k.toNat 0 + c) 100000000)), (32, .wd a), (33, aI (↑((digs a.natAbs).length) : Int)), (34, aI i), (40, .wd b), (41, aI (↑((digs b.natAbs).length) : Int)), (42, aI (k + 1))], [.flat [.lit (.bool e), .wd a] true, .flat [.lit (.bool f), .wd b] true, .flat [aF, aN] true, .ints (l.set (0 + (i + k).toNat * 1) (Int.tmod (l.getD (0 + (i + k).toNat * 1) 0 + d * (digs b.natAbs).getD k.toNat 0 + c) 100000000)) true], [3]⟩, [decide (k < (↑((digs b.natAbs).length) : Int)) = true, decide (0 ≤ k) = true, decide (k < (↑((digs b.natAbs).length) : Int)) = true, decide (k.toNat < (digs b.natAbs).length) = true, inR .i64 (i + k) = true, decide (0 ≤ i + k) = true, decide (i + k < (n : Int)) = true, decide (0 + (i + k).toNat * 1 < l.length) = true, inR .i64 (d * (digs b.natAbs).getD k.toNat 0) = true, inR .i64 (l.getD (0 + (i + k).toNat * 1) 0 + d * (digs b.natAbs).getD k.toNat 0) = true, inR .i64 (l.getD (0 + (i + k).toNat * 1) 0 + d * (digs b.natAbs).getD k.toNat 0 + c) = true, inR .i64 (i + k) = true, true = true, true = true, inR .i64 (Int.tdiv (l.getD (0 + (i + k).toNat * 1) 0 + d * (digs b.natAbs).getD k.toNat 0 + c) 100000000) = true, decide (0 ≤ i + k) = true, decide (i + k < (n : Int)) = true, decide (0 + (i + k).toNat * 1 < l.length) = true, inR .i64 (k + 1) = true]) := by kernel_rfl
theorem tiL_1 (e f : Bool) (a b i d c k : Int) (n : Nat) (l : List Int) : za3 (dZ Tryz.prog ctr5 bw) 60 (eZ Tryz.prog 107 1) 4 [] [2, 3, 4, 5, 6, 7, 8, 32, 33, 34, 40, 41, 42] [3] (TN e f a b i d c k n l) [false] [] = some (Ex.exit 2, ⟨sp 86 [(2, .ref 0 0), (3, .ref 1 0), (4, .ref 2 0), (5, .own 3 0 n 1), (6, aI i), (7, aI d), (8, aI c), (32, .wd a), (33, aI (↑((digs a.natAbs).length) : Int)), (34, aI i), (40, .wd b), (41, aI (↑((digs b.natAbs).length) : Int)), (42, aI k)], [.flat [.lit (.bool e), .wd a] true, .flat [.lit (.bool f), .wd b] true, .flat [aF, aN] true, .ints l true], [3]⟩, [decide (k < (↑((digs b.natAbs).length) : Int)) = false]) := by kernel_rfl
abbrev zmp (d e : Bool) (a b i c k : Int) (n : Nat) (f : List Int) : St := ⟨sp 86 [(2, .ref 0 0), (3, .ref 1 0), (4, .ref 2 0), (5, .own 3 0 n 1), (6, aI i), (7, aI ((digs a.natAbs).getD i.toNat 0)), (8, aI c), (32, .wd a), (33, aI (↑((digs a.natAbs).length) : Int)), (34, aI i), (40, .wd b), (41, aI (↑((digs b.natAbs).length) : Int)), (42, aI k)], [.flat [.lit (.bool d), .wd a] true, .flat [.lit (.bool e), .wd b] true, .flat [aF, aN] true, .ints f true], [3]⟩
abbrev zgK (c d : Bool) (a b i : Int) (n : Nat) (l : List Int) : St := ⟨sp 86 [(2, .ref 0 0), (3, .ref 1 0), (4, .ref 2 0), (5, .own 3 0 n 1), (6, aI i), (7, aI ((digs a.natAbs).getD i.toNat 0)), (8, aI 0), (32, .wd a), (33, aI (↑((digs a.natAbs).length) : Int)), (34, aI i), (40, .wd b), (41, aI (↑((digs b.natAbs).length) : Int)), (42, aI 0)], [.flat [.lit (.bool c), .wd a] true, .flat [.lit (.bool d), .wd b] true, .flat [aF, aN] true, .ints l true], [3]⟩
theorem toL_0 (d e : Bool) (a b i c k : Int) (n : Nat) (l f : List Int) : za3 (dZ Tryz.prog ctr5 bw) 60 (eZ Tryz.prog 107 0) 4 [] [2, 3, 4, 5, 32, 33, 34] [3] (TO d e a b i n l) [true] [some (wZ Tryz.prog (eZ Tryz.prog 107 1) [] [2,3,4,5,6,7,8,32,33,34,40,41,42] [3] (TN d e a b i ((digs a.natAbs).getD i.toNat 0) 0 0 n l) (.exit 2, TN d e a b i ((digs a.natAbs).getD i.toNat 0) c k n f))] = some (Ex.normal, ⟨sp 86 [(2, .ref 0 0), (3, .ref 1 0), (4, .ref 2 0), (5, .own 3 0 n 1), (32, .wd a), (33, aI (↑((digs a.natAbs).length) : Int)), (34, aI (i + 1))], [.flat [.lit (.bool d), .wd a] true, .flat [.lit (.bool e), .wd b] true, .flat [aF, aN] true, .ints (f.set (0 + (i + (↑((digs b.natAbs).length) : Int)).toNat * 1) c) true], [3]⟩, [decide (i < (↑((digs a.natAbs).length) : Int)) = true, decide (0 ≤ i) = true, decide (i < (↑((digs a.natAbs).length) : Int)) = true, decide (i.toNat < (digs a.natAbs).length) = true, IZ Tryz.prog (eZ Tryz.prog 107 1) (wZ Tryz.prog (eZ Tryz.prog 107 1) [] [2, 3, 4, 5, 6, 7, 8, 32, 33, 34, 40, 41, 42] [3] (zgK d e a b i n l) (Ex.exit 2, (zmp d e a b i c k n f))), (zgK d e a b i n l) = (zgK d e a b i n l), Loops 4 Tryz.prog (eZ Tryz.prog 107 1) (zgK d e a b i n l) (Ex.exit 2, (zmp d e a b i c k n f)), inR .i64 (i + (↑((digs b.natAbs).length) : Int)) = true, decide (0 ≤ i + (↑((digs b.natAbs).length) : Int)) = true, decide (i + (↑((digs b.natAbs).length) : Int) < (n : Int)) = true, decide (0 + (i + (↑((digs b.natAbs).length) : Int)).toNat * 1 < f.length) = true, inR .i64 (i + 1) = true]) := by kernel_rfl
theorem toE_0 (c d : Bool) (a b i : Int) (n : Nat) (l : List Int) : za3 (dZ Tryz.prog ctr5 bw) 60 (eZ Tryz.prog 107 0) 4 [] [2, 3, 4, 5, 32, 33, 34] [3] (TO c d a b i n l) [false] [] = some (Ex.exit 0, ⟨sp 86 [(2, .ref 0 0), (3, .ref 1 0), (4, .ref 2 0), (5, .own 3 0 n 1), (32, .wd a), (33, aI (↑((digs a.natAbs).length) : Int)), (34, aI i)], [.flat [.lit (.bool c), .wd a] true, .flat [.lit (.bool d), .wd b] true, .flat [aF, aN] true, .ints l true], [3]⟩, [decide (i < (↑((digs a.natAbs).length) : Int)) = false]) := by kernel_rfl
abbrev zjl (c d : Bool) (a b : Int) (n : Nat) : St := ⟨sp 86 [(2, .ref 0 0), (3, .ref 1 0), (4, .ref 2 0), (5, .own 3 0 n 1), (32, .wd a), (33, aI (↑((digs a.natAbs).length) : Int)), (34, aI 0)], [.flat [.lit (.bool c), .wd a] true, .flat [.lit (.bool d), .wd b] true, .flat [aF, aN] true, .ints (List.replicate n 0) true], [3]⟩
abbrev zmn (c d : Bool) (a b i : Int) (n : Nat) (l : List Int) : St := ⟨sp 86 [(2, .ref 0 0), (3, .ref 1 0), (4, .ref 2 0), (5, .own 3 0 n 1), (32, .wd a), (33, aI (↑((digs a.natAbs).length) : Int)), (34, aI i)], [.flat [.lit (.bool c), .wd a] true, .flat [.lit (.bool d), .wd b] true, .flat [aF, aN] true, .ints l true], [3]⟩
theorem tim_2 (c d : Bool) (a b i : Int) (n : Nat) (l : List Int) : zaf (dZ Tryz.prog ctr5 bw) 60 107 [.agg [.lit (.bool c), .wd a], .agg [.lit (.bool d), .wd b]] [false, false] [some (wZ Tryz.prog (eZ Tryz.prog 107 0) [] [2,3,4,5,32,33,34] [3] (TO c d a b 0 n (List.replicate n 0)) (.exit 0, TO c d a b i n l))] = some (.agg [.lit (.bool (!(c == d))), .sq (trm (l.take n))], [((↑((digs a.natAbs).length) : Int) == 0) = false, ((↑((digs b.natAbs).length) : Int) == 0) = false, inR .i64 ((↑((digs a.natAbs).length) : Int) + (↑((digs b.natAbs).length) : Int)) = true, decide (0 ≤ (↑((digs a.natAbs).length) : Int) + (↑((digs b.natAbs).length) : Int)) = true, decide ((↑((digs a.natAbs).length) : Int) + (↑((digs b.natAbs).length) : Int) ≤ (↑((digs a.natAbs).length) : Int) + (↑((digs b.natAbs).length) : Int)) = true, decide (8 * ((↑((digs a.natAbs).length) : Int) + (↑((digs b.natAbs).length) : Int)) ≤ 281474976710656) = true, decide ((↑((digs a.natAbs).length) : Int) + (↑((digs b.natAbs).length) : Int) ≤ 9223372036854775807) = true, IZ Tryz.prog (eZ Tryz.prog 107 0) (wZ Tryz.prog (eZ Tryz.prog 107 0) [] [2, 3, 4, 5, 32, 33, 34] [3] (zjl c d a b n) (Ex.exit 0, (zmn c d a b i n l))), (⟨sp 86 [(2, .ref 0 0), (3, .ref 1 0), (4, .ref 2 0), (5, .own 3 0 ((↑((digs a.natAbs).length) : Int) + (↑((digs b.natAbs).length) : Int)).toNat 1), (32, .wd a), (33, aI (↑((digs a.natAbs).length) : Int)), (34, aI 0)], [.flat [.lit (.bool c), .wd a] true, .flat [.lit (.bool d), .wd b] true, .flat [aF, aN] true, .ints (List.replicate ((↑((digs a.natAbs).length) : Int) + (↑((digs b.natAbs).length) : Int)).toNat 0) true], [3]⟩ : St) = (zjl c d a b n), Loops 4 Tryz.prog (eZ Tryz.prog 107 0) (zjl c d a b n) (Ex.exit 0, (zmn c d a b i n l)), n ≤ l.length, NZ (l.take n)]) := by kernel_rfl
theorem timZ_0 (c d : Bool) (a b : Int) : zaf (dZ Tryz.prog ctr5 bw) 60 107 [.agg [.lit (.bool c), .wd a], .agg [.lit (.bool d), .wd b]] [true] [] = some (.agg [aF, aN], [((↑((digs a.natAbs).length) : Int) == 0) = true]) := by kernel_rfl
theorem timZ_1 (c d : Bool) (a b : Int) : zaf (dZ Tryz.prog ctr5 bw) 60 107 [.agg [.lit (.bool c), .wd a], .agg [.lit (.bool d), .wd b]] [false, true] [] = some (.agg [aF, aN], [((↑((digs a.natAbs).length) : Int) == 0) = false, ((↑((digs b.natAbs).length) : Int) == 0) = true]) := by kernel_rfl
theorem zgc : ∀ (l : List Int) (j : Nat) (v : Int), j < l.length → vl (l.set j v) = vl l + 100000000 ^ j * (v - l.getD j 0)
  | [], j, v, h => by simp at h
  | d :: l, 0, v, h => by simp [vl]; omega
  | d :: l, j + 1, v, h => by
    have := zgc l j v (by simpa using h)
    simp only [List.set_cons_succ, vl, this, List.getD_cons_succ, Int.pow_succ]
    rw [Int.mul_add, ← Int.mul_assoc, Int.mul_comm 100000000 (100000000 ^ j)]
    omega
theorem getD_set_ne (l : List Int) (i j : Nat) (v : Int) (h : i ≠ j) : (l.set j v).getD i 0 = l.getD i 0 := by
  simp [List.getD, List.getElem?_set_ne (Ne.symm h)]
theorem zev {l : List Int} (h : Digs l) (j : Nat) {v : Int} (h0 : 0 ≤ v) (h1 : v < 100000000) : Digs (l.set j v) := by
  intro d hd
  rcases List.mem_or_eq_of_mem_set hd with hd | rfl
  · exact h d hd
  · exact ⟨h0, h1⟩
theorem mul_dig {d y : Int} (h0 : 0 ≤ d) (h1 : d < 100000000) (h2 : 0 ≤ y) (h3 : y < 100000000) : 0 ≤ d * y ∧ d * y ≤ 9999999800000001 := by
  refine ⟨Int.mul_nonneg h0 h2, ?_⟩
  have := Int.mul_le_mul (show d ≤ 99999999 by omega) (show y ≤ 99999999 by omega) h2 (by decide)
  omega
theorem timesI (na nb : Bool) (a b d : Int) (hd0 : 0 ≤ d) (hd1 : d < 100000000) (i n : Nat) (hn : n ≤ 2097152) (hin : i + (digs b.natAbs).length < n) : ∀ (r k : Nat) (l : List Int) (c : Int), k + r = (digs b.natAbs).length → Digs l → 0 ≤ c → c < 100000000 → l.length = n →
    ∃ (l2 : List Int) (c2 : Int), Digs l2 ∧ l2.length = n ∧ 0 ≤ c2 ∧ c2 < 100000000 ∧ vl l2 + 100000000 ^ (i + (digs b.natAbs).length) * c2 = vl l + 100000000 ^ (i + k) * (c + d * vl ((digs b.natAbs).drop k)) ∧
      (∀ j, i + (digs b.natAbs).length ≤ j → l2.getD j 0 = l.getD j 0) ∧
      Loops 4 Tryz.prog (eZ Tryz.prog 107 1) (TN na nb a b i d c k n l) (.exit 2, TN na nb a b i d c2 ((digs b.natAbs).length : Int) n l2)
  | 0, k, l, c, hk, hl, hc0, hc1, hln => by
    obtain rfl : k = (digs b.natAbs).length := by omega
    refine ⟨l, c, hl, hln, hc0, hc1, ?_, fun _ _ => rfl, Loops.fin (LS.of ok5 (tiL_1 na nb a b i d c ((digs b.natAbs).length : Int) n l) (by (repeat' (first | exact AllC.nil | refine AllC.cons ?_ ?_)); all_goals (first | exact fZ | ((with_reducible refine inR64.2 ?_); omega) | (with_reducible refine pFl ?_ ?_ <;> omega) | ((with_reducible refine decide_eq_true ?_); omega) | ((with_reducible refine decide_eq_false ?_); omega) | omega | (simp [] <;> omega) | assumption | rfl))) (by simp [Ex.toExit])⟩
    rw [List.drop_length]; simp [vl]
  | r + 1, k, l, c, hk, hl, hc0, hc1, hln => by
    have hnat : 0 + Int.toNat ((i : Int) + (k : Int)) * 1 = i + k := by omega
    have hkn : Int.toNat (k : Int) = k := by omega
    have hkb : k < (digs b.natAbs).length := by omega
    obtain ⟨hy0, hy1⟩ := LZ (pZ b.natAbs) k
    obtain ⟨hx0, hx1⟩ := LZ hl (i + k)
    obtain ⟨hm0, hm1⟩ := mul_dig hd0 hd1 hy0 hy1
    obtain ⟨t1, t2⟩ := tdm (t := l.getD (i + k) 0 + d * (digs b.natAbs).getD k 0 + c) (by omega)
    have h := LS.of ok5 (tiL_0 na nb a b i d c k n l) (by
      rw [hnat, hkn, t1]
      generalize d * (digs b.natAbs).getD k 0 = m at *
      exact (by (repeat' (first | exact AllC.nil | refine AllC.cons ?_ ?_)); all_goals (first | exact fZ | ((with_reducible refine inR64.2 ?_); omega) | (with_reducible refine pFl ?_ ?_ <;> omega) | ((with_reducible refine decide_eq_true ?_); omega) | ((with_reducible refine decide_eq_false ?_); omega) | omega | (simp [hkb, hln] <;> omega) | assumption | rfl)))
    rw [hnat, hkn, t1, t2] at h
    have hv := zgc l (i + k) ((l.getD (i + k) 0 + d * (digs b.natAbs).getD k 0 + c) % 100000000) (by omega)
    have hdr := zaG (digs b.natAbs) k
    have hD : Digs (l.set (i + k) ((l.getD (i + k) 0 + d * (digs b.natAbs).getD k 0 + c) % 100000000)) := zev hl _ (by omega) (by omega)
    obtain ⟨l2, c2, k1, k2, k3, k4, k5, k6, k7⟩ := timesI na nb a b d hd0 hd1 i n hn hin r (k + 1) (l.set (i + k) ((l.getD (i + k) 0 + d * (digs b.natAbs).getD k 0 + c) % 100000000)) ((l.getD (i + k) 0 + d * (digs b.natAbs).getD k 0 + c) / 100000000)
      (by omega) hD (by omega) (by omega) (by simp; omega)
    have e : ((k + 1 : Nat) : Int) = (k : Int) + 1 := by omega
    rw [e] at k7
    refine ⟨l2, c2, k1, k2, k3, k4, ?_, fun j hj => (k6 j hj).trans (getD_set_ne _ _ _ _ (by omega)), Loops.go h k7⟩
    rw [k5, hv, hdr, ← Nat.add_assoc, Int.pow_succ]
    generalize hT : l.getD (i + k) 0 + d * (digs b.natAbs).getD k 0 + c = t
    have e2 : c + d * ((digs b.natAbs).getD k 0 + 100000000 * vl ((digs b.natAbs).drop (k + 1))) = (t % 100000000 - l.getD (i + k) 0) + 100000000 * (t / 100000000 + d * vl ((digs b.natAbs).drop (k + 1))) := by
      rw [Int.mul_add d, Int.mul_left_comm d 100000000]
      generalize d * (digs b.natAbs).getD k 0 = m at *
      omega
    rw [e2, alg1, Int.add_assoc]
theorem timesO (na nb : Bool) (a b : Int) (ha : zaE a) (hb : zaE b) (n : Nat) (hn : n = (digs a.natAbs).length + (digs b.natAbs).length) (hb0 : 0 < (digs b.natAbs).length) : ∀ (r i : Nat) (l : List Int), i + r = (digs a.natAbs).length → Digs l → l.length = n →
    (∀ j, i + (digs b.natAbs).length ≤ j → l.getD j 0 = 0) →
    ∃ l2 : List Int, Digs l2 ∧ l2.length = n ∧ vl l2 = vl l + 100000000 ^ i * (vl ((digs a.natAbs).drop i) * (b.natAbs : Int)) ∧
      Loops 4 Tryz.prog (eZ Tryz.prog 107 0) (TO na nb a b i n l) (.exit 0, TO na nb a b ((digs a.natAbs).length : Int) n l2)
  | 0, i, l, hi, hl, hln, hz => by
    obtain rfl : i = (digs a.natAbs).length := by omega
    refine ⟨l, hl, hln, ?_, Loops.fin (LS.of ok5 (toE_0 na nb a b ((digs a.natAbs).length : Int) n l) (by (repeat' (first | exact AllC.nil | refine AllC.cons ?_ ?_)); all_goals (first | exact fZ | ((with_reducible refine inR64.2 ?_); omega) | (with_reducible refine pFl ?_ ?_ <;> omega) | ((with_reducible refine decide_eq_true ?_); omega) | ((with_reducible refine decide_eq_false ?_); omega) | omega | (simp [] <;> omega) | assumption | rfl))) (by simp [Ex.toExit])⟩
    rw [List.drop_length]; simp [vl]
  | r + 1, i, l, hi, hl, hln, hz => by
    have ha' := ha
    have hb' := hb
    unfold zaE dl at ha' hb'
    have hin : Int.toNat (i : Int) = i := by omega
    have hnat : 0 + Int.toNat ((i : Int) + ((digs b.natAbs).length : Int)) * 1 = i + (digs b.natAbs).length := by omega
    have hia : i < (digs a.natAbs).length := by omega
    obtain ⟨hd0, hd1⟩ := LZ (pZ a.natAbs) i
    obtain ⟨l2, c2, k1, k2, k3, k4, k5, k6, k7⟩ := timesI na nb a b ((digs a.natAbs).getD i 0) hd0 hd1 i n (by omega) (by omega) (digs b.natAbs).length 0 l 0 (by omega) hl (by omega) (by omega) hln
    have k7' : Loops 4 Tryz.prog (eZ Tryz.prog 107 1) (TN na nb a b i ((digs a.natAbs).getD i 0) 0 0 n l) (.exit 2, TN na nb a b i ((digs a.natAbs).getD i 0) c2 ((digs b.natAbs).length : Int) n l2) := k7
    have h := LS.of ok5 (toL_0 na nb a b i c2 ((digs b.natAbs).length : Int) n l l2) (by
      rw [hnat, hin]
      exact (by (repeat' (first | exact AllC.nil | refine AllC.cons ?_ ?_)); all_goals (first | exact fZ | ((with_reducible refine inR64.2 ?_); omega) | (with_reducible refine pFl ?_ ?_ <;> omega) | ((with_reducible refine decide_eq_true ?_); omega) | ((with_reducible refine decide_eq_false ?_); omega) | omega | (simp [hia, k2] <;> omega) | assumption | rfl)))
    rw [hnat] at h
    have hv := zgc l2 (i + (digs b.natAbs).length) c2 (by omega)
    have h0 : l2.getD (i + (digs b.natAbs).length) 0 = 0 := by rw [k6 _ (Nat.le_refl _)]; exact hz _ (Nat.le_refl _)
    rw [h0, Int.sub_zero, k5] at hv
    obtain ⟨l4, m1, m2, m3, m4⟩ := timesO na nb a b ha hb n hn hb0 r (i + 1) (l2.set (i + (digs b.natAbs).length) c2) (by omega) (zev k1 _ k3 k4) (by simp; omega) (fun j hj => by
      rw [getD_set_ne _ _ _ _ (by omega), k6 j (by omega)]; exact hz j (by omega))
    have e : ((i + 1 : Nat) : Int) = (i : Int) + 1 := by omega
    rw [e] at m4
    refine ⟨l4, m1, m2, ?_, Loops.go h m4⟩
    rw [m3, hv, zaG (digs a.natAbs) i, List.drop_zero, zae, Int.zero_add, Nat.add_zero, Int.pow_succ, Int.add_mul, Int.mul_assoc 100000000, alg1, Int.add_assoc]
theorem times_fc (a b : Int) (h : pDD a b) : FC Tryz.prog 107 [W a, W b] (W (a * b)) := by
  obtain ⟨ha, hb⟩ := h
  have ha' := ha
  have hb' := hb
  unfold zaE dl at ha' hb'
  by_cases ha0 : a = 0
  · subst ha0
    have := jZ ok5 (timZ_0 (decide ((0 : Int) < 0)) (decide (b < 0)) 0 b) (.cons (by simp [TZ]) .nil)
    exact this.res fun E v h => h.toW (b := false) (l := []) rfl rfl (by simp) (by simp [TZ])
  · have hna := zeq ha0
    by_cases hb0 : b = 0
    · subst hb0
      have := jZ ok5 (timZ_1 (decide (a < 0)) (decide ((0 : Int) < 0)) a 0) (.cons (by simp [hna]) (.cons (by simp [TZ]) .nil))
      exact this.res fun E v h => h.toW (b := false) (l := []) rfl rfl (by simp) (by simp [TZ])
    · have hnb := zeq hb0
      have hpa := zbZ ha0
      have hpb := zbZ hb0
      obtain ⟨N, hN⟩ : ∃ N, N = Int.toNat (((digs a.natAbs).length : Int) + ((digs b.natAbs).length : Int)) := ⟨_, rfl⟩
      have hN2 : N = (digs a.natAbs).length + (digs b.natAbs).length := by omega
      have hz0 : Digs (List.replicate N 0) := fun d hd => by
        have := List.eq_of_mem_replicate hd
        omega
      have hvz : ∀ m : Nat, vl (List.replicate m 0) = 0 := by
        intro m
        induction m with
        | zero => rfl
        | succ m ih => simp only [List.replicate_succ, vl, ih]; rfl
      obtain ⟨l2, k1, k2, k3, k4⟩ := timesO (decide (a < 0)) (decide (b < 0)) a b ha hb N hN2 hpb (digs a.natAbs).length 0 (List.replicate N 0) (by omega) hz0 (by simp) (fun j hj => by simp [List.getD, List.getElem?_replicate]; split <;> rfl)
      have k4' : Loops 4 Tryz.prog (eZ Tryz.prog 107 0) (TO (decide (a < 0)) (decide (b < 0)) a b 0 N (List.replicate N 0)) (.exit 0, TO (decide (a < 0)) (decide (b < 0)) a b ((digs a.natAbs).length : Int) N l2) := k4
      have hst : List.take N l2 = l2 := by rw [← k2, zaN]
      have := jZ ok5 (tim_2 (decide (a < 0)) (decide (b < 0)) a b ((digs a.natAbs).length : Int) N l2) (by
        rw [hst, ← hN]
        exact (by (repeat' (first | exact AllC.nil | refine AllC.cons ?_ ?_)); all_goals (first | exact fZ | ((with_reducible refine inR64.2 ?_); omega) | (with_reducible refine pFl ?_ ?_ <;> omega) | ((with_reducible refine decide_eq_true ?_); omega) | ((with_reducible refine decide_eq_false ?_); omega) | omega | (simp [hna, hnb, k2, NZ] <;> omega) | assumption | rfl)))
      rw [hst] at this
      have hprod : vl l2 = ((a.natAbs * b.natAbs : Nat) : Int) := by
        rw [k3, hvz, List.drop_zero, zae, Int.pow_zero, Int.one_mul, Int.zero_add]; simp
      refine this.res fun E v h => h.toW (b := (!(decide (a < 0) == decide (b < 0)))) rfl rfl ?_ ?_
      · rcases Int.lt_or_gt_of_ne ha0 with h1 | h1 <;> rcases Int.lt_or_gt_of_ne hb0 with h2 | h2
        · have := Int.mul_pos_of_neg_of_neg h1 h2
          simp [h1, h2]; omega
        · have := Int.mul_neg_of_neg_of_pos h1 h2
          have h3 : ¬ b < 0 := by omega
          simp [h1, h3, this]
        · have := Int.mul_neg_of_pos_of_neg h1 h2
          have h3 : ¬ a < 0 := by omega
          simp [h2, h3, this]
        · have := Int.mul_pos h1 h2
          have h3 : ¬ a < 0 := by omega
          have h4 : ¬ b < 0 := by omega
          simp [h3, h4]; omega
      · rw [zaO k1, hprod, Int.toNat_natCast, Int.natAbs_mul]
def ctr6 : Ctr := (107, c2 pDD (fun a b => W (a * b))) :: ctr5
theorem zlt : ∀ p ∈ ctr6, tZ Tryz.prog p.1 p.2 := CAll.cons (c2_ok times_fc) zls
theorem ok6 : (dZ Tryz.prog ctr6 bw).OK := QZ zlt
end Go.Proofs.YtloaeinogiplbaaGreatDoor
end
section
open Go Go.Ev
namespace Go.Proofs.YtloaeinogiplbaaGreatDoor
open Go.Proofs
def cLI (p : List Int → Int → Prop) (r : List Int → Int → AV) (args : List AV) : M AV := match args with
  | [x, .lit (.int .i64 n)] => do
    let l ← ofOpt 217 (ints? x)
    tell (p l n)
    M.pure (r l n)
  | _ => fail 218
theorem cLI_ok {P : Program} {f : FuncId} {p : List Int → Int → Prop} {r : List Int → Int → AV} (h : ∀ l n, p l n → FC P f [.sq l, .lit (.int .i64 n)] (r l n)) : tZ P f (cLI p r) := by
  intro args _
  unfold cLI
  split
  · exact Spec.bind (Spec.ofOpt fun l hl => Spec.bind (Spec.tell fun hp => Spec.pure' ((h l _ hp).arg2 (fun E v hv => hv.toSq hl) (fun E v hv => hv))))
  · exact Spec.fail
abbrev SH (l : List Int) (n r i : Int) (m : Nat) (a : List Int) : St := ⟨sp 38 [(0, .sq l), (1, .lit (.int .i64 n)), (6, .own 0 0 m 1), (7, .lit (.int .i64 r)), (8, .lit (.int .i64 i))], [.ints a true], [0]⟩
end Go.Proofs.YtloaeinogiplbaaGreatDoor
end
section
open Go Go.Ev Go.RowKit
namespace Go.Proofs.YtloaeinogiplbaaGreatDoor
open Go.Proofs
set_option maxRecDepth 100000
set_option maxHeartbeats 1000000
set_option linter.unusedVariables false
set_option linter.unusedSimpArgs false
theorem shL_0 (l : List Int) (n r i : Int) (m : Nat) (a : List Int) : za3 (dZ Tryz.prog ctr6 bw) 60 (eZ Tryz.prog 175 0) 1 [] [0, 1, 6, 7, 8] [0] (SH l n r i m a) [true] [] = some (Ex.normal, ⟨sp 38 [(0, .sq l), (1, aI n), (6, .own 0 0 m 1), (7, aI (Int.tmod (r * 100000000 + l.getD i.toNat 0) n)), (8, aI (i - 1))], [.ints (a.set (0 + i.toNat * 1) (Int.tdiv (r * 100000000 + l.getD i.toNat 0) n)) true], [0]⟩, [decide (i ≥ 0) = true, inR .i64 (r * 100000000) = true, decide (0 ≤ i) = true, decide (i < (l.length : Int)) = true, decide (i.toNat < l.length) = true, inR .i64 (r * 100000000 + l.getD i.toNat 0) = true, (!decide (n = 0)) = true, inR .i64 (Int.tdiv (r * 100000000 + l.getD i.toNat 0) n) = true, (!decide (n = 0)) = true, decide (0 ≤ i) = true, decide (i < (m : Int)) = true, decide (0 + i.toNat * 1 < a.length) = true, inR .i64 (i - 1) = true]) := by kernel_rfl
theorem shL_1 (l : List Int) (n r i : Int) (m : Nat) (a : List Int) : za3 (dZ Tryz.prog ctr6 bw) 60 (eZ Tryz.prog 175 0) 1 [] [0, 1, 6, 7, 8] [0] (SH l n r i m a) [false] [] = some (Ex.exit 0, ⟨sp 38 [(0, .sq l), (1, aI n), (6, .own 0 0 m 1), (7, aI r), (8, aI i)], [.ints a true], [0]⟩, [decide (i ≥ 0) = false]) := by kernel_rfl
theorem sh_0 (l : List Int) (n r i : Int) (m : Nat) (a : List Int) : zaf (dZ Tryz.prog ctr6 bw) 60 175 [.sq l, .lit (.int .i64 n)] [] [some (wZ Tryz.prog (eZ Tryz.prog 175 0) [] [0,1,6,7,8] [0] (SH l n 0 ((l.length : Int) - 1) m (List.replicate m 0)) (.exit 0, SH l n r i m a))] = some (.tup [.sq (trm (a.take m)), aI r], [decide (0 ≤ (l.length : Int)) = true, decide ((l.length : Int) ≤ (l.length : Int)) = true, decide (8 * (l.length : Int) ≤ 281474976710656) = true, decide ((l.length : Int) ≤ 9223372036854775807) = true, inR .i64 ((l.length : Int) - 1) = true, IZ Tryz.prog (eZ Tryz.prog 175 0) (wZ Tryz.prog (eZ Tryz.prog 175 0) [] [0, 1, 6, 7, 8] [0] ⟨sp 38 [(0, .sq l), (1, aI n), (6, .own 0 0 m 1), (7, aI 0), (8, aI ((l.length : Int) - 1))], [.ints (List.replicate m 0) true], [0]⟩ (Ex.exit 0, ⟨sp 38 [(0, .sq l), (1, aI n), (6, .own 0 0 m 1), (7, aI r), (8, aI i)], [.ints a true], [0]⟩)), (⟨sp 38 [(0, .sq l), (1, aI n), (6, .own 0 0 (l.length : Int).toNat 1), (7, aI 0), (8, aI ((l.length : Int) - 1))], [.ints (List.replicate (l.length : Int).toNat 0) true], [0]⟩ : St) = ⟨sp 38 [(0, .sq l), (1, aI n), (6, .own 0 0 m 1), (7, aI 0), (8, aI ((l.length : Int) - 1))], [.ints (List.replicate m 0) true], [0]⟩, Loops 1 Tryz.prog (eZ Tryz.prog 175 0) ⟨sp 38 [(0, .sq l), (1, aI n), (6, .own 0 0 m 1), (7, aI 0), (8, aI ((l.length : Int) - 1))], [.ints (List.replicate m 0) true], [0]⟩ (Ex.exit 0, ⟨sp 38 [(0, .sq l), (1, aI n), (6, .own 0 0 m 1), (7, aI r), (8, aI i)], [.ints a true], [0]⟩), m ≤ a.length, NZ (a.take m)]) := by kernel_rfl
theorem tdn {t n : Int} (h : 0 ≤ t) (hn : 0 < n) : Int.tdiv t n = t / n ∧ Int.tmod t n = t % n :=
  ⟨Int.tdiv_eq_ediv_of_nonneg h, Int.tmod_eq_emod_of_nonneg h⟩
theorem ziu (l : List Int) (k : Nat) (v : Int) : (l.set k v).drop (k + 1) = l.drop (k + 1) := by
  apply List.ext_getElem?
  intro i
  rw [List.getElem?_drop, List.getElem?_drop, List.getElem?_set_ne (by omega)]
theorem zbC (l : List Int) (k : Nat) (v : Int) (h : k < l.length) : (l.set k v).getD k 0 = v := by simp [List.getD, h]
theorem shortL (l : List Int) (n : Int) (hn : 0 < n) (hnB : n ≤ 100000000) (hl : Digs l) (hll : l.length ≤ 4194304) : ∀ (k : Nat) (r : Int) (out : List Int), k ≤ l.length → out.length = l.length → 0 ≤ r → r < n → Digs out → vl (out.drop k) * n + r = vl (l.drop k) →
    ∃ (r2 : Int) (out2 : List Int), out2.length = l.length ∧ 0 ≤ r2 ∧ r2 < n ∧ Digs out2 ∧ vl out2 * n + r2 = vl l ∧
      Loops 1 Tryz.prog (eZ Tryz.prog 175 0) (SH l n r ((k : Int) - 1) l.length out) (.exit 0, SH l n r2 (-1) l.length out2)
  | 0, r, out, hk, ho, h0, h1, hd, hv => by
    rw [List.drop_zero, List.drop_zero] at hv
    exact ⟨r, out, ho, h0, h1, hd, hv, Loops.fin (LS.of ok6 (shL_1 l n r (-1) l.length out) (by (repeat' (first | exact AllC.nil | refine AllC.cons ?_ ?_)); all_goals (first | exact fZ | ((with_reducible refine inR64.2 ?_); omega) | (with_reducible refine pFl ?_ ?_ <;> omega) | ((with_reducible refine decide_eq_true ?_); omega) | ((with_reducible refine decide_eq_false ?_); omega) | omega | (simp [] <;> omega) | assumption | rfl))) (by simp [Ex.toExit])⟩
  | k + 1, r, out, hk, ho, h0, h1, hd, hv => by
    have hnat : 0 + Int.toNat (((k + 1 : Nat) : Int) - 1) * 1 = k := by omega
    have hnat2 : Int.toNat (((k + 1 : Nat) : Int) - 1) = k := by omega
    have hx := LZ hl k
    have hkl : k < l.length := by omega
    obtain ⟨t1, t2⟩ := tdn (t := r * 100000000 + l.getD k 0) (n := n) (by omega) hn
    have hq0 : 0 ≤ (r * 100000000 + l.getD k 0) / n := Int.ediv_nonneg (by omega) (by omega)
    have hq1 : (r * 100000000 + l.getD k 0) / n < 100000000 := Int.ediv_lt_of_lt_mul hn (by omega)
    have hr0 : 0 ≤ (r * 100000000 + l.getD k 0) % n := Int.emod_nonneg _ (by omega)
    have hr1 : (r * 100000000 + l.getD k 0) % n < n := Int.emod_lt_of_pos _ hn
    have hdm := Int.mul_ediv_add_emod (r * 100000000 + l.getD k 0) n
    have hn0 : (!decide (n = 0)) = true := by simp; omega
    have h := LS.of ok6 (shL_0 l n r (((k + 1 : Nat) : Int) - 1) l.length out) (by
      rw [hnat, hnat2, t1]
      exact (by (repeat' (first | exact AllC.nil | refine AllC.cons ?_ ?_)); all_goals (first | exact fZ | ((with_reducible refine inR64.2 ?_); omega) | (with_reducible refine pFl ?_ ?_ <;> omega) | ((with_reducible refine decide_eq_true ?_); omega) | ((with_reducible refine decide_eq_false ?_); omega) | omega | (simp [ho] <;> omega) | assumption | rfl)))
    rw [hnat, hnat2, t1, t2] at h
    have e : ((k + 1 : Nat) : Int) - 1 - 1 = (k : Int) - 1 := by omega
    rw [e] at h
    have hv2 : vl ((out.set k ((r * 100000000 + l.getD k 0) / n)).drop k) * n + (r * 100000000 + l.getD k 0) % n = vl (l.drop k) := by
      rw [zaG (out.set k _) k, ziu, zbC _ _ _ (by omega), zaG l k, ← hv, Int.add_mul, Int.mul_assoc]
      rw [Int.mul_comm n] at hdm
      omega
    obtain ⟨r2, out2, k1, k2, k3, k4, k5, k6⟩ := shortL l n hn hnB hl hll k _ _ (by omega) (by simp; omega) hr0 hr1 (zev hd _ hq0 hq1) hv2
    exact ⟨r2, out2, k1, k2, k3, k4, k5, Loops.go h k6⟩
theorem Rd_lit_eq {E : Env} {a b : Value} {v : Value} (h : a = b) (hr : Rd E (.lit a) v) : Rd E (.lit b) v := h ▸ hr
def zf7 (l : List Int) (n : Int) : Prop := Digs l ∧ l.length ≤ 4194304 ∧ 0 < n ∧ n ≤ 100000000
theorem short_fc (l : List Int) (n : Int) (h : zf7 l n) : FC Tryz.prog 175 [.sq l, .lit (.int .i64 n)] (.tup [.wd (vl l / n), .lit (.int .i64 (vl l % n))]) := by
  obtain ⟨hl, hll, hn, hnB⟩ := h
  have hz0 : Digs (List.replicate l.length 0) := fun d hd => by
    have := List.eq_of_mem_replicate hd
    omega
  obtain ⟨r2, out2, k1, k2, k3, k4, k5, k6⟩ := shortL l n hn hnB hl hll l.length 0 (List.replicate l.length 0) (Nat.le_refl _) (by simp) (Int.le_refl _) hn hz0 (by
    rw [List.drop_length, List.drop_eq_nil_of_le (by simp)]; simp [vl])
  have e : List.take l.length out2 = out2 := by rw [← k1, zaN]
  have := jZ ok6 (sh_0 l n r2 (-1) l.length out2) (by
    rw [e]
    simp only [Int.toNat_natCast]
    exact (by (repeat' (first | exact AllC.nil | refine AllC.cons ?_ ?_)); all_goals (first | exact fZ | ((with_reducible refine inR64.2 ?_); omega) | (with_reducible refine pFl ?_ ?_ <;> omega) | ((with_reducible refine decide_eq_true ?_); omega) | ((with_reducible refine decide_eq_false ?_); omega) | omega | (simp [k1, NZ] <;> omega) | assumption | rfl)))
  rw [e] at this
  have hq : vl l / n = vl out2 := by
    rw [← k5, Int.mul_comm, Int.add_comm, Int.add_mul_ediv_left _ _ (by omega), Int.ediv_eq_zero_of_lt k2 k3, Int.zero_add]
  have hr : vl l % n = r2 := by
    rw [← k5, Int.mul_comm, Int.add_comm, Int.add_mul_emod_self_left, Int.emod_eq_of_lt k2 k3]
  have hv0 := KZ k4
  refine this.res fun E v hv => hv.tup2 (fun u hu => hu.toWd rfl ?_) (fun u hu => Rd_lit_eq (by rw [hr]) hu)
  rw [zaO k4, hq]
  congr 1
  omega
def zkL : Ctr := (175, cLI zf7 (fun l n => .tup [.wd (vl l / n), .lit (.int .i64 (vl l % n))])) :: ctr6
theorem zlu : ∀ p ∈ zkL, tZ Tryz.prog p.1 p.2 := CAll.cons (cLI_ok short_fc) zlt
end Go.Proofs.YtloaeinogiplbaaGreatDoor
end
section
open Go Go.Ev
namespace Go.Proofs.YtloaeinogiplbaaGreatDoor
open Go.Proofs
def dmy : zbW := fun _ => none
abbrev TW (c d : Bool) (a b : Int) (n : Nat) (l : List Int) : St := ⟨sp 21 [(0, .own 3 0 n 1)], [.flat [.lit (.bool c), .wd a] true, .flat [.lit (.bool d), .wd b] true, .flat [.lit (.bool false), .lit (.slice none 0 0)] true, .ints l true], []⟩
abbrev rwL (a f : Int) (n2 : Nat) (u out : List Int) : List Row := [.flat [.lit (.bool false), .wd a] true, .flat [.lit (.bool (decide (f < 0))), .wd f] true, .flat [.lit (.bool (!(false == decide (f < 0)))), .own 3 0 n2 1] true, .dead, .ints [0, 0] true, .ints u true, .ints out true]
abbrev LO (a f : Int) (b : Nat) (V : Int) (L J : Nat) (j : Int) (u c : List Int) : St := ⟨sp 182 [(6, .lit (.int .i64 f)), (7, .own 5 0 L 1), (8, .wd V), (9, .lit (.int .i64 ((digs V.natAbs).length : Int))), (10, .own 6 0 J 1), (11, .lit (.int .i64 j))], rwL a f b u c, [2, 3, 4, 5, 6]⟩
abbrev LSb (a f : Int) (b : Nat) (V : Int) (L J : Nat) (j g c i : Int) (u d : List Int) : St := ⟨sp 182 [(6, .lit (.int .i64 f)), (7, .own 5 0 L 1), (8, .wd V), (9, .lit (.int .i64 ((digs V.natAbs).length : Int))), (10, .own 6 0 J 1), (11, .lit (.int .i64 j)), (12, .lit (.int .i64 g)), (13, .lit (.int .i64 c)), (81, .lit (.int .i64 ((digs V.natAbs).length : Int))), (82, .lit (.int .i64 i))], rwL a f b u d, [2, 3, 4, 5, 6]⟩
abbrev LC (a f : Int) (b : Nat) (V : Int) (L J : Nat) (j g : Int) (u c : List Int) : St := ⟨sp 182 [(6, .lit (.int .i64 f)), (7, .own 5 0 L 1), (8, .wd V), (9, .lit (.int .i64 ((digs V.natAbs).length : Int))), (10, .own 6 0 J 1), (11, .lit (.int .i64 j)), (12, .lit (.int .i64 g))], rwL a f b u c, [2, 3, 4, 5, 6]⟩
abbrev LA (a f : Int) (b : Nat) (V : Int) (L J : Nat) (j g c i : Int) (u d : List Int) : St := ⟨sp 182 [(6, .lit (.int .i64 f)), (7, .own 5 0 L 1), (8, .wd V), (9, .lit (.int .i64 ((digs V.natAbs).length : Int))), (10, .own 6 0 J 1), (11, .lit (.int .i64 j)), (12, .lit (.int .i64 g)), (13, .lit (.int .i64 c)), (130, .lit (.int .i64 ((digs V.natAbs).length : Int))), (131, .lit (.int .i64 i))], rwL a f b u d, [2, 3, 4, 5, 6]⟩
end Go.Proofs.YtloaeinogiplbaaGreatDoor
end
section
open Go Go.Ev Go.RowKit
namespace Go.Proofs.YtloaeinogiplbaaGreatDoor
open Go.Proofs
set_option maxRecDepth 100000
set_option maxHeartbeats 1000000
set_option linter.unusedVariables false
set_option linter.unusedSimpArgs false
theorem loS_0 (a f : Int) (b : Nat) (V : Int) (L J : Nat) (j g c i : Int) (u d : List Int) : za3 (dZ Tryz.prog zkL bw [107, 150]) 60 (eZ Tryz.prog 176 1) 7 [] [6, 7, 8, 9, 10, 11, 12, 13, 81, 82] [2, 3, 4, 5, 6] (LSb a f b V L J j g c i u d) [true] [] = some (Ex.normal, ⟨sp 182 [(6, aI f), (7, .own 5 0 L 1), (8, .wd V), (9, aI (↑((digs V.natAbs).length) : Int)), (10, .own 6 0 J 1), (11, aI j), (12, aI g), (13, aI ((u.getD (0 + (i + j).toNat * 1) 0 - g * (digs V.natAbs).getD i.toNat 0 + c) / 100000000)), (81, aI (↑((digs V.natAbs).length) : Int)), (82, aI (i + 1))], [.flat [aF, .wd a] true, .flat [aD f, .wd f] true, .flat [.lit (.bool (!(false == decide (f < 0)))), .own 3 0 b 1] true, .dead, .ints [0, 0] true, .ints (u.set (0 + (i + j).toNat * 1) ((u.getD (0 + (i + j).toNat * 1) 0 - g * (digs V.natAbs).getD i.toNat 0 + c) % 100000000)) true, .ints d true], [2, 3, 4, 5, 6]⟩, [decide (i < (↑((digs V.natAbs).length) : Int)) = true, inR .i64 (i + j) = true, decide (0 ≤ i + j) = true, decide (i + j < (L : Int)) = true, decide (0 + (i + j).toNat * 1 < u.length) = true, decide (0 ≤ i) = true, decide (i < (↑((digs V.natAbs).length) : Int)) = true, decide (i.toNat < (digs V.natAbs).length) = true, inR .i64 (g * (digs V.natAbs).getD i.toNat 0) = true, inR .i64 (u.getD (0 + (i + j).toNat * 1) 0 - g * (digs V.natAbs).getD i.toNat 0) = true, inR .i64 (u.getD (0 + (i + j).toNat * 1) 0 - g * (digs V.natAbs).getD i.toNat 0 + c) = true, bZ (u.getD (0 + (i + j).toNat * 1) 0 - g * (digs V.natAbs).getD i.toNat 0 + c), inR .i64 (i + j) = true, decide (0 ≤ i + j) = true, decide (i + j < (L : Int)) = true, decide (0 + (i + j).toNat * 1 < u.length) = true, inR .i64 (i + 1) = true]) := by kernel_rfl
theorem loS_1 (a f : Int) (b : Nat) (V : Int) (L J : Nat) (j g c i : Int) (u d : List Int) : za3 (dZ Tryz.prog zkL bw [107, 150]) 60 (eZ Tryz.prog 176 1) 7 [] [6, 7, 8, 9, 10, 11, 12, 13, 81, 82] [2, 3, 4, 5, 6] (LSb a f b V L J j g c i u d) [false] [] = some (Ex.exit 2, ⟨sp 182 [(6, aI f), (7, .own 5 0 L 1), (8, .wd V), (9, aI (↑((digs V.natAbs).length) : Int)), (10, .own 6 0 J 1), (11, aI j), (12, aI g), (13, aI c), (81, aI (↑((digs V.natAbs).length) : Int)), (82, aI i)], [.flat [aF, .wd a] true, .flat [aD f, .wd f] true, .flat [.lit (.bool (!(false == decide (f < 0)))), .own 3 0 b 1] true, .dead, .ints [0, 0] true, .ints u true, .ints d true], [2, 3, 4, 5, 6]⟩, [decide (i < (↑((digs V.natAbs).length) : Int)) = false]) := by kernel_rfl
theorem loA_0 (a f : Int) (b : Nat) (V : Int) (L J : Nat) (j g c i : Int) (u d : List Int) : za3 (dZ Tryz.prog zkL bw [107, 150]) 60 (eZ Tryz.prog 176 3) 7 [] [6, 7, 8, 9, 10, 11, 12, 13, 130, 131] [2, 3, 4, 5, 6] (LA a f b V L J j g c i u d) [true] [] = some (Ex.normal, ⟨sp 182 [(6, aI f), (7, .own 5 0 L 1), (8, .wd V), (9, aI (↑((digs V.natAbs).length) : Int)), (10, .own 6 0 J 1), (11, aI j), (12, aI g), (13, aI ((u.getD (0 + (i + j).toNat * 1) 0 + (digs V.natAbs).getD i.toNat 0 + c) / 100000000)), (130, aI (↑((digs V.natAbs).length) : Int)), (131, aI (i + 1))], [.flat [aF, .wd a] true, .flat [aD f, .wd f] true, .flat [.lit (.bool (!(false == decide (f < 0)))), .own 3 0 b 1] true, .dead, .ints [0, 0] true, .ints (u.set (0 + (i + j).toNat * 1) ((u.getD (0 + (i + j).toNat * 1) 0 + (digs V.natAbs).getD i.toNat 0 + c) % 100000000)) true, .ints d true], [2, 3, 4, 5, 6]⟩, [decide (i < (↑((digs V.natAbs).length) : Int)) = true, inR .i64 (i + j) = true, decide (0 ≤ i + j) = true, decide (i + j < (L : Int)) = true, decide (0 + (i + j).toNat * 1 < u.length) = true, decide (0 ≤ i) = true, decide (i < (↑((digs V.natAbs).length) : Int)) = true, decide (i.toNat < (digs V.natAbs).length) = true, inR .i64 (u.getD (0 + (i + j).toNat * 1) 0 + (digs V.natAbs).getD i.toNat 0) = true, inR .i64 (u.getD (0 + (i + j).toNat * 1) 0 + (digs V.natAbs).getD i.toNat 0 + c) = true, bZ (u.getD (0 + (i + j).toNat * 1) 0 + (digs V.natAbs).getD i.toNat 0 + c), inR .i64 (i + j) = true, decide (0 ≤ i + j) = true, decide (i + j < (L : Int)) = true, decide (0 + (i + j).toNat * 1 < u.length) = true, inR .i64 (i + 1) = true]) := by kernel_rfl
theorem loA_1 (a f : Int) (b : Nat) (V : Int) (L J : Nat) (j g c i : Int) (u d : List Int) : za3 (dZ Tryz.prog zkL bw [107, 150]) 60 (eZ Tryz.prog 176 3) 7 [] [6, 7, 8, 9, 10, 11, 12, 13, 130, 131] [2, 3, 4, 5, 6] (LA a f b V L J j g c i u d) [false] [] = some (Ex.exit 6, ⟨sp 182 [(6, aI f), (7, .own 5 0 L 1), (8, .wd V), (9, aI (↑((digs V.natAbs).length) : Int)), (10, .own 6 0 J 1), (11, aI j), (12, aI g), (13, aI c), (130, aI (↑((digs V.natAbs).length) : Int)), (131, aI i)], [.flat [aF, .wd a] true, .flat [aD f, .wd f] true, .flat [.lit (.bool (!(false == decide (f < 0)))), .own 3 0 b 1] true, .dead, .ints [0, 0] true, .ints u true, .ints d true], [2, 3, 4, 5, 6]⟩, [decide (i < (↑((digs V.natAbs).length) : Int)) = false]) := by kernel_rfl
abbrev zlJ (a f : Int) (b : Nat) (V : Int) (L J : Nat) (j g c i : Int) (d e : List Int) : St := ⟨sp 182 [(6, aI f), (7, .own 5 0 L 1), (8, .wd V), (9, aI (↑((digs V.natAbs).length) : Int)), (10, .own 6 0 J 1), (11, aI j), (12, aI (g - 1)), (13, aI c), (130, aI (↑((digs V.natAbs).length) : Int)), (131, aI i)], [.flat [aF, .wd a] true, .flat [aD f, .wd f] true, .flat [.lit (.bool (!(false == decide (f < 0)))), .own 3 0 b 1] true, .dead, .ints [0, 0] true, .ints d true, .ints e true], [2, 3, 4, 5, 6]⟩
abbrev zgo (a f : Int) (b : Nat) (V : Int) (L J : Nat) (j g : Int) (u c : List Int) : St := ⟨sp 182 [(6, aI f), (7, .own 5 0 L 1), (8, .wd V), (9, aI (↑((digs V.natAbs).length) : Int)), (10, .own 6 0 J 1), (11, aI j), (12, aI (g - 1)), (13, aI 0), (130, aI (↑((digs V.natAbs).length) : Int)), (131, aI 0)], [.flat [aF, .wd a] true, .flat [aD f, .wd f] true, .flat [.lit (.bool (!(false == decide (f < 0)))), .own 3 0 b 1] true, .dead, .ints [0, 0] true, .ints u true, .ints c true], [2, 3, 4, 5, 6]⟩
theorem loC_0 (a f : Int) (b : Nat) (V : Int) (L J : Nat) (j g c i : Int) (u d e : List Int) : za3 (dZ Tryz.prog zkL bw [107, 150]) 60 (eZ Tryz.prog 176 2) 7 [] [6, 7, 8, 9, 10, 11, 12] [2, 3, 4, 5, 6] (LC a f b V L J j g u e) [true] [some (wZ Tryz.prog (eZ Tryz.prog 176 3) [] [6,7,8,9,10,11,12,13,130,131] [2,3,4,5,6] (LA a f b V L J j (g - 1) 0 0 u e) (.exit 6, LA a f b V L J j (g - 1) c i d e))] = some (Ex.normal, ⟨sp 182 [(6, aI f), (7, .own 5 0 L 1), (8, .wd V), (9, aI (↑((digs V.natAbs).length) : Int)), (10, .own 6 0 J 1), (11, aI j), (12, aI (g - 1))], [.flat [aF, .wd a] true, .flat [aD f, .wd f] true, .flat [.lit (.bool (!(false == decide (f < 0)))), .own 3 0 b 1] true, .dead, .ints [0, 0] true, .ints (d.set (0 + (j + (↑((digs V.natAbs).length) : Int)).toNat * 1) (d.getD (0 + (j + (↑((digs V.natAbs).length) : Int)).toNat * 1) 0 + c)) true, .ints e true], [2, 3, 4, 5, 6]⟩, [inR .i64 (j + (↑((digs V.natAbs).length) : Int)) = true, decide (0 ≤ j + (↑((digs V.natAbs).length) : Int)) = true, decide (j + (↑((digs V.natAbs).length) : Int) < (L : Int)) = true, decide (0 + (j + (↑((digs V.natAbs).length) : Int)).toNat * 1 < u.length) = true, decide (u.getD (0 + (j + (↑((digs V.natAbs).length) : Int)).toNat * 1) 0 < 0) = true, inR .i64 (g - 1) = true, IZ Tryz.prog (eZ Tryz.prog 176 3) (wZ Tryz.prog (eZ Tryz.prog 176 3) [] [6, 7, 8, 9, 10, 11, 12, 13, 130, 131] [2, 3, 4, 5, 6] (zgo a f b V L J j g u e) (Ex.exit 6, (zlJ a f b V L J j g c i d e))), (zgo a f b V L J j g u e) = (zgo a f b V L J j g u e), Loops 7 Tryz.prog (eZ Tryz.prog 176 3) (zgo a f b V L J j g u e) (Ex.exit 6, (zlJ a f b V L J j g c i d e)), inR .i64 (j + (↑((digs V.natAbs).length) : Int)) = true, decide (0 ≤ j + (↑((digs V.natAbs).length) : Int)) = true, decide (j + (↑((digs V.natAbs).length) : Int) < (L : Int)) = true, decide (0 + (j + (↑((digs V.natAbs).length) : Int)).toNat * 1 < d.length) = true, inR .i64 (d.getD (0 + (j + (↑((digs V.natAbs).length) : Int)).toNat * 1) 0 + c) = true, decide (0 ≤ j + (↑((digs V.natAbs).length) : Int)) = true, decide (j + (↑((digs V.natAbs).length) : Int) < (L : Int)) = true, decide (0 + (j + (↑((digs V.natAbs).length) : Int)).toNat * 1 < d.length) = true]) := by kernel_rfl
theorem loD_0 (a f : Int) (b : Nat) (V : Int) (L J : Nat) (j g : Int) (u c : List Int) : za3 (dZ Tryz.prog zkL bw [107, 150]) 60 (eZ Tryz.prog 176 2) 7 [] [6, 7, 8, 9, 10, 11, 12] [2, 3, 4, 5, 6] (LC a f b V L J j g u c) [false] [] = some (Ex.exit 4, ⟨sp 182 [(6, aI f), (7, .own 5 0 L 1), (8, .wd V), (9, aI (↑((digs V.natAbs).length) : Int)), (10, .own 6 0 J 1), (11, aI j), (12, aI g)], [.flat [aF, .wd a] true, .flat [aD f, .wd f] true, .flat [.lit (.bool (!(false == decide (f < 0)))), .own 3 0 b 1] true, .dead, .ints [0, 0] true, .ints u true, .ints c true], [2, 3, 4, 5, 6]⟩, [inR .i64 (j + (↑((digs V.natAbs).length) : Int)) = true, decide (0 ≤ j + (↑((digs V.natAbs).length) : Int)) = true, decide (j + (↑((digs V.natAbs).length) : Int) < (L : Int)) = true, decide (0 + (j + (↑((digs V.natAbs).length) : Int)).toNat * 1 < u.length) = true, decide (u.getD (0 + (j + (↑((digs V.natAbs).length) : Int)).toNat * 1) 0 < 0) = false]) := by kernel_rfl
theorem loM_0 (a f : Int) (b : Nat) (V : Int) (L J : Nat) (j g d c i : Int) (u e l m : List Int) : za3 (dZ Tryz.prog zkL bw [107, 150]) 60 (eZ Tryz.prog 176 0) 7 [] [6, 7, 8, 9, 10, 11] [2, 3, 4, 5, 6] (LO a f b V L J j u m) [true] [some (wZ Tryz.prog (eZ Tryz.prog 176 1) [] [6,7,8,9,10,11,12,13,81,82] [2,3,4,5,6] (LSb a f b V L J j g 0 0 u m) (.exit 2, LSb a f b V L J j g c i e m)), some (wZ Tryz.prog (eZ Tryz.prog 176 2) [] [6,7,8,9,10,11,12] [2,3,4,5,6] (LC a f b V L J j g (e.set (j.toNat + (digs V.natAbs).length) (e.getD (j.toNat + (digs V.natAbs).length) 0 + c)) m) (.exit 4, LC a f b V L J j d l m))] = some (Ex.normal, ⟨sp 182 [(6, aI f), (7, .own 5 0 L 1), (8, .wd V), (9, aI (↑((digs V.natAbs).length) : Int)), (10, .own 6 0 J 1), (11, aI (j - 1))], [.flat [aF, .wd a] true, .flat [aD f, .wd f] true, .flat [.lit (.bool (!(false == decide (f < 0)))), .own 3 0 b 1] true, .dead, .ints [0, 0] true, .ints l true, .ints (m.set (0 + j.toNat * 1) d) true], [2, 3, 4, 5, 6]⟩, [decide (j ≥ 0) = true, inR .i64 (j + (↑((digs V.natAbs).length) : Int)) = true, decide (0 ≤ j + (↑((digs V.natAbs).length) : Int)) = true, decide (j + (↑((digs V.natAbs).length) : Int) < (L : Int)) = true, decide (0 + (j + (↑((digs V.natAbs).length) : Int)).toNat * 1 < u.length) = true, inR .i64 (u.getD (0 + (j + (↑((digs V.natAbs).length) : Int)).toNat * 1) 0 * 100000000) = true, inR .i64 (j + (↑((digs V.natAbs).length) : Int)) = true, inR .i64 (j + (↑((digs V.natAbs).length) : Int) - 1) = true, decide (0 ≤ j + (↑((digs V.natAbs).length) : Int) - 1) = true, decide (j + (↑((digs V.natAbs).length) : Int) - 1 < (L : Int)) = true, decide (0 + (j + (↑((digs V.natAbs).length) : Int) - 1).toNat * 1 < u.length) = true, inR .i64 (u.getD (0 + (j + (↑((digs V.natAbs).length) : Int)).toNat * 1) 0 * 100000000 + u.getD (0 + (j + (↑((digs V.natAbs).length) : Int) - 1).toNat * 1) 0) = true, inR .i64 ((↑((digs V.natAbs).length) : Int) - 1) = true, decide (0 ≤ (↑((digs V.natAbs).length) : Int) - 1) = true, decide ((↑((digs V.natAbs).length) : Int) - 1 < (↑((digs V.natAbs).length) : Int)) = true, decide (((↑((digs V.natAbs).length) : Int) - 1).toNat < (digs V.natAbs).length) = true, (!decide ((digs V.natAbs).getD ((↑((digs V.natAbs).length) : Int) - 1).toNat 0 = 0)) = true, inR .i64 (Int.tdiv (u.getD (0 + (j + (↑((digs V.natAbs).length) : Int)).toNat * 1) 0 * 100000000 + u.getD (0 + (j + (↑((digs V.natAbs).length) : Int) - 1).toNat * 1) 0) ((digs V.natAbs).getD ((↑((digs V.natAbs).length) : Int) - 1).toNat 0)) = true, IZ Tryz.prog (eZ Tryz.prog 176 1) (wZ Tryz.prog (eZ Tryz.prog 176 1) [] [6, 7, 8, 9, 10, 11, 12, 13, 81, 82] [2, 3, 4, 5, 6] ⟨sp 182 [(6, aI f), (7, .own 5 0 L 1), (8, .wd V), (9, aI (↑((digs V.natAbs).length) : Int)), (10, .own 6 0 J 1), (11, aI j), (12, aI g), (13, aI 0), (81, aI (↑((digs V.natAbs).length) : Int)), (82, aI 0)], [.flat [aF, .wd a] true, .flat [aD f, .wd f] true, .flat [.lit (.bool (!(false == decide (f < 0)))), .own 3 0 b 1] true, .dead, .ints [0, 0] true, .ints u true, .ints m true], [2, 3, 4, 5, 6]⟩ (Ex.exit 2, ⟨sp 182 [(6, aI f), (7, .own 5 0 L 1), (8, .wd V), (9, aI (↑((digs V.natAbs).length) : Int)), (10, .own 6 0 J 1), (11, aI j), (12, aI g), (13, aI c), (81, aI (↑((digs V.natAbs).length) : Int)), (82, aI i)], [.flat [aF, .wd a] true, .flat [aD f, .wd f] true, .flat [.lit (.bool (!(false == decide (f < 0)))), .own 3 0 b 1] true, .dead, .ints [0, 0] true, .ints e true, .ints m true], [2, 3, 4, 5, 6]⟩)), (⟨sp 182 [(6, aI f), (7, .own 5 0 L 1), (8, .wd V), (9, aI (↑((digs V.natAbs).length) : Int)), (10, .own 6 0 J 1), (11, aI j), (12, aI (if 99999999 < Int.tdiv (u.getD (0 + (j + (↑((digs V.natAbs).length) : Int)).toNat * 1) 0 * 100000000 + u.getD (0 + (j + (↑((digs V.natAbs).length) : Int) - 1).toNat * 1) 0) ((digs V.natAbs).getD ((↑((digs V.natAbs).length) : Int) - 1).toNat 0) then 99999999 else Int.tdiv (u.getD (0 + (j + (↑((digs V.natAbs).length) : Int)).toNat * 1) 0 * 100000000 + u.getD (0 + (j + (↑((digs V.natAbs).length) : Int) - 1).toNat * 1) 0) ((digs V.natAbs).getD ((↑((digs V.natAbs).length) : Int) - 1).toNat 0))), (13, aI 0), (81, aI (↑((digs V.natAbs).length) : Int)), (82, aI 0)], [.flat [aF, .wd a] true, .flat [aD f, .wd f] true, .flat [.lit (.bool (!(false == decide (f < 0)))), .own 3 0 b 1] true, .dead, .ints [0, 0] true, .ints u true, .ints m true], [2, 3, 4, 5, 6]⟩ : St) = ⟨sp 182 [(6, aI f), (7, .own 5 0 L 1), (8, .wd V), (9, aI (↑((digs V.natAbs).length) : Int)), (10, .own 6 0 J 1), (11, aI j), (12, aI g), (13, aI 0), (81, aI (↑((digs V.natAbs).length) : Int)), (82, aI 0)], [.flat [aF, .wd a] true, .flat [aD f, .wd f] true, .flat [.lit (.bool (!(false == decide (f < 0)))), .own 3 0 b 1] true, .dead, .ints [0, 0] true, .ints u true, .ints m true], [2, 3, 4, 5, 6]⟩, Loops 7 Tryz.prog (eZ Tryz.prog 176 1) ⟨sp 182 [(6, aI f), (7, .own 5 0 L 1), (8, .wd V), (9, aI (↑((digs V.natAbs).length) : Int)), (10, .own 6 0 J 1), (11, aI j), (12, aI g), (13, aI 0), (81, aI (↑((digs V.natAbs).length) : Int)), (82, aI 0)], [.flat [aF, .wd a] true, .flat [aD f, .wd f] true, .flat [.lit (.bool (!(false == decide (f < 0)))), .own 3 0 b 1] true, .dead, .ints [0, 0] true, .ints u true, .ints m true], [2, 3, 4, 5, 6]⟩ (Ex.exit 2, ⟨sp 182 [(6, aI f), (7, .own 5 0 L 1), (8, .wd V), (9, aI (↑((digs V.natAbs).length) : Int)), (10, .own 6 0 J 1), (11, aI j), (12, aI g), (13, aI c), (81, aI (↑((digs V.natAbs).length) : Int)), (82, aI i)], [.flat [aF, .wd a] true, .flat [aD f, .wd f] true, .flat [.lit (.bool (!(false == decide (f < 0)))), .own 3 0 b 1] true, .dead, .ints [0, 0] true, .ints e true, .ints m true], [2, 3, 4, 5, 6]⟩), inR .i64 (j + (↑((digs V.natAbs).length) : Int)) = true, decide (0 ≤ j + (↑((digs V.natAbs).length) : Int)) = true, decide (j + (↑((digs V.natAbs).length) : Int) < (L : Int)) = true, decide (0 + (j + (↑((digs V.natAbs).length) : Int)).toNat * 1 < e.length) = true, inR .i64 (e.getD (0 + (j + (↑((digs V.natAbs).length) : Int)).toNat * 1) 0 + c) = true, decide (0 ≤ j + (↑((digs V.natAbs).length) : Int)) = true, decide (j + (↑((digs V.natAbs).length) : Int) < (L : Int)) = true, decide (0 + (j + (↑((digs V.natAbs).length) : Int)).toNat * 1 < e.length) = true, IZ Tryz.prog (eZ Tryz.prog 176 2) (wZ Tryz.prog (eZ Tryz.prog 176 2) [] [6, 7, 8, 9, 10, 11, 12] [2, 3, 4, 5, 6] ⟨sp 182 [(6, aI f), (7, .own 5 0 L 1), (8, .wd V), (9, aI (↑((digs V.natAbs).length) : Int)), (10, .own 6 0 J 1), (11, aI j), (12, aI g)], [.flat [aF, .wd a] true, .flat [aD f, .wd f] true, .flat [.lit (.bool (!(false == decide (f < 0)))), .own 3 0 b 1] true, .dead, .ints [0, 0] true, .ints (e.set (j.toNat + (digs V.natAbs).length) (e.getD (j.toNat + (digs V.natAbs).length) 0 + c)) true, .ints m true], [2, 3, 4, 5, 6]⟩ (Ex.exit 4, ⟨sp 182 [(6, aI f), (7, .own 5 0 L 1), (8, .wd V), (9, aI (↑((digs V.natAbs).length) : Int)), (10, .own 6 0 J 1), (11, aI j), (12, aI d)], [.flat [aF, .wd a] true, .flat [aD f, .wd f] true, .flat [.lit (.bool (!(false == decide (f < 0)))), .own 3 0 b 1] true, .dead, .ints [0, 0] true, .ints l true, .ints m true], [2, 3, 4, 5, 6]⟩)), (⟨sp 182 [(6, aI f), (7, .own 5 0 L 1), (8, .wd V), (9, aI (↑((digs V.natAbs).length) : Int)), (10, .own 6 0 J 1), (11, aI j), (12, aI g)], [.flat [aF, .wd a] true, .flat [aD f, .wd f] true, .flat [.lit (.bool (!(false == decide (f < 0)))), .own 3 0 b 1] true, .dead, .ints [0, 0] true, .ints (e.set (0 + (j + (↑((digs V.natAbs).length) : Int)).toNat * 1) (e.getD (0 + (j + (↑((digs V.natAbs).length) : Int)).toNat * 1) 0 + c)) true, .ints m true], [2, 3, 4, 5, 6]⟩ : St) = ⟨sp 182 [(6, aI f), (7, .own 5 0 L 1), (8, .wd V), (9, aI (↑((digs V.natAbs).length) : Int)), (10, .own 6 0 J 1), (11, aI j), (12, aI g)], [.flat [aF, .wd a] true, .flat [aD f, .wd f] true, .flat [.lit (.bool (!(false == decide (f < 0)))), .own 3 0 b 1] true, .dead, .ints [0, 0] true, .ints (e.set (j.toNat + (digs V.natAbs).length) (e.getD (j.toNat + (digs V.natAbs).length) 0 + c)) true, .ints m true], [2, 3, 4, 5, 6]⟩, Loops 7 Tryz.prog (eZ Tryz.prog 176 2) ⟨sp 182 [(6, aI f), (7, .own 5 0 L 1), (8, .wd V), (9, aI (↑((digs V.natAbs).length) : Int)), (10, .own 6 0 J 1), (11, aI j), (12, aI g)], [.flat [aF, .wd a] true, .flat [aD f, .wd f] true, .flat [.lit (.bool (!(false == decide (f < 0)))), .own 3 0 b 1] true, .dead, .ints [0, 0] true, .ints (e.set (j.toNat + (digs V.natAbs).length) (e.getD (j.toNat + (digs V.natAbs).length) 0 + c)) true, .ints m true], [2, 3, 4, 5, 6]⟩ (Ex.exit 4, ⟨sp 182 [(6, aI f), (7, .own 5 0 L 1), (8, .wd V), (9, aI (↑((digs V.natAbs).length) : Int)), (10, .own 6 0 J 1), (11, aI j), (12, aI d)], [.flat [aF, .wd a] true, .flat [aD f, .wd f] true, .flat [.lit (.bool (!(false == decide (f < 0)))), .own 3 0 b 1] true, .dead, .ints [0, 0] true, .ints l true, .ints m true], [2, 3, 4, 5, 6]⟩), decide (0 ≤ j) = true, decide (j < (J : Int)) = true, decide (0 + j.toNat * 1 < m.length) = true, inR .i64 (j - 1) = true]) := by kernel_rfl
theorem loX_0 (a f : Int) (b : Nat) (V : Int) (L J : Nat) (j : Int) (u c : List Int) : za3 (dZ Tryz.prog zkL bw [107, 150]) 60 (eZ Tryz.prog 176 0) 7 [] [6, 7, 8, 9, 10, 11] [2, 3, 4, 5, 6] (LO a f b V L J j u c) [false] [] = some (Ex.exit 0, ⟨sp 182 [(6, aI f), (7, .own 5 0 L 1), (8, .wd V), (9, aI (↑((digs V.natAbs).length) : Int)), (10, .own 6 0 J 1), (11, aI j)], [.flat [aF, .wd a] true, .flat [aD f, .wd f] true, .flat [.lit (.bool (!(false == decide (f < 0)))), .own 3 0 b 1] true, .dead, .ints [0, 0] true, .ints u true, .ints c true], [2, 3, 4, 5, 6]⟩, [decide (j ≥ 0) = false]) := by kernel_rfl
theorem pFl {n : Int} (h1 : -9223372036854775808 ≤ n) (h2 : n ≤ 9223372036854775807) : bZ n := ⟨h1, h2⟩
theorem zmU : (dZ Tryz.prog zkL bw [107, 150]).OK := QZ zlu
def Dg (u : List Int) (p : Nat) : Prop := ∀ q, q ≠ p → 0 ≤ u.getD q 0 ∧ u.getD q 0 < 100000000
theorem Dg.of {u : List Int} (h : Digs u) (p : Nat) : Dg u p := fun q _ => LZ h q
theorem Dg.digs {u : List Int} {p : Nat} (h : Dg u p) (h0 : 0 ≤ u.getD p 0) (h1 : u.getD p 0 < 100000000) : Digs u := by
  intro d hd
  obtain ⟨q, hq, rfl⟩ := List.getElem_of_mem hd
  have e : u.getD q 0 = u[q] := by simp [List.getD, hq]
  by_cases hp : q = p
  · subst hp; rw [← e]; exact ⟨h0, h1⟩
  · rw [← e]; exact h q hp
theorem getD_set (u : List Int) (i q : Nat) (v : Int) (h : i < u.length) : (u.set i v).getD q 0 = if q = i then v else u.getD q 0 := by
  by_cases hq : q = i
  · subst hq; rw [if_pos rfl]; exact zbC _ _ _ h
  · rw [if_neg hq]; exact getD_set_ne _ _ _ _ hq
theorem Dg.set {u : List Int} {p : Nat} (h : Dg u p) (i : Nat) {v : Int} (hi : i < u.length) (h0 : 0 ≤ v) (h1 : v < 100000000) : Dg (u.set i v) p := by
  intro q hq
  rw [getD_set _ _ _ _ hi]
  split
  · exact ⟨h0, h1⟩
  · exact h q hq
theorem Dg.top {u : List Int} {p : Nat} (h : Dg u p) (v : Int) : Dg (u.set p v) p := by
  intro q hq
  rw [getD_set_ne _ _ _ _ hq]
  exact h q hq
theorem zk9 {u u' : List Int} {j : Nat} (hl : u'.length = u.length) (h : ∀ p, p < j → u'.getD p 0 = u.getD p 0) : u'.take j = u.take j := by
  apply List.ext_getElem
  · simp [hl]
  · intro i h1 h2
    simp only [List.length_take] at h1
    have := h i (by omega)
    have e1 : u'.getD i 0 = u'[i] := by simp [List.getD, show i < u'.length by omega]
    have e2 : u.getD i 0 = u[i] := by simp [List.getD, show i < u.length by omega]
    rw [List.getElem_take, List.getElem_take, ← e1, ← e2, this]
theorem drop_eq {u u' : List Int} {j : Nat} (hl : u'.length = u.length) (h : ∀ p, j ≤ p → u'.getD p 0 = u.getD p 0) : u'.drop j = u.drop j := by
  apply List.ext_getElem
  · simp [hl]
  · intro i h1 h2
    simp only [List.length_drop] at h1
    have := h (j + i) (by omega)
    have e1 : u'.getD (j + i) 0 = u'[j + i]'(by omega) := by simp [List.getD, show j + i < u'.length by omega]
    have e2 : u.getD (j + i) 0 = u[j + i]'(by omega) := by simp [List.getD, show j + i < u.length by omega]
    rw [List.getElem_drop, List.getElem_drop, ← e1, ← e2, this]
theorem zc3 (u : List Int) (j : Nat) (h : j ≤ u.length) : vl u = vl (u.take j) + 100000000 ^ j * vl (u.drop j) := by
  have := za7 (u.take j) (u.drop j)
  rw [List.take_append_drop, List.length_take, Nat.min_eq_left h] at this
  exact this
theorem zhz (u : List Int) (j n : Nat) (h : j + n ≤ u.length) : vl (u.drop j) = vl ((u.drop j).take n) + 100000000 ^ n * vl (u.drop (j + n)) := by
  have := zc3 (u.drop j) n (by simp; omega)
  rw [List.drop_drop] at this
  exact this
theorem zhS {j : Nat} {a b : Int} (h : 100000000 ^ j * a = 100000000 ^ j * b) : a = b :=
  Int.eq_of_mul_eq_mul_left (Int.ne_of_gt (pow_pos j)) h
theorem subL (a f : Int) (n2 : Nat) (V : Int) (L J j : Nat) (g : Int) (out : List Int) (hL : L ≤ 4194304) (hj : j + (digs V.natAbs).length < L) (hg0 : 0 ≤ g) (hg1 : g < 100000000) :
    ∀ (r i : Nat) (u : List Int) (c : Int), i + r = (digs V.natAbs).length → Digs u → u.length = L → -100000000 ≤ c → c ≤ 0 →
    ∃ (u2 : List Int) (c2 : Int), Digs u2 ∧ u2.length = L ∧ -100000000 ≤ c2 ∧ c2 ≤ 0 ∧ vl u2 + 100000000 ^ (j + (digs V.natAbs).length) * c2 = vl u + 100000000 ^ (j + i) * (c - g * vl ((digs V.natAbs).drop i)) ∧
      (∀ p, j + (digs V.natAbs).length ≤ p → u2.getD p 0 = u.getD p 0) ∧ (∀ p, p < j → u2.getD p 0 = u.getD p 0) ∧
      Loops 7 Tryz.prog (eZ Tryz.prog 176 1) (LSb a f n2 V L J j g c i u out) (.exit 2, LSb a f n2 V L J j g c2 ((digs V.natAbs).length : Int) u2 out)
  | 0, i, u, c, hi, hd, hl, hc0, hc1 => by
    obtain rfl : i = (digs V.natAbs).length := by omega
    refine ⟨u, c, hd, hl, hc0, hc1, ?_, fun _ _ => rfl, fun _ _ => rfl, Loops.fin (LS.of zmU (loS_1 a f n2 V L J j g c ((digs V.natAbs).length : Int) u out) (by (repeat' (first | exact AllC.nil | refine AllC.cons ?_ ?_)); all_goals (first | exact fZ | ((with_reducible refine inR64.2 ?_); omega) | (with_reducible refine pFl ?_ ?_ <;> omega) | ((with_reducible refine decide_eq_true ?_); omega) | ((with_reducible refine decide_eq_false ?_); omega) | omega | (simp [] <;> omega) | assumption | rfl))) (by simp [Ex.toExit])⟩
    rw [List.drop_length]; simp [vl]
  | r + 1, i, u, c, hi, hd, hl, hc0, hc1 => by
    have hnat : 0 + Int.toNat ((i : Int) + (j : Int)) * 1 = j + i := by omega
    have hin : Int.toNat (i : Int) = i := by omega
    have hib : i < (digs V.natAbs).length := by omega
    obtain ⟨hy0, hy1⟩ := LZ (pZ V.natAbs) i
    obtain ⟨hx0, hx1⟩ := LZ hd (j + i)
    obtain ⟨hm0, hm1⟩ := mul_dig hg0 hg1 hy0 hy1
    have hdr := zaG (digs V.natAbs) i
    have e2 : ∀ t, t = u.getD (j + i) 0 - g * (digs V.natAbs).getD i 0 + c →
        c - g * ((digs V.natAbs).getD i 0 + 100000000 * vl ((digs V.natAbs).drop (i + 1))) = (t % 100000000 - u.getD (j + i) 0) + 100000000 * (t / 100000000 - g * vl ((digs V.natAbs).drop (i + 1))) := by
      intro t ht
      rw [Int.mul_add g, Int.mul_left_comm g 100000000]
      generalize g * (digs V.natAbs).getD i 0 = m at *
      omega
    generalize hm : g * (digs V.natAbs).getD i 0 = m at *
    have h := LS.of zmU (loS_0 a f n2 V L J j g c i u out) (by
      rw [hnat, hin, hm]
      exact (by (repeat' (first | exact AllC.nil | refine AllC.cons ?_ ?_)); all_goals (first | exact fZ | ((with_reducible refine inR64.2 ?_); omega) | (with_reducible refine pFl ?_ ?_ <;> omega) | ((with_reducible refine decide_eq_true ?_); omega) | ((with_reducible refine decide_eq_false ?_); omega) | omega | (simp [hib, hl, bZ] <;> omega) | assumption | rfl)))
    rw [hnat, hin, hm] at h
    have hv := zgc u (j + i) ((u.getD (j + i) 0 - m + c) % 100000000) (by omega)
    have hD : Digs (u.set (j + i) ((u.getD (j + i) 0 - m + c) % 100000000)) := zev hd _ (by omega) (by omega)
    obtain ⟨u2, c2, k1, k2, k3, k4, k5, k6, k7, k8⟩ := subL a f n2 V L J j g out hL hj hg0 hg1 r (i + 1) (u.set (j + i) ((u.getD (j + i) 0 - m + c) % 100000000)) ((u.getD (j + i) 0 - m + c) / 100000000)
      (by omega) hD (by simp; omega) (by omega) (by omega)
    have e : ((i + 1 : Nat) : Int) = (i : Int) + 1 := by omega
    rw [e] at k8
    refine ⟨u2, c2, k1, k2, k3, k4, ?_, fun p hp => (k6 p hp).trans (getD_set_ne _ _ _ _ (by omega)), fun p hp => (k7 p hp).trans (getD_set_ne _ _ _ _ (by omega)), Loops.go h k8⟩
    rw [k5, hv, hdr, ← Nat.add_assoc, Int.pow_succ, e2 _ rfl, alg1, Int.add_assoc]
theorem addL (a f : Int) (n2 : Nat) (V : Int) (L J j : Nat) (g : Int) (out : List Int) (hL : L ≤ 4194304) (hj : j + (digs V.natAbs).length < L) :
    ∀ (r i : Nat) (u : List Int) (c : Int), i + r = (digs V.natAbs).length → Dg u (j + (digs V.natAbs).length) → u.length = L → (c = 0 ∨ c = 1) →
    ∃ (u2 : List Int) (c2 : Int), Dg u2 (j + (digs V.natAbs).length) ∧ u2.length = L ∧ (c2 = 0 ∨ c2 = 1) ∧ vl u2 + 100000000 ^ (j + (digs V.natAbs).length) * c2 = vl u + 100000000 ^ (j + i) * (c + vl ((digs V.natAbs).drop i)) ∧
      (∀ p, j + (digs V.natAbs).length ≤ p → u2.getD p 0 = u.getD p 0) ∧ (∀ p, p < j → u2.getD p 0 = u.getD p 0) ∧
      Loops 7 Tryz.prog (eZ Tryz.prog 176 3) (LA a f n2 V L J j g c i u out) (.exit 6, LA a f n2 V L J j g c2 ((digs V.natAbs).length : Int) u2 out)
  | 0, i, u, c, hi, hd, hl, hc => by
    obtain rfl : i = (digs V.natAbs).length := by omega
    refine ⟨u, c, hd, hl, hc, ?_, fun _ _ => rfl, fun _ _ => rfl, Loops.fin (LS.of zmU (loA_1 a f n2 V L J j g c ((digs V.natAbs).length : Int) u out) (by (repeat' (first | exact AllC.nil | refine AllC.cons ?_ ?_)); all_goals (first | exact fZ | ((with_reducible refine inR64.2 ?_); omega) | (with_reducible refine pFl ?_ ?_ <;> omega) | ((with_reducible refine decide_eq_true ?_); omega) | ((with_reducible refine decide_eq_false ?_); omega) | omega | (simp [] <;> omega) | assumption | rfl))) (by simp [Ex.toExit])⟩
    rw [List.drop_length]; simp [vl]
  | r + 1, i, u, c, hi, hd, hl, hc => by
    have hnat : 0 + Int.toNat ((i : Int) + (j : Int)) * 1 = j + i := by omega
    have hin : Int.toNat (i : Int) = i := by omega
    have hib : i < (digs V.natAbs).length := by omega
    obtain ⟨hy0, hy1⟩ := LZ (pZ V.natAbs) i
    obtain ⟨hx0, hx1⟩ := hd (j + i) (by omega)
    have hdr := zaG (digs V.natAbs) i
    have h := LS.of zmU (loA_0 a f n2 V L J j g c i u out) (by
      rw [hnat, hin]
      exact (by (repeat' (first | exact AllC.nil | refine AllC.cons ?_ ?_)); all_goals (first | exact fZ | ((with_reducible refine inR64.2 ?_); omega) | (with_reducible refine pFl ?_ ?_ <;> omega) | ((with_reducible refine decide_eq_true ?_); omega) | ((with_reducible refine decide_eq_false ?_); omega) | omega | (simp [hib, hl, bZ] <;> omega) | assumption | rfl)))
    rw [hnat, hin] at h
    have hv := zgc u (j + i) ((u.getD (j + i) 0 + (digs V.natAbs).getD i 0 + c) % 100000000) (by omega)
    have hD : Dg (u.set (j + i) ((u.getD (j + i) 0 + (digs V.natAbs).getD i 0 + c) % 100000000)) (j + (digs V.natAbs).length) := hd.set _ (by omega) (by omega) (by omega)
    obtain ⟨u2, c2, k1, k2, k3, k5, k6, k7, k8⟩ := addL a f n2 V L J j g out hL hj r (i + 1) (u.set (j + i) ((u.getD (j + i) 0 + (digs V.natAbs).getD i 0 + c) % 100000000)) ((u.getD (j + i) 0 + (digs V.natAbs).getD i 0 + c) / 100000000)
      (by omega) hD (by simp; omega) (by omega)
    have e : ((i + 1 : Nat) : Int) = (i : Int) + 1 := by omega
    rw [e] at k8
    refine ⟨u2, c2, k1, k2, k3, ?_, fun p hp => (k6 p hp).trans (getD_set_ne _ _ _ _ (by omega)), fun p hp => (k7 p hp).trans (getD_set_ne _ _ _ _ (by omega)), Loops.go h k8⟩
    rw [k5, hv, hdr, ← Nat.add_assoc, Int.pow_succ]
    have e2 : c + ((digs V.natAbs).getD i 0 + 100000000 * vl ((digs V.natAbs).drop (i + 1))) = ((u.getD (j + i) 0 + (digs V.natAbs).getD i 0 + c) % 100000000 - u.getD (j + i) 0) + 100000000 * ((u.getD (j + i) 0 + (digs V.natAbs).getD i 0 + c) / 100000000 + vl ((digs V.natAbs).drop (i + 1))) := by omega
    rw [e2, alg1, Int.add_assoc]
theorem zcQ {n : Nat} {t : Int} (h : 1 ≤ t) : (100000000 : Int) ^ n ≤ 100000000 ^ n * t := by
  have := Int.mul_le_mul_of_nonneg_left h (zlY n)
  rwa [Int.mul_one] at this
theorem zeP {n : Nat} {t : Int} (h : t ≤ -1) : (100000000 : Int) ^ n * t ≤ - 100000000 ^ n := by
  have := Int.mul_le_mul_of_nonneg_left h (zlY n)
  rw [Int.mul_neg, Int.mul_one] at this
  exact this
theorem zg9 (V : Int) : (V.natAbs : Int) < 100000000 ^ (digs V.natAbs).length := by
  have := zfK (pZ V.natAbs)
  rwa [zae] at this
theorem window {u : List Int} {j n : Nat} (h : j + n < u.length) (hd : Dg u (j + n)) (hz : vl (u.drop (j + n + 1)) = 0) :
    ∃ low, 0 ≤ low ∧ low < 100000000 ^ n ∧ vl (u.drop j) = low + 100000000 ^ n * u.getD (j + n) 0 := by
  have hD : Digs ((u.drop j).take n) := by
    intro d hd'
    obtain ⟨q, hq, rfl⟩ := List.getElem_of_mem hd'
    simp only [List.length_take, List.length_drop] at hq
    have hq2 : j + q < u.length := by omega
    rw [List.getElem_take, List.getElem_drop]
    have := hd (j + q) (by omega)
    simpa [List.getD, hq2] using this
  refine ⟨vl ((u.drop j).take n), KZ hD, ?_, ?_⟩
  · have := zfK hD
    have hl : ((u.drop j).take n).length = n := by simp; omega
    rwa [hl] at this
  · rw [zhz u j n (by omega), zaG u (j + n), hz, Int.mul_zero, Int.add_zero]
theorem corL (a f : Int) (n2 : Nat) (V : Int) (L J j : Nat) (out : List Int) (hL : L ≤ 4194304) (hj : j + (digs V.natAbs).length < L) (U : Int) (hU : 0 ≤ U) :
    ∀ (k : Nat) (g : Int) (u : List Int), g ≤ k → 0 ≤ g → g < 100000000 → Dg u (j + (digs V.natAbs).length) → u.length = L → vl (u.drop (j + (digs V.natAbs).length + 1)) = 0 →
      vl (u.drop j) = U - g * (V.natAbs : Int) → U < (g + 1) * (V.natAbs : Int) → -100000000 ≤ u.getD (j + (digs V.natAbs).length) 0 → u.getD (j + (digs V.natAbs).length) 0 ≤ 100000000 →
    ∃ (g2 : Int) (u2 : List Int), 0 ≤ g2 ∧ g2 < 100000000 ∧ Digs u2 ∧ u2.length = L ∧ (∀ q, q < j → u2.getD q 0 = u.getD q 0) ∧ vl (u2.drop j) = U - g2 * (V.natAbs : Int) ∧ vl (u2.drop j) < (V.natAbs : Int) ∧
      Loops 7 Tryz.prog (eZ Tryz.prog 176 2) (LC a f n2 V L J j g u out) (.exit 4, LC a f n2 V L J j g2 u2 out) := by
  intro k
  induction k with
  | zero =>
    intro g u hgk hg0 hg1 hd hl hz hH hUg hb1 hb2
    obtain rfl : g = 0 := by omega
    obtain ⟨low, hl0, hl1, hw⟩ := window (by omega) hd hz
    have hnat : 0 + Int.toNat ((j : Int) + ((digs V.natAbs).length : Int)) * 1 = j + (digs V.natAbs).length := by omega
    have hVB := zg9 V
    rw [Int.zero_mul, Int.sub_zero] at hH
    have htop : u.getD (j + (digs V.natAbs).length) 0 = 0 := by
      rcases Int.lt_or_le (u.getD (j + (digs V.natAbs).length) 0) 0 with h | h
      · have := zeP (n := (digs V.natAbs).length) (show u.getD (j + (digs V.natAbs).length) 0 ≤ -1 by omega)
        omega
      · rcases Int.lt_or_le 0 (u.getD (j + (digs V.natAbs).length) 0) with h2 | h2
        · have := zcQ (n := (digs V.natAbs).length) (show 1 ≤ u.getD (j + (digs V.natAbs).length) 0 by omega)
          omega
        · omega
    have h := LS.of zmU (loD_0 a f n2 V L J j 0 u out) (by
      rw [hnat]
      exact (by (repeat' (first | exact AllC.nil | refine AllC.cons ?_ ?_)); all_goals (first | exact fZ | ((with_reducible refine inR64.2 ?_); omega) | (with_reducible refine pFl ?_ ?_ <;> omega) | ((with_reducible refine decide_eq_true ?_); omega) | ((with_reducible refine decide_eq_false ?_); omega) | omega | (simp [hl] <;> omega) | assumption | rfl)))
    refine ⟨0, u, by omega, by omega, hd.digs (by omega) (by omega), hl, fun _ _ => rfl, by rw [hH]; omega, by omega, Loops.fin h (by simp [Ex.toExit])⟩
  | succ k ih =>
    intro g u hgk hg0 hg1 hd hl hz hH hUg hb1 hb2
    obtain ⟨low, hl0, hl1, hw⟩ := window (by omega) hd hz
    have hnat : 0 + Int.toNat ((j : Int) + ((digs V.natAbs).length : Int)) * 1 = j + (digs V.natAbs).length := by omega
    have hVB := zg9 V
    have hexp : (g + 1) * (V.natAbs : Int) = g * (V.natAbs : Int) + (V.natAbs : Int) := by rw [Int.add_mul, Int.one_mul]
    have hgV : 0 ≤ g * (V.natAbs : Int) := Int.mul_nonneg hg0 (by omega)
    rcases Int.lt_or_le (u.getD (j + (digs V.natAbs).length) 0) 0 with hneg | hpos
    · have hn := zeP (n := (digs V.natAbs).length) (show u.getD (j + (digs V.natAbs).length) 0 ≤ -1 by omega)
      have hg1' : 1 ≤ g := by
        rcases Int.lt_or_le g 1 with h | h
        · have : g = 0 := by omega
          subst this
          rw [Int.zero_mul] at hH
          omega
        · exact h
      obtain ⟨u2, c2, k1, k2, k3, k5, k6, k7, k8⟩ := addL a f n2 V L J j (g - 1) out hL hj (digs V.natAbs).length 0 u 0 (by omega) hd hl (.inl rfl)
      have k8' : Loops 7 Tryz.prog (eZ Tryz.prog 176 3) (LA a f n2 V L J j (g - 1) 0 0 u out) (.exit 6, LA a f n2 V L J j (g - 1) c2 ((digs V.natAbs).length : Int) u2 out) := k8
      have ht2 := k6 (j + (digs V.natAbs).length) (Nat.le_refl _)
      have h := LS.of zmU (loC_0 a f n2 V L J j g c2 ((digs V.natAbs).length : Int) u u2 out) (by
        rw [hnat]
        exact (by (repeat' (first | exact AllC.nil | refine AllC.cons ?_ ?_)); all_goals (first | exact fZ | ((with_reducible refine inR64.2 ?_); omega) | (with_reducible refine pFl ?_ ?_ <;> omega) | ((with_reducible refine decide_eq_true ?_); omega) | ((with_reducible refine decide_eq_false ?_); omega) | omega | (simp [hl, k2] <;> omega) | assumption | rfl)))
      rw [hnat] at h
      have hv := zgc u2 (j + (digs V.natAbs).length) (u2.getD (j + (digs V.natAbs).length) 0 + c2) (by omega)
      generalize hu3 : u2.set (j + (digs V.natAbs).length) (u2.getD (j + (digs V.natAbs).length) 0 + c2) = u3 at *
      have hl3 : u3.length = L := by rw [← hu3]; simp [k2]
      have hlow3 : ∀ q, q < j → u3.getD q 0 = u.getD q 0 := fun q hq => by
        rw [← hu3, getD_set_ne _ _ _ _ (by omega)]; exact k7 q hq
      have hhigh3 : vl (u3.drop (j + (digs V.natAbs).length + 1)) = 0 := by
        rw [drop_eq (u := u) (by rw [hl3, hl]) (fun q hq => by
          rw [← hu3, getD_set_ne _ _ _ _ (by omega)]; exact k6 q (by omega))]
        exact hz
      have htop3 : u3.getD (j + (digs V.natAbs).length) 0 = u.getD (j + (digs V.natAbs).length) 0 + c2 := by
        rw [← hu3, zbC _ _ _ (by omega), ht2]
      have hd3 : Dg u3 (j + (digs V.natAbs).length) := by rw [← hu3]; exact k1.top _
      have hH3 : vl (u3.drop j) = U - (g - 1) * (V.natAbs : Int) := by
        have s1 := zc3 u j (by omega)
        have s3 := zc3 u3 j (by omega)
        rw [zk9 (by rw [hl3, hl]) hlow3] at s3
        have e1 : u2.getD (j + (digs V.natAbs).length) 0 + c2 - u2.getD (j + (digs V.natAbs).length) 0 = c2 := by omega
        rw [e1, k5, Nat.add_zero, Int.zero_add, List.drop_zero, zae] at hv
        have : (100000000 : Int) ^ j * vl (u3.drop j) = 100000000 ^ j * (vl (u.drop j) + (V.natAbs : Int)) := by rw [Int.mul_add]; omega
        rw [zhS this, hH, Int.sub_mul, Int.one_mul]; omega
      obtain ⟨g2, u4, m1, m2, m3, m4, m5, m6, m7, m8⟩ := ih (g - 1) u3 (by omega) (by omega) (by omega) hd3 hl3 hhigh3 hH3 (by
        have : g - 1 + 1 = g := by omega
        rw [this]; omega) (by rw [htop3]; omega) (by rw [htop3]; omega)
      exact ⟨g2, u4, m1, m2, m3, m4, fun q hq => (m5 q hq).trans (hlow3 q hq), m6, m7, Loops.go h m8⟩
    · have htop : u.getD (j + (digs V.natAbs).length) 0 = 0 := by
        rcases Int.lt_or_le 0 (u.getD (j + (digs V.natAbs).length) 0) with h2 | h2
        · have := zcQ (n := (digs V.natAbs).length) (show 1 ≤ u.getD (j + (digs V.natAbs).length) 0 by omega)
          omega
        · omega
      have h := LS.of zmU (loD_0 a f n2 V L J j g u out) (by
        rw [hnat]
        exact (by (repeat' (first | exact AllC.nil | refine AllC.cons ?_ ?_)); all_goals (first | exact fZ | ((with_reducible refine inR64.2 ?_); omega) | (with_reducible refine pFl ?_ ?_ <;> omega) | ((with_reducible refine decide_eq_true ?_); omega) | ((with_reducible refine decide_eq_false ?_); omega) | omega | (simp [hl] <;> omega) | assumption | rfl)))
      exact ⟨g, u, hg0, hg1, hd.digs (by omega) (by omega), hl, fun _ _ => rfl, hH, by omega, Loops.fin h (by simp [Ex.toExit])⟩
theorem last_ne {n : Nat} (h : n ≠ 0) : 0 < (digs n).getD ((digs n).length - 1) 0 := by
  have hd := (LZ (pZ n) ((digs n).length - 1)).1
  rcases Int.lt_or_le 0 ((digs n).getD ((digs n).length - 1) 0) with h1 | h1
  · exact h1
  · exfalso
    have h0 : (digs n).getD ((digs n).length - 1) 0 = 0 := by omega
    have hne : digs n ≠ [] := fun e => h ((zbY n).1 e)
    have hlen : 0 < (digs n).length := List.length_pos_iff.2 hne
    obtain ⟨q, d, hq⟩ : ∃ q d, digs n = q ++ [d] := by
      rcases List.eq_nil_or_concat (digs n) with e | ⟨q, d, e⟩
      · exact absurd e hne
      · exact ⟨q, d, by simpa using e⟩
    have e := zc1 n
    rw [hq] at h0 e
    have hd0 : d = 0 := by simpa [List.getD] using h0
    subst hd0
    rw [zgL] at e
    have := zfJ q
    have e2 := congrArg List.length e
    simp at e2
    omega
theorem mainL (a f : Int) (n2 : Nat) (V : Int) (L J : Nat) (hL : L ≤ 4194304) (hV : V ≠ 0) (hn : 1 ≤ (digs V.natAbs).length) (A : Int) :
    ∀ (k : Nat) (u out : List Int), k ≤ J → (k = 0 ∨ k + (digs V.natAbs).length ≤ L) → Digs u → u.length = L → Digs out → out.length = J → (∀ q, q < k → out.getD q 0 = 0) → vl (u.drop k) < (V.natAbs : Int) →
      vl u + (V.natAbs : Int) * vl out = A →
    ∃ (u2 out2 : List Int), Digs u2 ∧ u2.length = L ∧ Digs out2 ∧ out2.length = J ∧ vl u2 < (V.natAbs : Int) ∧ vl u2 + (V.natAbs : Int) * vl out2 = A ∧
      Loops 7 Tryz.prog (eZ Tryz.prog 176 0) (LO a f n2 V L J ((k : Int) - 1) u out) (.exit 0, LO a f n2 V L J (-1) u2 out2) := by
  intro k
  induction k with
  | zero =>
    intro u out hk hkl hd hl hdo hlo hz hlt hA
    rw [List.drop_zero] at hlt
    exact ⟨u, out, hd, hl, hdo, hlo, hlt, hA, Loops.fin (LS.of zmU (loX_0 a f n2 V L J (-1) u out) (by (repeat' (first | exact AllC.nil | refine AllC.cons ?_ ?_)); all_goals (first | exact fZ | ((with_reducible refine inR64.2 ?_); omega) | (with_reducible refine pFl ?_ ?_ <;> omega) | ((with_reducible refine decide_eq_true ?_); omega) | ((with_reducible refine decide_eq_false ?_); omega) | omega | (simp [] <;> omega) | assumption | rfl))) (by simp [Ex.toExit])⟩
  | succ k ih =>
    intro u out hk hkl hd hl hdo hlo hz hlt hA
    have hkl' : k + 1 + (digs V.natAbs).length ≤ L := by omega
    have hVB := zg9 V
    have ejj : ((k + 1 : Nat) : Int) - 1 = (k : Int) := by omega
    rw [ejj]
    have hnat : 0 + Int.toNat ((k : Int) + ((digs V.natAbs).length : Int)) * 1 = k + (digs V.natAbs).length := by omega
    have hnat1 : 0 + Int.toNat ((k : Int) + ((digs V.natAbs).length : Int) - 1) * 1 = k + (digs V.natAbs).length - 1 := by omega
    have hnat2 : Int.toNat (((digs V.natAbs).length : Int) - 1) = (digs V.natAbs).length - 1 := by omega
    have hnat3 : 0 + Int.toNat (k : Int) * 1 = k := by omega
    have hnat4 : Int.toNat (k : Int) = k := by omega
    have hx := LZ hd k
    have hU0 : 0 ≤ vl (u.drop k) := KZ (zc9 hd k)
    have hU1 := zaG u k
    have hhz : vl (u.drop (k + (digs V.natAbs).length + 1)) = 0 := by
      have h1 := zhz u (k + 1) (digs V.natAbs).length (by omega)
      have h2 := KZ (zbp (zc9 hd (k + 1)) (digs V.natAbs).length)
      have h3 := KZ (zc9 hd (k + 1 + (digs V.natAbs).length))
      have e : k + 1 + (digs V.natAbs).length = k + (digs V.natAbs).length + 1 := by omega
      rw [e] at h1 h3
      rcases Int.lt_or_le 0 (vl (u.drop (k + (digs V.natAbs).length + 1))) with h4 | h4
      · have := zcQ (n := (digs V.natAbs).length) (show 1 ≤ vl (u.drop (k + (digs V.natAbs).length + 1)) by omega)
        omega
      · omega
    have hp0 := LZ hd (k + (digs V.natAbs).length)
    have hp1 := LZ hd (k + (digs V.natAbs).length - 1)
    have hvt := last_ne (n := V.natAbs) (by omega)
    have hvt2 := (LZ (pZ V.natAbs) ((digs V.natAbs).length - 1)).2
    obtain ⟨X, hX⟩ : ∃ X, X = u.getD (k + (digs V.natAbs).length) 0 * 100000000 + u.getD (k + (digs V.natAbs).length - 1) 0 := ⟨_, rfl⟩
    obtain ⟨vt, hvtd⟩ : ∃ vt, vt = (digs V.natAbs).getD ((digs V.natAbs).length - 1) 0 := ⟨_, rfl⟩
    obtain ⟨g, hg⟩ : ∃ g, (if 99999999 < Int.tdiv X vt then 99999999 else Int.tdiv X vt) = g := ⟨_, rfl⟩
    have htd : Int.tdiv X vt = X / vt := Int.tdiv_eq_ediv_of_nonneg (by omega)
    have hX0 : 0 ≤ X / vt := Int.ediv_nonneg (by omega) (by omega)
    have hX1 : X / vt ≤ X := Int.ediv_le_self _ (by omega)
    have hg0 : 0 ≤ g := by rw [← hg, htd]; split <;> omega
    have hg1 : g < 100000000 := by rw [← hg, htd]; split <;> omega
    have hUX : vl (u.drop k) < 100000000 ^ ((digs V.natAbs).length - 1) * (X + 1) := by
      have h1 := zhz u k ((digs V.natAbs).length - 1) (by omega)
      have h2 := zfK (zbp (zc9 hd k) ((digs V.natAbs).length - 1))
      have h3 : ((u.drop k).take ((digs V.natAbs).length - 1)).length = (digs V.natAbs).length - 1 := by simp; omega
      rw [h3] at h2
      have e1 : k + ((digs V.natAbs).length - 1) = k + (digs V.natAbs).length - 1 := by omega
      have e2 : k + (digs V.natAbs).length - 1 + 1 = k + (digs V.natAbs).length := by omega
      rw [e1, zaG u (k + (digs V.natAbs).length - 1), e2, zaG u (k + (digs V.natAbs).length), hhz] at h1
      have e3 : u.getD (k + (digs V.natAbs).length - 1) 0 + 100000000 * (u.getD (k + (digs V.natAbs).length) 0 + 100000000 * 0) = X := by omega
      rw [e3] at h1
      rw [Int.mul_add, Int.mul_one]
      omega
    have hVvt : 100000000 ^ ((digs V.natAbs).length - 1) * vt ≤ (V.natAbs : Int) := by
      have h1 := zc3 (digs V.natAbs) ((digs V.natAbs).length - 1) (by omega)
      have h2 := KZ (zbp (pZ V.natAbs) ((digs V.natAbs).length - 1))
      have e2 : (digs V.natAbs).length - 1 + 1 = (digs V.natAbs).length := by omega
      rw [zae, zaG (digs V.natAbs) ((digs V.natAbs).length - 1), e2, List.drop_length, ← hvtd] at h1
      simp only [vl, Int.mul_zero, Int.add_zero] at h1
      omega
    have hUg : vl (u.drop k) < (g + 1) * (V.natAbs : Int) := by
      by_cases hb : 99999999 < Int.tdiv X vt
      · rw [if_pos hb] at hg
        subst hg
        omega
      · rw [if_neg hb, htd] at hg
        have h1 := Int.lt_ediv_add_one_mul_self X (b := vt) (by omega)
        rw [hg] at h1
        have h2 : 100000000 ^ ((digs V.natAbs).length - 1) * (X + 1) ≤ 100000000 ^ ((digs V.natAbs).length - 1) * ((g + 1) * vt) := Int.mul_le_mul_of_nonneg_left (by omega) (zlY _)
        have h3 : (g + 1) * (100000000 ^ ((digs V.natAbs).length - 1) * vt) ≤ (g + 1) * (V.natAbs : Int) := Int.mul_le_mul_of_nonneg_left hVvt (by omega)
        rw [Int.mul_left_comm] at h2
        omega
    obtain ⟨u2, c2, k1, k2, k3, k4, k5, k6, k7, k8⟩ := subL a f n2 V L J k g out hL (by omega) hg0 hg1 (digs V.natAbs).length 0 u 0 (by omega) hd hl (by omega) (by omega)
    have k8' : Loops 7 Tryz.prog (eZ Tryz.prog 176 1) (LSb a f n2 V L J k g 0 0 u out) (.exit 2, LSb a f n2 V L J k g c2 ((digs V.natAbs).length : Int) u2 out) := k8
    have ht2 := k6 (k + (digs V.natAbs).length) (Nat.le_refl _)
    have hv := zgc u2 (k + (digs V.natAbs).length) (u2.getD (k + (digs V.natAbs).length) 0 + c2) (by omega)
    obtain ⟨u3, hu3⟩ : ∃ u3, u2.set (k + (digs V.natAbs).length) (u2.getD (k + (digs V.natAbs).length) 0 + c2) = u3 := ⟨_, rfl⟩
    rw [hu3] at hv
    have hl3 : u3.length = L := by rw [← hu3]; simp [k2]
    have hlow3 : ∀ q, q < k → u3.getD q 0 = u.getD q 0 := fun q hq => by
      rw [← hu3, getD_set_ne _ _ _ _ (by omega)]; exact k7 q hq
    have hhigh3 : vl (u3.drop (k + (digs V.natAbs).length + 1)) = 0 := by
      rw [drop_eq (u := u) (by rw [hl3, hl]) (fun q hq => by
        rw [← hu3, getD_set_ne _ _ _ _ (by omega)]; exact k6 q (by omega))]
      exact hhz
    have htop3 : u3.getD (k + (digs V.natAbs).length) 0 = u.getD (k + (digs V.natAbs).length) 0 + c2 := by
      rw [← hu3, zbC _ _ _ (by omega), ht2]
    have hd3 : Dg u3 (k + (digs V.natAbs).length) := by rw [← hu3]; exact (Dg.of k1 _).top _
    have s1 := zc3 u k (by omega)
    have hH3 : vl (u3.drop k) = vl (u.drop k) - g * (V.natAbs : Int) := by
      have s3 := zc3 u3 k (by omega)
      rw [zk9 (by rw [hl3, hl]) hlow3] at s3
      have e1 : u2.getD (k + (digs V.natAbs).length) 0 + c2 - u2.getD (k + (digs V.natAbs).length) 0 = c2 := by omega
      rw [e1, k5, Nat.add_zero, Int.zero_sub, List.drop_zero, zae] at hv
      have : (100000000 : Int) ^ k * vl (u3.drop k) = 100000000 ^ k * (vl (u.drop k) - g * (V.natAbs : Int)) := by rw [Int.mul_sub]; rw [Int.mul_neg] at hv; omega
      exact zhS this
    obtain ⟨g2, u4, m1, m2, m3, m4, m5, m6, m7, m8⟩ := corL a f n2 V L J k out hL (by omega) (vl (u.drop k)) hU0 g.toNat g u3 (by omega) hg0 hg1 hd3 hl3 hhigh3 hH3 hUg (by rw [htop3]; omega) (by rw [htop3]; omega)
    have hg' := hg
    rw [htd] at hg'
    have h := LS.of zmU (loM_0 a f n2 V L J k g g2 c2 ((digs V.natAbs).length : Int) u u2 u4 out) (by
      have hn0 : (!decide (vt = 0)) = true := by simp; omega
      simp only [hnat, hnat1, hnat2, hnat3, hnat4, ← hX, ← hvtd, htd, hg', hu3]
      rw [← hu3] at m8
      have hbd : X ≤ 9999999999999999 := by omega
      have hXa : u.getD (k + (digs V.natAbs).length) 0 * 100000000 ≤ 9999999900000000 := by omega
      have hXb : 0 ≤ u.getD (k + (digs V.natAbs).length) 0 * 100000000 := by omega
      have hvl : 0 < (digs V.natAbs).length := by omega
      rw [hu3] at m8
      exact (by (repeat' (first | exact AllC.nil | refine AllC.cons ?_ ?_)); all_goals (first | exact fZ | ((with_reducible refine inR64.2 ?_); omega) | (with_reducible refine pFl ?_ ?_ <;> omega) | ((with_reducible refine decide_eq_true ?_); omega) | ((with_reducible refine decide_eq_false ?_); omega) | omega | (simp [hl, k2, hlo, hvl] <;> omega) | assumption | rfl)))
    rw [hnat3] at h
    have hv2 := zgc out k g2 (by omega)
    rw [hz k (by omega), Int.sub_zero] at hv2
    have s4 := zc3 u4 k (by omega)
    rw [zk9 (by rw [m4, hl]) (fun q hq => (m5 q hq).trans (hlow3 q hq)), m6, Int.mul_sub] at s4
    have hA2 : vl u4 + (V.natAbs : Int) * vl (out.set k g2) = A := by
      rw [hv2, Int.mul_add]
      have e : (V.natAbs : Int) * (100000000 ^ k * g2) = 100000000 ^ k * (g2 * (V.natAbs : Int)) := by rw [Int.mul_left_comm, Int.mul_comm (V.natAbs : Int) g2]
      rw [e]
      omega
    obtain ⟨u5, o5, p1, p2, p3, p4, p5, p6, p7⟩ := ih u4 (out.set k g2) (by omega) (by omega) m3 m4 (zev hdo _ m1 m2) (by simp; omega) (fun q hq => by
      rw [getD_set_ne _ _ _ _ (by omega)]; exact hz q (by omega)) m7 hA2
    exact ⟨u5, o5, p1, p2, p3, p4, p5, p6, Loops.go h p7⟩
theorem twL_0 (c d : Bool) (a b : Int) (n : Nat) (l : List Int) : za3 (dZ Tryz.prog zkL bw [107, 150]) 60 (eZ Tryz.prog 150 0) 4 [] [0] [] (TW c d a b n l) [true, true] [] = some (Ex.normal, ⟨sp 21 [(0, .own 3 0 ((n : Int) - 1).toNat 1)], [.flat [.lit (.bool c), .wd a] true, .flat [.lit (.bool d), .wd b] true, .flat [aF, aN] true, .ints l true], []⟩, [decide ((n : Int) > 0) = true, inR .i64 ((n : Int) - 1) = true, decide (0 ≤ (n : Int) - 1) = true, decide ((n : Int) - 1 < (n : Int)) = true, decide (0 + ((n : Int) - 1).toNat * 1 < l.length) = true, (l.getD (0 + ((n : Int) - 1).toNat * 1) 0 == 0) = true, inR .i64 ((n : Int) - 1) = true, decide (0 ≤ (n : Int) - 1) = true, decide ((n : Int) - 1 ≤ (n : Int)) = true]) := by kernel_rfl
theorem twL_1 (c d : Bool) (a b : Int) (n : Nat) (l : List Int) : za3 (dZ Tryz.prog zkL bw [107, 150]) 60 (eZ Tryz.prog 150 0) 4 [] [0] [] (TW c d a b n l) [true, false] [] = some (Ex.exit 0, ⟨sp 21 [(0, .own 3 0 n 1)], [.flat [.lit (.bool c), .wd a] true, .flat [.lit (.bool d), .wd b] true, .flat [aF, aN] true, .ints l true], []⟩, [decide ((n : Int) > 0) = true, inR .i64 ((n : Int) - 1) = true, decide (0 ≤ (n : Int) - 1) = true, decide ((n : Int) - 1 < (n : Int)) = true, decide (0 + ((n : Int) - 1).toNat * 1 < l.length) = true, (l.getD (0 + ((n : Int) - 1).toNat * 1) 0 == 0) = false]) := by kernel_rfl
theorem twL_2 (c d : Bool) (a b : Int) (n : Nat) (l : List Int) : za3 (dZ Tryz.prog zkL bw [107, 150]) 60 (eZ Tryz.prog 150 0) 4 [] [0] [] (TW c d a b n l) [false] [] = some (Ex.exit 0, ⟨sp 21 [(0, .own 3 0 n 1)], [.flat [.lit (.bool c), .wd a] true, .flat [.lit (.bool d), .wd b] true, .flat [aF, aN] true, .ints l true], []⟩, [decide ((n : Int) > 0) = false]) := by kernel_rfl
abbrev zkV (a f V : Int) (b L J : Nat) (l : List Int) : St := ⟨sp 182 [(6, aI f), (7, .own 5 0 L 1), (8, .wd V), (9, aI (↑((digs V.natAbs).length) : Int)), (10, .own 6 0 J 1), (11, aI ((J : Int) - 1))], [.flat [aF, .wd a] true, .flat [aD f, .wd f] true, .flat [.lit (.bool (!(false == decide (f < 0)))), .own 3 0 b 1] true, .dead, .ints [0, 0] true, .ints (l.take b ++ [0, 0]) true, .ints (List.replicate J 0) true], [2, 3, 4, 5, 6]⟩
abbrev lg_2_s1 (a f V : Int) (b L J : Nat) (c d : List Int) : St := ⟨sp 182 [(6, aI f), (7, .own 5 0 L 1), (8, .wd V), (9, aI (↑((digs V.natAbs).length) : Int)), (10, .own 6 0 J 1), (11, aI (-1))], [.flat [aF, .wd a] true, .flat [aD f, .wd f] true, .flat [.lit (.bool (!(false == decide (f < 0)))), .own 3 0 b 1] true, .dead, .ints [0, 0] true, .ints c true, .ints d true], [2, 3, 4, 5, 6]⟩
abbrev zkW (a f : Int) (n : Nat) : St := ⟨sp 86 [(2, .ref 0 0), (3, .ref 1 0), (4, .ref 2 0), (5, .own 3 0 n 1), (32, .wd a), (33, aI (↑((digs a.natAbs).length) : Int)), (34, aI 0)], [.flat [aF, .wd a] true, .flat [aD f, .wd f] true, .flat [aF, aN] true, .ints (List.replicate n 0) true], [3]⟩
abbrev lg_2_s3 (a i f : Int) (n : Nat) (l : List Int) : St := ⟨sp 86 [(2, .ref 0 0), (3, .ref 1 0), (4, .ref 2 0), (5, .own 3 0 n 1), (32, .wd a), (33, aI (↑((digs a.natAbs).length) : Int)), (34, aI i)], [.flat [aF, .wd a] true, .flat [aD f, .wd f] true, .flat [aF, aN] true, .ints l true], [3]⟩
theorem lg_2 (a b i f V : Int) (n c L J : Nat) (l d e : List Int) : zaf (dZ Tryz.prog zkL bw [107, 150]) 60 176 [.wd a, .wd b] [false, false] [none, some (wZ Tryz.prog (eZ Tryz.prog 107 0) [] [2,3,4,5,32,33,34] [3] (TO false (decide (f < 0)) a f 0 n (List.replicate n 0)) (.exit 0, TO false (decide (f < 0)) a f i n l)), none, some (wZ Tryz.prog (eZ Tryz.prog 150 0) [] [0] [] (TW false (decide (f < 0)) a f n l) (.exit 0, TW false (decide (f < 0)) a f c l)), some dmy, some (wZ Tryz.prog (eZ Tryz.prog 176 0) [] [6,7,8,9,10,11] [2,3,4,5,6] (LO a f c V L J ((J : Int) - 1) (l.take c ++ [0, 0]) (List.replicate J 0)) (.exit 0, LO a f c V L J (-1) d e)), some dmy, some dmy] = some (.tup [.sq (trm (e.take J)), .wd (vl (trm (d.take L)) / f)], [inR .i64 ((↑((digs b.natAbs).length) : Int) - 1) = true, decide (0 ≤ (↑((digs b.natAbs).length) : Int) - 1) = true, decide ((↑((digs b.natAbs).length) : Int) - 1 < (↑((digs b.natAbs).length) : Int)) = true, decide (((↑((digs b.natAbs).length) : Int) - 1).toNat < (digs b.natAbs).length) = true, inR .i64 ((digs b.natAbs).getD ((↑((digs b.natAbs).length) : Int) - 1).toNat 0 + 1) = true, (!decide ((digs b.natAbs).getD ((↑((digs b.natAbs).length) : Int) - 1).toNat 0 + 1 = 0)) = true, inR .i64 (Int.tdiv 100000000 ((digs b.natAbs).getD ((↑((digs b.natAbs).length) : Int) - 1).toNat 0 + 1)) = true, bZ (Int.tdiv 100000000 ((digs b.natAbs).getD ((↑((digs b.natAbs).length) : Int) - 1).toNat 0 + 1)), ((↑((digs a.natAbs).length) : Int) == 0) = false, ((↑((digs (Int.tdiv 100000000 ((digs b.natAbs).getD ((↑((digs b.natAbs).length) : Int) - 1).toNat 0 + 1)).natAbs).length) : Int) == 0) = false, inR .i64 ((↑((digs a.natAbs).length) : Int) + (↑((digs (Int.tdiv 100000000 ((digs b.natAbs).getD ((↑((digs b.natAbs).length) : Int) - 1).toNat 0 + 1)).natAbs).length) : Int)) = true, decide (0 ≤ (↑((digs a.natAbs).length) : Int) + (↑((digs (Int.tdiv 100000000 ((digs b.natAbs).getD ((↑((digs b.natAbs).length) : Int) - 1).toNat 0 + 1)).natAbs).length) : Int)) = true, decide ((↑((digs a.natAbs).length) : Int) + (↑((digs (Int.tdiv 100000000 ((digs b.natAbs).getD ((↑((digs b.natAbs).length) : Int) - 1).toNat 0 + 1)).natAbs).length) : Int) ≤ (↑((digs a.natAbs).length) : Int) + (↑((digs (Int.tdiv 100000000 ((digs b.natAbs).getD ((↑((digs b.natAbs).length) : Int) - 1).toNat 0 + 1)).natAbs).length) : Int)) = true, decide (8 * ((↑((digs a.natAbs).length) : Int) + (↑((digs (Int.tdiv 100000000 ((digs b.natAbs).getD ((↑((digs b.natAbs).length) : Int) - 1).toNat 0 + 1)).natAbs).length) : Int)) ≤ 281474976710656) = true, decide ((↑((digs a.natAbs).length) : Int) + (↑((digs (Int.tdiv 100000000 ((digs b.natAbs).getD ((↑((digs b.natAbs).length) : Int) - 1).toNat 0 + 1)).natAbs).length) : Int) ≤ 9223372036854775807) = true, IZ Tryz.prog (eZ Tryz.prog 107 0) (wZ Tryz.prog (eZ Tryz.prog 107 0) [] [2, 3, 4, 5, 32, 33, 34] [3] (zkW a f n) (Ex.exit 0, (lg_2_s3 a i f n l))), (⟨sp 86 [(2, .ref 0 0), (3, .ref 1 0), (4, .ref 2 0), (5, .own 3 0 ((↑((digs a.natAbs).length) : Int) + (↑((digs (Int.tdiv 100000000 ((digs b.natAbs).getD ((↑((digs b.natAbs).length) : Int) - 1).toNat 0 + 1)).natAbs).length) : Int)).toNat 1), (32, .wd a), (33, aI (↑((digs a.natAbs).length) : Int)), (34, aI 0)], [.flat [aF, .wd a] true, .flat [.lit (.bool (decide (Int.tdiv 100000000 ((digs b.natAbs).getD ((↑((digs b.natAbs).length) : Int) - 1).toNat 0 + 1) < 0))), .wd (Int.tdiv 100000000 ((digs b.natAbs).getD ((↑((digs b.natAbs).length) : Int) - 1).toNat 0 + 1))] true, .flat [aF, aN] true, .ints (List.replicate ((↑((digs a.natAbs).length) : Int) + (↑((digs (Int.tdiv 100000000 ((digs b.natAbs).getD ((↑((digs b.natAbs).length) : Int) - 1).toNat 0 + 1)).natAbs).length) : Int)).toNat 0) true], [3]⟩ : St) = (zkW a f n), Loops 4 Tryz.prog (eZ Tryz.prog 107 0) (zkW a f n) (Ex.exit 0, (lg_2_s3 a i f n l)), IZ Tryz.prog (eZ Tryz.prog 150 0) (wZ Tryz.prog (eZ Tryz.prog 150 0) [] [0] [] ⟨sp 21 [(0, .own 3 0 n 1)], [.flat [aF, .wd a] true, .flat [aD f, .wd f] true, .flat [aF, aN] true, .ints l true], []⟩ (Ex.exit 0, ⟨sp 21 [(0, .own 3 0 c 1)], [.flat [aF, .wd a] true, .flat [aD f, .wd f] true, .flat [aF, aN] true, .ints l true], []⟩)), (⟨sp 21 [(0, .own 3 0 n 1)], [.flat [aF, .wd a] true, .flat [aD f, .wd f] true, .flat [aF, aN] true, .ints l true], []⟩ : St) = ⟨sp 21 [(0, .own 3 0 n 1)], [.flat [aF, .wd a] true, .flat [aD f, .wd f] true, .flat [aF, aN] true, .ints l true], []⟩, Loops 4 Tryz.prog (eZ Tryz.prog 150 0) ⟨sp 21 [(0, .own 3 0 n 1)], [.flat [aF, .wd a] true, .flat [aD f, .wd f] true, .flat [aF, aN] true, .ints l true], []⟩ (Ex.exit 0, ⟨sp 21 [(0, .own 3 0 c 1)], [.flat [aF, .wd a] true, .flat [aD f, .wd f] true, .flat [aF, aN] true, .ints l true], []⟩), decide ((c + 2) * 8 ≤ 140737488355328) = true, decide (c + 2 ≤ 4611686018427387904) = true, decide (c ≤ l.length) = true, true = true, bZ (Int.tdiv 100000000 ((digs b.natAbs).getD ((↑((digs b.natAbs).length) : Int) - 1).toNat 0 + 1)), false = decide (b < 0), decide (Int.tdiv 100000000 ((digs b.natAbs).getD ((↑((digs b.natAbs).length) : Int) - 1).toNat 0 + 1) < 0) = decide (Int.tdiv 100000000 ((digs b.natAbs).getD ((↑((digs b.natAbs).length) : Int) - 1).toNat 0 + 1) < 0), pDD b (Int.tdiv 100000000 ((digs b.natAbs).getD ((↑((digs b.natAbs).length) : Int) - 1).toNat 0 + 1)), inR .i64 ((↑(c + 2) : Int) - (↑((digs (b * Int.tdiv 100000000 ((digs b.natAbs).getD ((↑((digs b.natAbs).length) : Int) - 1).toNat 0 + 1)).natAbs).length) : Int)) = true, decide (0 ≤ if (↑(c + 2) : Int) - (↑((digs (b * Int.tdiv 100000000 ((digs b.natAbs).getD ((↑((digs b.natAbs).length) : Int) - 1).toNat 0 + 1)).natAbs).length) : Int) > 0 then (↑(c + 2) : Int) - (↑((digs (b * Int.tdiv 100000000 ((digs b.natAbs).getD ((↑((digs b.natAbs).length) : Int) - 1).toNat 0 + 1)).natAbs).length) : Int) else 0) = true, decide ((if (↑(c + 2) : Int) - (↑((digs (b * Int.tdiv 100000000 ((digs b.natAbs).getD ((↑((digs b.natAbs).length) : Int) - 1).toNat 0 + 1)).natAbs).length) : Int) > 0 then (↑(c + 2) : Int) - (↑((digs (b * Int.tdiv 100000000 ((digs b.natAbs).getD ((↑((digs b.natAbs).length) : Int) - 1).toNat 0 + 1)).natAbs).length) : Int) else 0) ≤ if (↑(c + 2) : Int) - (↑((digs (b * Int.tdiv 100000000 ((digs b.natAbs).getD ((↑((digs b.natAbs).length) : Int) - 1).toNat 0 + 1)).natAbs).length) : Int) > 0 then (↑(c + 2) : Int) - (↑((digs (b * Int.tdiv 100000000 ((digs b.natAbs).getD ((↑((digs b.natAbs).length) : Int) - 1).toNat 0 + 1)).natAbs).length) : Int) else 0) = true, decide ((8 * if (↑(c + 2) : Int) - (↑((digs (b * Int.tdiv 100000000 ((digs b.natAbs).getD ((↑((digs b.natAbs).length) : Int) - 1).toNat 0 + 1)).natAbs).length) : Int) > 0 then (↑(c + 2) : Int) - (↑((digs (b * Int.tdiv 100000000 ((digs b.natAbs).getD ((↑((digs b.natAbs).length) : Int) - 1).toNat 0 + 1)).natAbs).length) : Int) else 0) ≤ 281474976710656) = true, decide ((if (↑(c + 2) : Int) - (↑((digs (b * Int.tdiv 100000000 ((digs b.natAbs).getD ((↑((digs b.natAbs).length) : Int) - 1).toNat 0 + 1)).natAbs).length) : Int) > 0 then (↑(c + 2) : Int) - (↑((digs (b * Int.tdiv 100000000 ((digs b.natAbs).getD ((↑((digs b.natAbs).length) : Int) - 1).toNat 0 + 1)).natAbs).length) : Int) else 0) ≤ 9223372036854775807) = true, inR .i64 ((↑((if (↑(c + 2) : Int) - (↑((digs (b * Int.tdiv 100000000 ((digs b.natAbs).getD ((↑((digs b.natAbs).length) : Int) - 1).toNat 0 + 1)).natAbs).length) : Int) > 0 then (↑(c + 2) : Int) - (↑((digs (b * Int.tdiv 100000000 ((digs b.natAbs).getD ((↑((digs b.natAbs).length) : Int) - 1).toNat 0 + 1)).natAbs).length) : Int) else 0).toNat) : Int) - 1) = true, IZ Tryz.prog (eZ Tryz.prog 176 0) (wZ Tryz.prog (eZ Tryz.prog 176 0) [] [6, 7, 8, 9, 10, 11] [2, 3, 4, 5, 6] (zkV a f V c L J l) (Ex.exit 0, (lg_2_s1 a f V c L J d e))), (⟨sp 182 [(6, aI (Int.tdiv 100000000 ((digs b.natAbs).getD ((↑((digs b.natAbs).length) : Int) - 1).toNat 0 + 1))), (7, .own 5 0 (c + 2) 1), (8, .wd (b * Int.tdiv 100000000 ((digs b.natAbs).getD ((↑((digs b.natAbs).length) : Int) - 1).toNat 0 + 1))), (9, aI (↑((digs (b * Int.tdiv 100000000 ((digs b.natAbs).getD ((↑((digs b.natAbs).length) : Int) - 1).toNat 0 + 1)).natAbs).length) : Int)), (10, .own 6 0 (if (↑(c + 2) : Int) - (↑((digs (b * Int.tdiv 100000000 ((digs b.natAbs).getD ((↑((digs b.natAbs).length) : Int) - 1).toNat 0 + 1)).natAbs).length) : Int) > 0 then (↑(c + 2) : Int) - (↑((digs (b * Int.tdiv 100000000 ((digs b.natAbs).getD ((↑((digs b.natAbs).length) : Int) - 1).toNat 0 + 1)).natAbs).length) : Int) else 0).toNat 1), (11, aI ((↑((if (↑(c + 2) : Int) - (↑((digs (b * Int.tdiv 100000000 ((digs b.natAbs).getD ((↑((digs b.natAbs).length) : Int) - 1).toNat 0 + 1)).natAbs).length) : Int) > 0 then (↑(c + 2) : Int) - (↑((digs (b * Int.tdiv 100000000 ((digs b.natAbs).getD ((↑((digs b.natAbs).length) : Int) - 1).toNat 0 + 1)).natAbs).length) : Int) else 0).toNat) : Int) - 1))], [.flat [aF, .wd a] true, .flat [aD f, .wd f] true, .flat [.lit (.bool (!(false == decide (f < 0)))), .own 3 0 c 1] true, .dead, .ints [0, 0] true, .ints (l.take c ++ List.take 2 [0, 0]) true, .ints (List.replicate (if (↑(c + 2) : Int) - (↑((digs (b * Int.tdiv 100000000 ((digs b.natAbs).getD ((↑((digs b.natAbs).length) : Int) - 1).toNat 0 + 1)).natAbs).length) : Int) > 0 then (↑(c + 2) : Int) - (↑((digs (b * Int.tdiv 100000000 ((digs b.natAbs).getD ((↑((digs b.natAbs).length) : Int) - 1).toNat 0 + 1)).natAbs).length) : Int) else 0).toNat 0) true], [2, 3, 4, 5, 6]⟩ : St) = (zkV a f V c L J l), Loops 7 Tryz.prog (eZ Tryz.prog 176 0) (zkV a f V c L J l) (Ex.exit 0, (lg_2_s1 a f V c L J d e)), L ≤ d.length, NZ (d.take L), zf7 (trm (d.take L)) f, J ≤ e.length, NZ (e.take J)]) := by kernel_rfl
theorem zmm : ∀ l : List Int, l.take (trm l).length = trm l
  | [] => rfl
  | d :: l => by
    simp only [trm]
    split
    · rfl
    · simp [zmm l]
theorem trimO (na nb : Bool) (a b : Int) (l : List Int) (hl : l.length ≤ 4611686018427387904) : ∀ (n : Nat), n ≤ l.length →
    Loops 4 Tryz.prog (eZ Tryz.prog 150 0) (TW na nb a b n l) (.exit 0, TW na nb a b (trm (l.take n)).length l)
  | 0, hn => Loops.fin (LS.of zmU (twL_2 na nb a b 0 l) (by (repeat' (first | exact AllC.nil | refine AllC.cons ?_ ?_)); all_goals (first | exact fZ | ((with_reducible refine inR64.2 ?_); omega) | (with_reducible refine pFl ?_ ?_ <;> omega) | ((with_reducible refine decide_eq_true ?_); omega) | ((with_reducible refine decide_eq_false ?_); omega) | omega | (simp [] <;> omega) | assumption | rfl))) (by simp [Ex.toExit])
  | n + 1, hn => by
    have hnat : 0 + Int.toNat (((n + 1 : Nat) : Int) - 1) * 1 = n := by omega
    have hnat2 : Int.toNat (((n + 1 : Nat) : Int) - 1) = n := by omega
    have hlt : n < l.length := by omega
    have hg : l.getD n 0 = l[n] := by simp [List.getD, hlt]
    rw [List.take_succ_eq_append_getElem hlt, ← hg]
    by_cases hd : l.getD n 0 = 0
    · have hx : (l.getD n 0 == 0) = true := by rw [hd]; rfl
      have h := LS.of zmU (twL_0 na nb a b (n + 1) l) (by
        rw [hnat]
        exact (by (repeat' (first | exact AllC.nil | refine AllC.cons ?_ ?_)); all_goals (first | exact fZ | ((with_reducible refine inR64.2 ?_); omega) | (with_reducible refine pFl ?_ ?_ <;> omega) | ((with_reducible refine decide_eq_true ?_); omega) | ((with_reducible refine decide_eq_false ?_); omega) | omega | (simp [hx] <;> omega) | assumption | rfl)))
      rw [hnat2] at h
      rw [hd, zgL]
      exact Loops.go h (trimO na nb a b l hl n (by omega))
    · have hx : (l.getD n 0 == 0) = false := by simpa using hd
      have h := LS.of zmU (twL_1 na nb a b (n + 1) l) (by
        rw [hnat]
        exact (by (repeat' (first | exact AllC.nil | refine AllC.cons ?_ ?_)); all_goals (first | exact fZ | ((with_reducible refine inR64.2 ?_); omega) | (with_reducible refine pFl ?_ ?_ <;> omega) | ((with_reducible refine decide_eq_true ?_); omega) | ((with_reducible refine decide_eq_false ?_); omega) | omega | (simp [hx] <;> omega) | assumption | rfl)))
      rw [zc2 _ _ hd]
      have e : (l.take n ++ [l.getD n 0]).length = n + 1 := by simp; omega
      rw [e]
      exact Loops.fin h (by simp [Ex.toExit])
theorem pow_mono {m n : Nat} (h : m ≤ n) : (100000000 : Int) ^ m ≤ 100000000 ^ n := by
  have h2 := Int.ofNat_le.2 (Nat.pow_le_pow_right (show 0 < 100000000 by decide) h)
  rw [Int.natCast_pow, Int.natCast_pow] at h2
  exact h2
theorem zja {V : Int} (h : V ≠ 0) : (100000000 : Int) ^ ((digs V.natAbs).length - 1) ≤ (V.natAbs : Int) := by
  have hp := zbZ h
  rcases Nat.lt_or_ge V.natAbs (100000000 ^ ((digs V.natAbs).length - 1)) with h1 | h1
  · have := zaz _ _ h1
    omega
  · have h2 := Int.ofNat_le.2 h1
    rw [Int.natCast_pow] at h2
    exact h2
theorem zlI {m n : Nat} (h : m ≤ n) : (digs m).length ≤ (digs n).length := by
  rcases Nat.lt_or_ge (digs n).length (digs m).length with h1 | h1
  · have := zcu h1; omega
  · exact h1
theorem digs_one {f : Int} (h0 : 0 < f) (h1 : f < 100000000) : (digs f.natAbs).length = 1 := by
  have h2 := zaz f.natAbs 1 (by omega)
  have h3 := zbZ (show f ≠ 0 by omega)
  omega
theorem long_nn (a b : Int) (ha : 0 < a) (hb : 0 < b) (hfa : zaE a) (hfb : zaE b) (h2 : 2 ≤ (digs b.natAbs).length) : FC Tryz.prog 176 [.wd a, .wd b] (.tup [.wd (a / b), .wd (a % b)]) := by
  have hfa' := hfa
  have hfb' := hfb
  unfold zaE dl at hfa' hfb'
  have hnat2 : Int.toNat (((digs b.natAbs).length : Int) - 1) = (digs b.natAbs).length - 1 := by omega
  obtain ⟨bt, hbt⟩ : ∃ bt, (digs b.natAbs).getD ((digs b.natAbs).length - 1) 0 = bt := ⟨_, rfl⟩
  have hbt0 := last_ne (n := b.natAbs) (by omega)
  have hbt1 := (LZ (pZ b.natAbs) ((digs b.natAbs).length - 1)).2
  rw [hbt] at hbt0 hbt1
  obtain ⟨f, hfd⟩ : ∃ f, Int.tdiv 100000000 (bt + 1) = f := ⟨_, rfl⟩
  have hfe : f = 100000000 / (bt + 1) := by rw [← hfd]; exact Int.tdiv_eq_ediv_of_nonneg (by decide)
  have hf0 : 1 ≤ f := by rw [hfe]; exact (Int.le_ediv_iff_mul_le (by omega)).2 (by omega)
  have hf1 : f ≤ 50000000 := by
    rw [hfe]
    have : 100000000 / (bt + 1) < 50000001 := Int.ediv_lt_of_lt_mul (by omega) (by omega)
    omega
  have hlf := digs_one (f := f) (by omega) (by omega)
  have hff : zaE f := by unfold zaE dl; omega
  obtain ⟨V, hVd⟩ : ∃ V, b * f = V := ⟨_, rfl⟩
  have hVb : b ≤ V := by
    have := Int.mul_le_mul_of_nonneg_left hf0 (show 0 ≤ b by omega)
    omega
  have hV0 : V ≠ 0 := by omega
  have hVn : (V.natAbs : Int) = V := by omega
  have hnv : (digs b.natAbs).length ≤ (digs V.natAbs).length := zlI (by omega)
  have hnv2 : (digs V.natAbs).length ≤ (digs b.natAbs).length + 1 := by
    refine zaz _ _ ?_
    rw [← hVd, Int.natAbs_mul, Nat.pow_succ]
    exact Nat.mul_lt_mul'' (zis b.natAbs) (by omega)
  obtain ⟨n, hN⟩ : ∃ n, Int.toNat (((digs a.natAbs).length : Int) + ((digs f.natAbs).length : Int)) = n := ⟨_, rfl⟩
  have hN2 : n = (digs a.natAbs).length + (digs f.natAbs).length := by omega
  have hpa := zbZ (show a ≠ 0 by omega)
  have hna := zeq (show a ≠ 0 by omega)
  have hnf := zeq (show f ≠ 0 by omega)
  have hz0 : ∀ m : Nat, Digs (List.replicate m 0) := fun m d hd => by
    have := List.eq_of_mem_replicate hd
    omega
  have hvz : ∀ m : Nat, vl (List.replicate m 0) = 0 := by
    intro m
    induction m with
    | zero => rfl
    | succ m ih => simp only [List.replicate_succ, vl, ih]; rfl
  have hgz : ∀ m j : Nat, (List.replicate m (0 : Int)).getD j 0 = 0 := fun m j => by
    simp [List.getD, List.getElem?_replicate]; split <;> rfl
  obtain ⟨l, k1, k2, k3, k4⟩ := timesO false (decide (f < 0)) a f hfa hff n hN2 (by omega) (digs a.natAbs).length 0 (List.replicate n 0) (by omega) (hz0 n) (by simp) (fun j _ => hgz n j)
  have hvl : vl l = a * f := by
    rw [k3, hvz, List.drop_zero, zae, Int.pow_zero, Int.one_mul, Int.zero_add]
    rw [show (a.natAbs : Int) = a by omega, show (f.natAbs : Int) = f by omega]
  have k4o : Loops 4 Tryz.prog (eZ Tryz.prog 107 0) (TO false (decide (f < 0)) a f 0 n (List.replicate n 0)) (.exit 0, TO false (decide (f < 0)) a f ((digs a.natAbs).length : Int) n l) := k4
  have hT := trimO false (decide (f < 0)) a f l (by omega) n (by omega)
  have hln : l.take n = l := by rw [← k2]; exact zaN l
  rw [hln] at hT
  obtain ⟨n2, hn2⟩ : ∃ n2, (trm l).length = n2 := ⟨_, rfl⟩
  rw [hn2] at hT
  have hn2l : n2 ≤ l.length := by rw [← hn2]; exact zfJ l
  have htk : l.take n2 = trm l := by rw [← hn2]; exact zmm l
  obtain ⟨J, hJ⟩ : ∃ J, Int.toNat (if ((n2 + 2 : Nat) : Int) - ((digs V.natAbs).length : Int) > 0 then ((n2 + 2 : Nat) : Int) - ((digs V.natAbs).length : Int) else 0) = J := ⟨_, rfl⟩
  have hJ2 : J = n2 + 2 - (digs V.natAbs).length := by rw [← hJ]; split <;> omega
  have hDu : Digs (l.take n2 ++ [0, 0]) := by
    rw [htk]
    intro d hd
    rcases List.mem_append.1 hd with h | h
    · exact k1.trm d h
    · simp at h; subst h; omega
  have hvu : vl (l.take n2 ++ [0, 0]) = a * f := by
    rw [za7, htk, vl_trm, hvl]; simp [vl]
  have hlu : (l.take n2 ++ [(0 : Int), 0]).length = n2 + 2 := by simp; omega
  have hwin : vl ((l.take n2 ++ [(0 : Int), 0]).drop J) < (V.natAbs : Int) := by
    have hJle : J ≤ (l.take n2).length := by simp; omega
    rw [List.drop_append_of_le_length hJle, za7]
    have h1 := zfK (zc9 (zbp k1 n2) J)
    have h2 : ((l.take n2).drop J).length ≤ (digs V.natAbs).length - 1 := by simp; omega
    have h3 := pow_mono h2
    have h4 := zja hV0
    simp only [vl, Int.mul_zero, Int.add_zero]
    omega
  obtain ⟨u2, o2, p1, p2, p3, p4, p5, p6, p7⟩ := mainL a f n2 V (n2 + 2) J (by omega) hV0 (by omega) (a * f) J (l.take n2 ++ [0, 0]) (List.replicate J 0) (Nat.le_refl _) (by omega) hDu hlu (hz0 J) (by simp) (fun q _ => hgz J q) hwin (by rw [hvz, hvu]; simp)
  have e1 : List.take (n2 + 2) u2 = u2 := by rw [← p2]; exact zaN u2
  have e2 : List.take J o2 = o2 := by rw [← p4]; exact zaN o2
  have hpd : pDD b f := ⟨hfb, hff⟩
  have hps : zf7 (trm u2) f := ⟨p1.trm, by have := zfJ u2; omega, by omega, by omega⟩
  have hbn : false = decide (b < 0) := by simp; omega
  have hpf : bZ f := ⟨by omega, by omega⟩
  have hb0 : (!decide (bt + 1 = 0)) = true := by simp; omega
  have := jZ zmU (lg_2 a b ((digs a.natAbs).length : Int) f V n n2 (n2 + 2) J l u2 o2) (by
    simp only [hnat2, hbt, hfd, hVd, hN, hJ, e1, e2]
    have hif : (if ((n2 + 2 : Nat) : Int) - ((digs V.natAbs).length : Int) > 0 then ((n2 + 2 : Nat) : Int) - ((digs V.natAbs).length : Int) else 0) = (J : Int) := by
      rw [← hJ]; split <;> omega
    simp only [hif]
    exact (by (repeat' (first | exact AllC.nil | refine AllC.cons ?_ ?_)); all_goals (first | exact fZ | ((with_reducible refine inR64.2 ?_); omega) | (with_reducible refine pFl ?_ ?_ <;> omega) | ((with_reducible refine decide_eq_true ?_); omega) | ((with_reducible refine decide_eq_false ?_); omega) | omega | (simp [hna, hnf, p2, p4, NZ] <;> omega) | assumption | rfl)))
  rw [e1, e2] at this
  rw [hVn] at p5 p6
  have hu0 := KZ p1
  have hmul : V * vl o2 = b * (f * vl o2) := by rw [← hVd, Int.mul_assoc]
  have hdiv : a / b = vl o2 := by
    rw [← Int.mul_ediv_mul_of_pos_left a b (show 0 < f by omega), hVd, ← p6, Int.add_mul_ediv_left _ _ hV0, Int.ediv_eq_zero_of_lt hu0 p5, Int.zero_add]
  have hmod : f * (a % b) = vl u2 := by
    rw [← Int.mul_emod_mul_of_pos a b (show 0 < f by omega), Int.mul_comm f a, Int.mul_comm f b, hVd, ← p6, Int.add_mul_emod_self_left, Int.emod_eq_of_lt hu0 p5]
  have ho0 := KZ p3
  refine this.res fun E v hv => hv.tup2 (fun u hu => hu.toWd rfl ?_) (fun u hu => ?_)
  · rw [zaO p3, hdiv]; congr 1; omega
  · have : vl (trm u2) / f = a % b := by rw [vl_trm, ← hmod]; exact Int.mul_ediv_cancel_left _ (by omega)
    rw [this] at hu
    exact hu
theorem Rd.natAbs {E : Env} {a b : Int} {v : Value} (h : a.natAbs = b.natAbs) (hr : Rd E (.wd a) v) : Rd E (.wd b) v := hr.toWd (l := digs a.natAbs) rfl (by rw [h])
def zmZ (a b : Int) : Prop := a ≠ 0 ∧ zaE a ∧ zaE b ∧ 2 ≤ (digs b.natAbs).length
theorem long_fc (a b : Int) (h : zmZ a b) : FC Tryz.prog 176 [.wd a, .wd b] (.tup [.wd ((a.natAbs : Int) / (b.natAbs : Int)), .wd ((a.natAbs : Int) % (b.natAbs : Int))]) := by
  obtain ⟨h0, h1, h2, h3⟩ := h
  have hb0 : b ≠ 0 := by
    rintro rfl
    simp [TZ] at h3
  have h1' : zaE (a.natAbs : Int) := by unfold zaE dl at *; simpa using h1
  have h2' : zaE (b.natAbs : Int) := by unfold zaE dl at *; simpa using h2
  exact (long_nn (a.natAbs : Int) (b.natAbs : Int) (by omega) (by omega) h1' h2' (by simpa using h3)).arg2 (fun E v h => Rd.natAbs (by simp) h) (fun E v h => Rd.natAbs (by simp) h)
def zos : Ctr := (176, cDD zmZ (fun a b => .tup [.wd ((a.natAbs : Int) / (b.natAbs : Int)), .wd ((a.natAbs : Int) % (b.natAbs : Int))])) :: zkL
theorem zlv : ∀ p ∈ zos, tZ Tryz.prog p.1 p.2 := CAll.cons (cDD_ok long_fc) zlu
theorem ok9 : (dZ Tryz.prog zos bw).OK := QZ zlv
end Go.Proofs.YtloaeinogiplbaaGreatDoor
end
