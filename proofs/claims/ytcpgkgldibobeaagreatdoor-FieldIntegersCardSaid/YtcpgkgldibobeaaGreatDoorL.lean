/- Part of a proof about a given program: see the last module of the claim. -/
import Derived.Test.YtcpgkgldibobeaaGreatDoorK
section
open Go Go.Ev Go.RowKit
namespace Go.Proofs.YtcpgkgldibobeaaGreatDoor
open Go.Proofs
set_option maxRecDepth 100000
set_option maxHeartbeats 1000000
set_option linter.unusedVariables false
set_option linter.unusedSimpArgs false


theorem rsz_0 (z : Int) (h1 : pNg z) (h2 : pSg (nform z)) : FC Tryz.prog 136 [.ni z] (AV.sq (sgnd (decide (z < 0)) (nform z))) := fc_fun okF4 (show funA (mkCfg Tryz.prog ctrF4 bw) 60 136 [.ni z] [] [] = some (AV.sq (sgnd (decide (z < 0)) (nform z)), ((pNg z) :: (pSg (nform z)) :: [])) by kernel_rfl) (AllC.cons (h1) (AllC.cons (h2) AllC.nil))
theorem rng_0 (x : List Int) (h1 : pNm x) (h2 : pSg (nform (vl x))) : FC Tryz.prog 134 [.sq x] (AV.sq (sgnd true (nform (vl x)))) := fc_fun okF4 (show funA (mkCfg Tryz.prog ctrF4 bw) 60 134 [.sq x] [] [] = some (AV.sq (sgnd true (nform (vl x))), ((pNm x) :: (pSg (nform (vl x))) :: [])) by kernel_rfl) (AllC.cons (h1) (AllC.cons (h2) AllC.nil))
theorem rsg_0 (x : List Int) (h1 : pNm x) (h2 : (↑(List.length (nform (vl x))) : Int) = 0) : FC Tryz.prog 135 [.sq x] (aI 0) := fc_fun okF4 (show funA (mkCfg Tryz.prog ctrF4 bw) 60 135 [.sq x] [true] [] = some (aI 0, ((pNm x) :: (((↑(List.length (nform (vl x))) : Int) == 0) = true) :: [])) by kernel_rfl) (AllC.cons (h1) (AllC.cons (beq_iff_eq.2 h2) AllC.nil))
theorem rsg_1 (x : List Int) (h1 : pNm x) (h2 : (↑(List.length (nform (vl x))) : Int) ≠ 0) (h3 : pNg (vl x)) (h4 : vl x < 0) : FC Tryz.prog 135 [.sq x] (aI (-1)) := fc_fun okF4 (show funA (mkCfg Tryz.prog ctrF4 bw) 60 135 [.sq x] [false, true] [] = some (aI (-1), ((pNm x) :: (((↑(List.length (nform (vl x))) : Int) == 0) = false) :: (pNg (vl x)) :: (decide (vl x < 0) = true) :: [])) by kernel_rfl) (AllC.cons (h1) (AllC.cons (beq_false_of_ne h2) (AllC.cons (h3) (AllC.cons (decide_eq_true h4) AllC.nil))))
theorem rsg_2 (x : List Int) (h1 : pNm x) (h2 : (↑(List.length (nform (vl x))) : Int) ≠ 0) (h3 : pNg (vl x)) (h4 : ¬ (vl x < 0)) : FC Tryz.prog 135 [.sq x] (aI 1) := fc_fun okF4 (show funA (mkCfg Tryz.prog ctrF4 bw) 60 135 [.sq x] [false, false] [] = some (aI 1, ((pNm x) :: (((↑(List.length (nform (vl x))) : Int) == 0) = false) :: (pNg (vl x)) :: (decide (vl x < 0) = false) :: [])) by kernel_rfl) (AllC.cons (h1) (AllC.cons (beq_false_of_ne h2) (AllC.cons (h3) (AllC.cons (decide_eq_false h4) AllC.nil))))
abbrev rml_L3 (s : St) (r : Ex × St) : Prop := Loops 0 Tryz.prog (lpOf Tryz.prog 72 0) s r
abbrev rml_L3_0 (z0 : Int) (z1 : Int) : St := ⟨sp 44 [(0, AV.ni z0), (1, AV.ni z1), (5, aN), (6, aI 0)], [], []⟩
abbrev rml_L3_1 (z0 : Int) (z1 : Int) (z5 : Int) (t6 : Int) : St := ⟨sp 44 [(0, AV.ni z0), (1, AV.ni z1), (5, AV.ni z5), (6, aI t6)], [], []⟩
abbrev rml_L3_E0 (z0 : Int) (z1 : Int) : St := ⟨sp 44 [(0, AV.ni z0), (1, AV.ni z1), (5, aN), (6, aI 0)], [], []⟩
abbrev rml_L3_E1 (z0 : Int) (z1 : Int) (z5 : Int) (t6 : Int) : St := ⟨sp 44 [(0, AV.ni z0), (1, AV.ni z1), (5, AV.ni z5), (6, aI t6)], [], []⟩
abbrev rml_L0 (s : St) (r : Ex × St) : Prop := Loops 1 Tryz.prog (lpOf Tryz.prog 72 1) s r
abbrev rml_L0_0 (z0_1 : Int) (z1_1 : Int) : St := ⟨sp 44 [(0, AV.ni z0_1), (1, AV.ni z1_1), (5, aN), (6, aI 0), (7, AV.own 0 0 0 1), (8, aI 0)], [Row.ints [] true], [0]⟩
abbrev rml_L0_1 (z0_1 : Int) (z1_1 : Int) (n7 : Nat) (t8 : Int) (lr1 : List Int) : St := ⟨sp 44 [(0, AV.ni z0_1), (1, AV.ni z1_1), (5, aN), (6, aI 0), (7, AV.own 1 0 n7 1), (8, aI t8)], [Row.dead, Row.ints lr1 true], [0]⟩
abbrev rml_L0_E0 (z0_1 : Int) (z1_1 : Int) : St := ⟨sp 44 [(0, AV.ni z0_1), (1, AV.ni z1_1), (5, aN), (6, aI 0), (7, AV.own 0 0 0 1), (8, aI 0)], [Row.ints [] true], [0]⟩
abbrev rml_L0_E1 (z0_1 : Int) (z1_1 : Int) (n7 : Nat) (t8 : Int) (lr1 : List Int) : St := ⟨sp 44 [(0, AV.ni z0_1), (1, AV.ni z1_1), (5, aN), (6, aI 0), (7, AV.own 1 0 n7 1), (8, aI t8)], [Row.dead, Row.ints lr1 true], [0]⟩
theorem rml_L0_0_0 (z0_1 : Int) (z1_1 : Int) (h1 : 0 < (↑(List.length (nform z1_1)) : Int)) (h2 : 0 < (↑(List.length (nform z0_1)) : Int)) (h3 : 0 < List.length (nform z0_1)) (h4 : 0 < List.length (nform z1_1)) (h5 : -9223372036854775808 ≤ List.getD (nform z0_1) 0 0 * List.getD (nform z1_1) 0 0 ∧ List.getD (nform z0_1) 0 0 * List.getD (nform z1_1) 0 0 ≤ 9223372036854775807) {r : Ex × St} (k : rml_L0 (rml_L0_1 z0_1 z1_1 (1) (1) ([List.getD (nform z0_1) 0 0 * List.getD (nform z1_1) 0 0])) r) : rml_L0 (rml_L0_0 z0_1 z1_1) r := Loops.go (LS.of okF4 (show rndA (mkCfg Tryz.prog ctrF4 bw) 60 (lpOf Tryz.prog 72 1) 1 [2] [0, 1, 5, 6, 7, 8] [0] (rml_L0_0 z0_1 z1_1) [true] [] = some (Ex.normal, (rml_L0_1 z0_1 z1_1 (1) (1) ([List.getD (nform z0_1) 0 0 * List.getD (nform z1_1) 0 0])), ((decide (0 < (↑(List.length (nform z1_1)) : Int)) = true) :: ttC 1 ((decide (0 < (↑(List.length (nform z0_1)) : Int)) = true) :: (decide (0 < List.length (nform z0_1)) = true) :: ttC 1 ((decide (0 < (↑(List.length (nform z1_1)) : Int)) = true) :: (decide (0 < List.length (nform z1_1)) = true) :: (inR IntKind.i64 (List.getD (nform z0_1) 0 0 * List.getD (nform z1_1) 0 0) = true) :: ttC 3 ((decide (List.length (List.take 1 [List.getD (nform z0_1) 0 0 * List.getD (nform z1_1) 0 0]) = 1) = true) :: ttC 1 ([])))))) by kernel_rfl) (AllC.cons (decide_eq_true h1) (AllC.tt 1 (AllC.cons (decide_eq_true h2) (AllC.cons (decide_eq_true h3) (AllC.tt 1 (AllC.cons (decide_eq_true h1) (AllC.cons (decide_eq_true h4) (AllC.cons (inR64.2 h5) (AllC.tt 3 (AllC.cons (decide_eq_true rfl) (AllC.tt 1 AllC.nil)))))))))))) k
theorem rml_L0_0_1 (z0_1 : Int) (z1_1 : Int) (h1 : ¬ (0 < (↑(List.length (nform z1_1)) : Int))) : rml_L0 (rml_L0_0 z0_1 z1_1) (Ex.exit 2, (rml_L0_E0 z0_1 z1_1)) := Loops.fin (LS.of okF4 (show rndA (mkCfg Tryz.prog ctrF4 bw) 60 (lpOf Tryz.prog 72 1) 1 [] [0, 1, 5, 6, 7, 8] [0] (rml_L0_0 z0_1 z1_1) [false] [] = some (Ex.exit 2, (rml_L0_E0 z0_1 z1_1), ((decide (0 < (↑(List.length (nform z1_1)) : Int)) = false) :: [])) by kernel_rfl) (AllC.cons (decide_eq_false h1) AllC.nil)) (fun h => nomatch h)
theorem rml_L0_1_0 (z0_1 : Int) (z1_1 : Int) (n7 : Nat) (t8 : Int) (lr1 : List Int) (h1 : t8 < (↑(List.length (nform z1_1)) : Int)) (h2 : 0 < (↑(List.length (nform z0_1)) : Int)) (h3 : 0 < List.length (nform z0_1)) (h4 : 0 ≤ t8) (h5 : Int.toNat t8 < List.length (nform z1_1)) (h6 : -9223372036854775808 ≤ List.getD (nform z0_1) 0 0 * List.getD (nform z1_1) (Int.toNat t8) 0 ∧ List.getD (nform z0_1) 0 0 * List.getD (nform z1_1) (Int.toNat t8) 0 ≤ 9223372036854775807) (h7 : (n7 + 1) * 8 ≤ 140737488355328) (h8 : n7 + 1 ≤ 4611686018427387904) (h9 : n7 ≤ List.length lr1) (h10 : -9223372036854775808 ≤ t8 + 1 ∧ t8 + 1 ≤ 9223372036854775807) {r : Ex × St} (k : rml_L0 (rml_L0_1 z0_1 z1_1 (n7 + 1) (t8 + 1) (List.take n7 lr1 ++ List.take 1 [List.getD (nform z0_1) 0 0 * List.getD (nform z1_1) (Int.toNat t8) 0])) r) : rml_L0 (rml_L0_1 z0_1 z1_1 n7 t8 lr1) r := Loops.go (LS.of okF4 (show rndA (mkCfg Tryz.prog ctrF4 bw) 60 (lpOf Tryz.prog 72 1) 1 [3] [0, 1, 5, 6, 7, 8] [0] (rml_L0_1 z0_1 z1_1 n7 t8 lr1) [true] [] = some (Ex.normal, (rml_L0_1 z0_1 z1_1 (n7 + 1) (t8 + 1) (List.take n7 lr1 ++ List.take 1 [List.getD (nform z0_1) 0 0 * List.getD (nform z1_1) (Int.toNat t8) 0])), ((decide (t8 < (↑(List.length (nform z1_1)) : Int)) = true) :: ttC 1 ((decide (0 < (↑(List.length (nform z0_1)) : Int)) = true) :: (decide (0 < List.length (nform z0_1)) = true) :: (decide (0 ≤ t8) = true) :: (decide (t8 < (↑(List.length (nform z1_1)) : Int)) = true) :: (decide (Int.toNat t8 < List.length (nform z1_1)) = true) :: (inR IntKind.i64 (List.getD (nform z0_1) 0 0 * List.getD (nform z1_1) (Int.toNat t8) 0) = true) :: (decide ((n7 + 1) * 8 ≤ 140737488355328) = true) :: (decide (n7 + 1 ≤ 4611686018427387904) = true) :: (decide (n7 ≤ List.length lr1) = true) :: (decide (List.length (List.take 1 [List.getD (nform z0_1) 0 0 * List.getD (nform z1_1) (Int.toNat t8) 0]) = 1) = true) :: (inR IntKind.i64 (t8 + 1) = true) :: []))) by kernel_rfl) (AllC.cons (decide_eq_true h1) (AllC.tt 1 (AllC.cons (decide_eq_true h2) (AllC.cons (decide_eq_true h3) (AllC.cons (decide_eq_true h4) (AllC.cons (decide_eq_true h1) (AllC.cons (decide_eq_true h5) (AllC.cons (inR64.2 h6) (AllC.cons (decide_eq_true h7) (AllC.cons (decide_eq_true h8) (AllC.cons (decide_eq_true h9) (AllC.cons (decide_eq_true rfl) (AllC.cons (inR64.2 h10) AllC.nil)))))))))))))) k
theorem rml_L0_1_1 (z0_1 : Int) (z1_1 : Int) (n7 : Nat) (t8 : Int) (lr1 : List Int) (h1 : ¬ (t8 < (↑(List.length (nform z1_1)) : Int))) : rml_L0 (rml_L0_1 z0_1 z1_1 n7 t8 lr1) (Ex.exit 2, (rml_L0_E1 z0_1 z1_1 n7 t8 lr1)) := Loops.fin (LS.of okF4 (show rndA (mkCfg Tryz.prog ctrF4 bw) 60 (lpOf Tryz.prog 72 1) 1 [1] [0, 1, 5, 6, 7, 8] [0] (rml_L0_1 z0_1 z1_1 n7 t8 lr1) [false] [] = some (Ex.exit 2, (rml_L0_E1 z0_1 z1_1 n7 t8 lr1), ((decide (t8 < (↑(List.length (nform z1_1)) : Int)) = false) :: [])) by kernel_rfl) (AllC.cons (decide_eq_false h1) AllC.nil)) (fun h => nomatch h)
theorem rml_L3_0_0 (z0 : Int) (z1 : Int) (h1 : 0 < (↑(List.length (nform z0)) : Int)) (hL1 : rml_L0 (rml_L0_0 z0 z1) (Ex.exit 2, (rml_L0_E0 z0 z1))) (h3 : 0 ≤ 0) (h4 : pAd [] (List.take 0 [])) {r : Ex × St} (k : rml_L3 (rml_L3_1 z0 z1 (0) (1)) r) : rml_L3 (rml_L3_0 z0 z1) r := Loops.go (LS.of okF4 (show rndA (mkCfg Tryz.prog ctrF4 bw) 60 (lpOf Tryz.prog 72 0) 0 [] [0, 1, 5, 6] [] (rml_L3_0 z0 z1) [true] [some (viaL Tryz.prog (lpOf Tryz.prog 72 1) [] [0, 1, 5, 6, 7, 8] [0] (rml_L0_0 z0 z1) (Ex.exit 2, (rml_L0_E0 z0 z1)))] = some (Ex.normal, (rml_L3_1 z0 z1 (0) (1)), ((decide (0 < (↑(List.length (nform z0)) : Int)) = true) :: ttC 4 (viaC Tryz.prog (lpOf Tryz.prog 72 1) [0, 1, 5, 6, 7, 8] [0] (rml_L0_0 z0 z1) 1 (Ex.exit 2, (rml_L0_E0 z0 z1)) ((0 ≤ 0) :: (pAd [] (List.take 0 [])) :: ttC 1 ([]))))) by kernel_rfl) (AllC.cons (decide_eq_true h1) (AllC.tt 4 (AllC.via hL1 (AllC.cons (h3) (AllC.cons (h4) (AllC.tt 1 AllC.nil))))))) k
theorem rml_L3_0_1 (z0 : Int) (z1 : Int) (n7 : Nat) (t8 : Int) (lr1 : List Int) (h1 : 0 < (↑(List.length (nform z0)) : Int)) (hL1 : rml_L0 (rml_L0_0 z0 z1) (Ex.exit 2, (rml_L0_E1 z0 z1 n7 t8 lr1))) (h3 : n7 ≤ List.length lr1) (h4 : pAd [] (List.take n7 lr1)) {r : Ex × St} (k : rml_L3 (rml_L3_1 z0 z1 (0 + vl (List.take n7 lr1)) (1)) r) : rml_L3 (rml_L3_0 z0 z1) r := Loops.go (LS.of okF4 (show rndA (mkCfg Tryz.prog ctrF4 bw) 60 (lpOf Tryz.prog 72 0) 0 [] [0, 1, 5, 6] [] (rml_L3_0 z0 z1) [true] [some (viaL Tryz.prog (lpOf Tryz.prog 72 1) [] [0, 1, 5, 6, 7, 8] [0] (rml_L0_0 z0 z1) (Ex.exit 2, (rml_L0_E1 z0 z1 n7 t8 lr1)))] = some (Ex.normal, (rml_L3_1 z0 z1 (0 + vl (List.take n7 lr1)) (1)), ((decide (0 < (↑(List.length (nform z0)) : Int)) = true) :: ttC 4 (viaC Tryz.prog (lpOf Tryz.prog 72 1) [0, 1, 5, 6, 7, 8] [0] (rml_L0_0 z0 z1) 1 (Ex.exit 2, (rml_L0_E1 z0 z1 n7 t8 lr1)) ((n7 ≤ List.length lr1) :: (pAd [] (List.take n7 lr1)) :: ttC 1 ([]))))) by kernel_rfl) (AllC.cons (decide_eq_true h1) (AllC.tt 4 (AllC.via hL1 (AllC.cons (h3) (AllC.cons (h4) (AllC.tt 1 AllC.nil))))))) k
theorem rml_L3_0_2 (z0 : Int) (z1 : Int) (h1 : ¬ (0 < (↑(List.length (nform z0)) : Int))) : rml_L3 (rml_L3_0 z0 z1) (Ex.exit 0, (rml_L3_E0 z0 z1)) := Loops.fin (LS.of okF4 (show rndA (mkCfg Tryz.prog ctrF4 bw) 60 (lpOf Tryz.prog 72 0) 0 [] [0, 1, 5, 6] [] (rml_L3_0 z0 z1) [false] [] = some (Ex.exit 0, (rml_L3_E0 z0 z1), ((decide (0 < (↑(List.length (nform z0)) : Int)) = false) :: [])) by kernel_rfl) (AllC.cons (decide_eq_false h1) AllC.nil)) (fun h => nomatch h)
abbrev rml_L2 (s : St) (r : Ex × St) : Prop := Loops 1 Tryz.prog (lpOf Tryz.prog 72 1) s r
abbrev rml_L2_0 (z0_1 : Int) (z1_1 : Int) (z5_1 : Int) (t6_1 : Int) (n7 : Nat) (lr0 : List Int) : St := ⟨sp 44 [(0, AV.ni z0_1), (1, AV.ni z1_1), (5, AV.ni z5_1), (6, aI t6_1), (7, AV.own 0 0 n7 1), (8, aI 0)], [Row.ints lr0 true], [0]⟩
abbrev rml_L2_1 (z0_1 : Int) (z1_1 : Int) (z5_1 : Int) (t6_1 : Int) (n7 : Nat) (lr0 : List Int) (n7_1 : Nat) (t8 : Int) (lr1 : List Int) : St := ⟨sp 44 [(0, AV.ni z0_1), (1, AV.ni z1_1), (5, AV.ni z5_1), (6, aI t6_1), (7, AV.own 1 0 n7_1 1), (8, aI t8)], [Row.dead, Row.ints lr1 true], [0]⟩
abbrev rml_L2_E0 (z0_1 : Int) (z1_1 : Int) (z5_1 : Int) (t6_1 : Int) (n7 : Nat) (lr0 : List Int) : St := ⟨sp 44 [(0, AV.ni z0_1), (1, AV.ni z1_1), (5, AV.ni z5_1), (6, aI t6_1), (7, AV.own 0 0 n7 1), (8, aI 0)], [Row.ints lr0 true], [0]⟩
abbrev rml_L2_E1 (z0_1 : Int) (z1_1 : Int) (z5_1 : Int) (t6_1 : Int) (n7 : Nat) (lr0 : List Int) (n7_1 : Nat) (t8 : Int) (lr1 : List Int) : St := ⟨sp 44 [(0, AV.ni z0_1), (1, AV.ni z1_1), (5, AV.ni z5_1), (6, aI t6_1), (7, AV.own 1 0 n7_1 1), (8, aI t8)], [Row.dead, Row.ints lr1 true], [0]⟩
theorem rml_L2_0_0 (z0_1 : Int) (z1_1 : Int) (z5_1 : Int) (t6_1 : Int) (n7 : Nat) (lr0 : List Int) (h1 : 0 < (↑(List.length (nform z1_1)) : Int)) (h2 : 0 ≤ t6_1) (h3 : t6_1 < (↑(List.length (nform z0_1)) : Int)) (h4 : Int.toNat t6_1 < List.length (nform z0_1)) (h5 : 0 < List.length (nform z1_1)) (h6 : -9223372036854775808 ≤ List.getD (nform z0_1) (Int.toNat t6_1) 0 * List.getD (nform z1_1) 0 0 ∧ List.getD (nform z0_1) (Int.toNat t6_1) 0 * List.getD (nform z1_1) 0 0 ≤ 9223372036854775807) (h7 : (n7 + 1) * 8 ≤ 140737488355328) (h8 : n7 + 1 ≤ 4611686018427387904) (h9 : n7 ≤ List.length lr0) {r : Ex × St} (k : rml_L2 (rml_L2_1 z0_1 z1_1 z5_1 t6_1 n7 lr0 (n7 + 1) (1) (List.take n7 lr0 ++ List.take 1 [List.getD (nform z0_1) (Int.toNat t6_1) 0 * List.getD (nform z1_1) 0 0])) r) : rml_L2 (rml_L2_0 z0_1 z1_1 z5_1 t6_1 n7 lr0) r := Loops.go (LS.of okF4 (show rndA (mkCfg Tryz.prog ctrF4 bw) 60 (lpOf Tryz.prog 72 1) 1 [2] [0, 1, 5, 6, 7, 8] [0] (rml_L2_0 z0_1 z1_1 z5_1 t6_1 n7 lr0) [true] [] = some (Ex.normal, (rml_L2_1 z0_1 z1_1 z5_1 t6_1 n7 lr0 (n7 + 1) (1) (List.take n7 lr0 ++ List.take 1 [List.getD (nform z0_1) (Int.toNat t6_1) 0 * List.getD (nform z1_1) 0 0])), ((decide (0 < (↑(List.length (nform z1_1)) : Int)) = true) :: (decide (0 ≤ t6_1) = true) :: (decide (t6_1 < (↑(List.length (nform z0_1)) : Int)) = true) :: (decide (Int.toNat t6_1 < List.length (nform z0_1)) = true) :: ttC 1 ((decide (0 < (↑(List.length (nform z1_1)) : Int)) = true) :: (decide (0 < List.length (nform z1_1)) = true) :: (inR IntKind.i64 (List.getD (nform z0_1) (Int.toNat t6_1) 0 * List.getD (nform z1_1) 0 0) = true) :: (decide ((n7 + 1) * 8 ≤ 140737488355328) = true) :: (decide (n7 + 1 ≤ 4611686018427387904) = true) :: (decide (n7 ≤ List.length lr0) = true) :: (decide (List.length (List.take 1 [List.getD (nform z0_1) (Int.toNat t6_1) 0 * List.getD (nform z1_1) 0 0]) = 1) = true) :: ttC 1 ([])))) by kernel_rfl) (AllC.cons (decide_eq_true h1) (AllC.cons (decide_eq_true h2) (AllC.cons (decide_eq_true h3) (AllC.cons (decide_eq_true h4) (AllC.tt 1 (AllC.cons (decide_eq_true h1) (AllC.cons (decide_eq_true h5) (AllC.cons (inR64.2 h6) (AllC.cons (decide_eq_true h7) (AllC.cons (decide_eq_true h8) (AllC.cons (decide_eq_true h9) (AllC.cons (decide_eq_true rfl) (AllC.tt 1 AllC.nil)))))))))))))) k
theorem rml_L2_0_1 (z0_1 : Int) (z1_1 : Int) (z5_1 : Int) (t6_1 : Int) (n7 : Nat) (lr0 : List Int) (h1 : ¬ (0 < (↑(List.length (nform z1_1)) : Int))) : rml_L2 (rml_L2_0 z0_1 z1_1 z5_1 t6_1 n7 lr0) (Ex.exit 2, (rml_L2_E0 z0_1 z1_1 z5_1 t6_1 n7 lr0)) := Loops.fin (LS.of okF4 (show rndA (mkCfg Tryz.prog ctrF4 bw) 60 (lpOf Tryz.prog 72 1) 1 [] [0, 1, 5, 6, 7, 8] [0] (rml_L2_0 z0_1 z1_1 z5_1 t6_1 n7 lr0) [false] [] = some (Ex.exit 2, (rml_L2_E0 z0_1 z1_1 z5_1 t6_1 n7 lr0), ((decide (0 < (↑(List.length (nform z1_1)) : Int)) = false) :: [])) by kernel_rfl) (AllC.cons (decide_eq_false h1) AllC.nil)) (fun h => nomatch h)
theorem rml_L2_1_0 (z0_1 : Int) (z1_1 : Int) (z5_1 : Int) (t6_1 : Int) (n7 : Nat) (lr0 : List Int) (n7_1 : Nat) (t8 : Int) (lr1 : List Int) (h1 : t8 < (↑(List.length (nform z1_1)) : Int)) (h2 : 0 ≤ t6_1) (h3 : t6_1 < (↑(List.length (nform z0_1)) : Int)) (h4 : Int.toNat t6_1 < List.length (nform z0_1)) (h5 : 0 ≤ t8) (h6 : Int.toNat t8 < List.length (nform z1_1)) (h7 : -9223372036854775808 ≤ List.getD (nform z0_1) (Int.toNat t6_1) 0 * List.getD (nform z1_1) (Int.toNat t8) 0 ∧ List.getD (nform z0_1) (Int.toNat t6_1) 0 * List.getD (nform z1_1) (Int.toNat t8) 0 ≤ 9223372036854775807) (h8 : (n7_1 + 1) * 8 ≤ 140737488355328) (h9 : n7_1 + 1 ≤ 4611686018427387904) (h10 : n7_1 ≤ List.length lr1) (h11 : -9223372036854775808 ≤ t8 + 1 ∧ t8 + 1 ≤ 9223372036854775807) {r : Ex × St} (k : rml_L2 (rml_L2_1 z0_1 z1_1 z5_1 t6_1 n7 lr0 (n7_1 + 1) (t8 + 1) (List.take n7_1 lr1 ++ List.take 1 [List.getD (nform z0_1) (Int.toNat t6_1) 0 * List.getD (nform z1_1) (Int.toNat t8) 0])) r) : rml_L2 (rml_L2_1 z0_1 z1_1 z5_1 t6_1 n7 lr0 n7_1 t8 lr1) r := Loops.go (LS.of okF4 (show rndA (mkCfg Tryz.prog ctrF4 bw) 60 (lpOf Tryz.prog 72 1) 1 [3] [0, 1, 5, 6, 7, 8] [0] (rml_L2_1 z0_1 z1_1 z5_1 t6_1 n7 lr0 n7_1 t8 lr1) [true] [] = some (Ex.normal, (rml_L2_1 z0_1 z1_1 z5_1 t6_1 n7 lr0 (n7_1 + 1) (t8 + 1) (List.take n7_1 lr1 ++ List.take 1 [List.getD (nform z0_1) (Int.toNat t6_1) 0 * List.getD (nform z1_1) (Int.toNat t8) 0])), ((decide (t8 < (↑(List.length (nform z1_1)) : Int)) = true) :: (decide (0 ≤ t6_1) = true) :: (decide (t6_1 < (↑(List.length (nform z0_1)) : Int)) = true) :: (decide (Int.toNat t6_1 < List.length (nform z0_1)) = true) :: (decide (0 ≤ t8) = true) :: (decide (t8 < (↑(List.length (nform z1_1)) : Int)) = true) :: (decide (Int.toNat t8 < List.length (nform z1_1)) = true) :: (inR IntKind.i64 (List.getD (nform z0_1) (Int.toNat t6_1) 0 * List.getD (nform z1_1) (Int.toNat t8) 0) = true) :: (decide ((n7_1 + 1) * 8 ≤ 140737488355328) = true) :: (decide (n7_1 + 1 ≤ 4611686018427387904) = true) :: (decide (n7_1 ≤ List.length lr1) = true) :: (decide (List.length (List.take 1 [List.getD (nform z0_1) (Int.toNat t6_1) 0 * List.getD (nform z1_1) (Int.toNat t8) 0]) = 1) = true) :: (inR IntKind.i64 (t8 + 1) = true) :: [])) by kernel_rfl) (AllC.cons (decide_eq_true h1) (AllC.cons (decide_eq_true h2) (AllC.cons (decide_eq_true h3) (AllC.cons (decide_eq_true h4) (AllC.cons (decide_eq_true h5) (AllC.cons (decide_eq_true h1) (AllC.cons (decide_eq_true h6) (AllC.cons (inR64.2 h7) (AllC.cons (decide_eq_true h8) (AllC.cons (decide_eq_true h9) (AllC.cons (decide_eq_true h10) (AllC.cons (decide_eq_true rfl) (AllC.cons (inR64.2 h11) AllC.nil)))))))))))))) k
theorem rml_L2_1_1 (z0_1 : Int) (z1_1 : Int) (z5_1 : Int) (t6_1 : Int) (n7 : Nat) (lr0 : List Int) (n7_1 : Nat) (t8 : Int) (lr1 : List Int) (h1 : ¬ (t8 < (↑(List.length (nform z1_1)) : Int))) : rml_L2 (rml_L2_1 z0_1 z1_1 z5_1 t6_1 n7 lr0 n7_1 t8 lr1) (Ex.exit 2, (rml_L2_E1 z0_1 z1_1 z5_1 t6_1 n7 lr0 n7_1 t8 lr1)) := Loops.fin (LS.of okF4 (show rndA (mkCfg Tryz.prog ctrF4 bw) 60 (lpOf Tryz.prog 72 1) 1 [1] [0, 1, 5, 6, 7, 8] [0] (rml_L2_1 z0_1 z1_1 z5_1 t6_1 n7 lr0 n7_1 t8 lr1) [false] [] = some (Ex.exit 2, (rml_L2_E1 z0_1 z1_1 z5_1 t6_1 n7 lr0 n7_1 t8 lr1), ((decide (t8 < (↑(List.length (nform z1_1)) : Int)) = false) :: [])) by kernel_rfl) (AllC.cons (decide_eq_false h1) AllC.nil)) (fun h => nomatch h)
theorem rml_L3_1_0 (z0 : Int) (z1 : Int) (z5 : Int) (t6 : Int) (h1 : t6 < (↑(List.length (nform z0)) : Int)) (h2 : 0 ≤ t6) (h3 : t6 ≤ t6) (h4 : 8 * t6 ≤ 281474976710656) (h5 : t6 ≤ 9223372036854775807) (hL1 : rml_L2 (rml_L2_0 z0 z1 z5 t6 (Int.toNat t6) (zerosI (Int.toNat t6))) (Ex.exit 2, (rml_L2_E0 z0 z1 z5 t6 (Int.toNat t6) (zerosI (Int.toNat t6))))) (h7 : Int.toNat t6 ≤ List.length (zerosI (Int.toNat t6))) (h8 : pAd (nform z5) (List.take (Int.toNat t6) (zerosI (Int.toNat t6)))) (h9 : -9223372036854775808 ≤ t6 + 1 ∧ t6 + 1 ≤ 9223372036854775807) {r : Ex × St} (k : rml_L3 (rml_L3_1 z0 z1 (vl (nform z5) + vl (List.take (Int.toNat t6) (zerosI (Int.toNat t6)))) (t6 + 1)) r) : rml_L3 (rml_L3_1 z0 z1 z5 t6) r := Loops.go (LS.of okF4 (show rndA (mkCfg Tryz.prog ctrF4 bw) 60 (lpOf Tryz.prog 72 0) 0 [] [0, 1, 5, 6] [] (rml_L3_1 z0 z1 z5 t6) [true] [some (viaL Tryz.prog (lpOf Tryz.prog 72 1) [] [0, 1, 5, 6, 7, 8] [0] (rml_L2_0 z0 z1 z5 t6 (Int.toNat t6) (zerosI (Int.toNat t6))) (Ex.exit 2, (rml_L2_E0 z0 z1 z5 t6 (Int.toNat t6) (zerosI (Int.toNat t6)))))] = some (Ex.normal, (rml_L3_1 z0 z1 (vl (nform z5) + vl (List.take (Int.toNat t6) (zerosI (Int.toNat t6)))) (t6 + 1)), ((decide (t6 < (↑(List.length (nform z0)) : Int)) = true) :: (decide (0 ≤ t6) = true) :: (decide (t6 ≤ t6) = true) :: (decide (8 * t6 ≤ 281474976710656) = true) :: (decide (t6 ≤ 9223372036854775807) = true) :: viaC Tryz.prog (lpOf Tryz.prog 72 1) [0, 1, 5, 6, 7, 8] [0] (rml_L2_0 z0 z1 z5 t6 (Int.toNat t6) (zerosI (Int.toNat t6))) 1 (Ex.exit 2, (rml_L2_E0 z0 z1 z5 t6 (Int.toNat t6) (zerosI (Int.toNat t6)))) ((Int.toNat t6 ≤ List.length (zerosI (Int.toNat t6))) :: (pAd (nform z5) (List.take (Int.toNat t6) (zerosI (Int.toNat t6)))) :: (inR IntKind.i64 (t6 + 1) = true) :: []))) by kernel_rfl) (AllC.cons (decide_eq_true h1) (AllC.cons (decide_eq_true h2) (AllC.cons (decide_eq_true h3) (AllC.cons (decide_eq_true h4) (AllC.cons (decide_eq_true h5) (AllC.via hL1 (AllC.cons (h7) (AllC.cons (h8) (AllC.cons (inR64.2 h9) AllC.nil)))))))))) k
theorem rml_L3_1_1 (z0 : Int) (z1 : Int) (z5 : Int) (t6 : Int) (n7 : Nat) (t8 : Int) (lr1 : List Int) (h1 : t6 < (↑(List.length (nform z0)) : Int)) (h2 : 0 ≤ t6) (h3 : t6 ≤ t6) (h4 : 8 * t6 ≤ 281474976710656) (h5 : t6 ≤ 9223372036854775807) (hL1 : rml_L2 (rml_L2_0 z0 z1 z5 t6 (Int.toNat t6) (zerosI (Int.toNat t6))) (Ex.exit 2, (rml_L2_E1 z0 z1 z5 t6 (Int.toNat t6) (zerosI (Int.toNat t6)) n7 t8 lr1))) (h7 : n7 ≤ List.length lr1) (h8 : pAd (nform z5) (List.take n7 lr1)) (h9 : -9223372036854775808 ≤ t6 + 1 ∧ t6 + 1 ≤ 9223372036854775807) {r : Ex × St} (k : rml_L3 (rml_L3_1 z0 z1 (vl (nform z5) + vl (List.take n7 lr1)) (t6 + 1)) r) : rml_L3 (rml_L3_1 z0 z1 z5 t6) r := Loops.go (LS.of okF4 (show rndA (mkCfg Tryz.prog ctrF4 bw) 60 (lpOf Tryz.prog 72 0) 0 [] [0, 1, 5, 6] [] (rml_L3_1 z0 z1 z5 t6) [true] [some (viaL Tryz.prog (lpOf Tryz.prog 72 1) [] [0, 1, 5, 6, 7, 8] [0] (rml_L2_0 z0 z1 z5 t6 (Int.toNat t6) (zerosI (Int.toNat t6))) (Ex.exit 2, (rml_L2_E1 z0 z1 z5 t6 (Int.toNat t6) (zerosI (Int.toNat t6)) n7 t8 lr1)))] = some (Ex.normal, (rml_L3_1 z0 z1 (vl (nform z5) + vl (List.take n7 lr1)) (t6 + 1)), ((decide (t6 < (↑(List.length (nform z0)) : Int)) = true) :: (decide (0 ≤ t6) = true) :: (decide (t6 ≤ t6) = true) :: (decide (8 * t6 ≤ 281474976710656) = true) :: (decide (t6 ≤ 9223372036854775807) = true) :: viaC Tryz.prog (lpOf Tryz.prog 72 1) [0, 1, 5, 6, 7, 8] [0] (rml_L2_0 z0 z1 z5 t6 (Int.toNat t6) (zerosI (Int.toNat t6))) 1 (Ex.exit 2, (rml_L2_E1 z0 z1 z5 t6 (Int.toNat t6) (zerosI (Int.toNat t6)) n7 t8 lr1)) ((n7 ≤ List.length lr1) :: (pAd (nform z5) (List.take n7 lr1)) :: (inR IntKind.i64 (t6 + 1) = true) :: []))) by kernel_rfl) (AllC.cons (decide_eq_true h1) (AllC.cons (decide_eq_true h2) (AllC.cons (decide_eq_true h3) (AllC.cons (decide_eq_true h4) (AllC.cons (decide_eq_true h5) (AllC.via hL1 (AllC.cons (h7) (AllC.cons (h8) (AllC.cons (inR64.2 h9) AllC.nil)))))))))) k
theorem rml_L3_1_2 (z0 : Int) (z1 : Int) (z5 : Int) (t6 : Int) (h1 : ¬ (t6 < (↑(List.length (nform z0)) : Int))) : rml_L3 (rml_L3_1 z0 z1 z5 t6) (Ex.exit 0, (rml_L3_E1 z0 z1 z5 t6)) := Loops.fin (LS.of okF4 (show rndA (mkCfg Tryz.prog ctrF4 bw) 60 (lpOf Tryz.prog 72 0) 0 [] [0, 1, 5, 6] [] (rml_L3_1 z0 z1 z5 t6) [false] [] = some (Ex.exit 0, (rml_L3_E1 z0 z1 z5 t6), ((decide (t6 < (↑(List.length (nform z0)) : Int)) = false) :: [])) by kernel_rfl) (AllC.cons (decide_eq_false h1) AllC.nil)) (fun h => nomatch h)
theorem rml_0 (x y : List Int) (h1 : pNm x) (h2 : pNm y) (hL1 : rml_L3 (rml_L3_0 (vl x) (vl y)) (Ex.exit 0, (rml_L3_E0 (vl x) (vl y)))) (h4 : pNm []) : FC Tryz.prog 72 [.sq x, .sq y] (AV.ni 0) := fc_fun okF4 (show funA (mkCfg Tryz.prog ctrF4 bw) 60 72 [.sq x, .sq y] [] [some (viaL Tryz.prog (lpOf Tryz.prog 72 0) [] [0, 1, 5, 6] [] (rml_L3_0 (vl x) (vl y)) (Ex.exit 0, (rml_L3_E0 (vl x) (vl y))))] = some (AV.ni 0, ((pNm x) :: (pNm y) :: viaC Tryz.prog (lpOf Tryz.prog 72 0) [0, 1, 5, 6] [] (rml_L3_0 (vl x) (vl y)) 0 (Ex.exit 0, (rml_L3_E0 (vl x) (vl y))) ((pNm []) :: []))) by kernel_rfl) (AllC.cons (h1) (AllC.cons (h2) (AllC.via hL1 (AllC.cons (h4) AllC.nil))))
theorem rml_1 (x y : List Int) (z5 : Int) (t6 : Int) (h1 : pNm x) (h2 : pNm y) (hL1 : rml_L3 (rml_L3_0 (vl x) (vl y)) (Ex.exit 0, (rml_L3_E1 (vl x) (vl y) z5 t6))) (h4 : pNm (nform z5)) : FC Tryz.prog 72 [.sq x, .sq y] (AV.ni (vl (nform z5))) := fc_fun okF4 (show funA (mkCfg Tryz.prog ctrF4 bw) 60 72 [.sq x, .sq y] [] [some (viaL Tryz.prog (lpOf Tryz.prog 72 0) [] [0, 1, 5, 6] [] (rml_L3_0 (vl x) (vl y)) (Ex.exit 0, (rml_L3_E1 (vl x) (vl y) z5 t6)))] = some (AV.ni (vl (nform z5)), ((pNm x) :: (pNm y) :: viaC Tryz.prog (lpOf Tryz.prog 72 0) [0, 1, 5, 6] [] (rml_L3_0 (vl x) (vl y)) 0 (Ex.exit 0, (rml_L3_E1 (vl x) (vl y) z5 t6)) ((pNm (nform z5)) :: []))) by kernel_rfl) (AllC.cons (h1) (AllC.cons (h2) (AllC.via hL1 (AllC.cons (h4) AllC.nil))))
theorem trm_map_neg (l : List Int) : trm (l.map fun d => -d) = (trm l).map fun d => -d := by
  induction l with
  | nil => rfl
  | cons d l ih =>
    simp only [List.map_cons, trm, ih, List.map_eq_nil_iff]
    by_cases h : trm l = [] ∧ d = 0
    · rw [if_pos h, if_pos ⟨h.1, by omega⟩]; rfl
    · rw [if_neg h, if_neg (fun hh => h ⟨hh.1, by omega⟩)]; rfl
theorem trm_nform (z : Int) : trm (nform z) = nform z := by
  unfold nform
  split
  · rw [trm_map_neg, trm_digs_self]
  · exact trm_digs_self _
theorem nform_neg (z : Int) : (nform z).map (fun d => -d) = nform (-z) := by
  unfold nform
  by_cases h : z < 0
  · rw [if_pos h, if_neg (by omega), Int.natAbs_neg]
    generalize digs z.natAbs = l
    induction l with
    | nil => rfl
    | cons d l ih => simp only [List.map_cons, Int.neg_neg, ih]
  · by_cases h0 : z = 0
    · subst h0; simp [digs_zero]
    · rw [if_neg h, if_pos (by omega), Int.natAbs_neg]
theorem sgnd_true (z : Int) : sgnd true (nform z) = nform (-z) := by unfold sgnd; simp only [trm_nform, nform_neg]
theorem sgnd_false (z : Int) : sgnd false (nform z) = nform z := by unfold sgnd; simp only [trm_nform]
theorem pSg_nform {z : Int} (h : Sz 1000000 z) : pSg (nform z) := ⟨by rw [nform_length]; have := dl_le h; omega, fun d hd => by have := nform_dig z d hd; omega⟩
theorem FC.sqNi {P : Program} {f : FuncId} {args : List AV} {l : List Int} {z : Int} (h : FC P f args (.sq l)) (e : l = nform z) : FC P f args (.ni z) := h.res fun E v hr => hr.toNi rfl e
theorem rsize_fc (z : Int) (h : pNg z) : FC Tryz.prog 136 [.ni z] (.ni (z.natAbs : Int)) := by
  refine FC.sqNi (rsz_0 z h (pSg_nform h)) ?_
  by_cases hz : z < 0
  · rw [decide_eq_true hz, sgnd_true]; congr 1; omega
  · rw [decide_eq_false hz, sgnd_false]; congr 1; omega
def pX (x : List Int) : Prop := pQ 400000 x
theorem pX.nm {x : List Int} (h : pX x) : pNm x := pQ.mono h (by decide)
theorem pX.s {x : List Int} (h : pX x) : Sz 1000000 (vl x) := (pQ.sz h).mono (by decide)
theorem rNeg_fc (x : List Int) (h : pX x) : FC Tryz.prog 134 [.sq x] (.ni (-vl x)) :=
  FC.sqNi (rng_0 x h.nm (pSg_nform h.s)) (sgnd_true _)
theorem rSign_fc (x : List Int) (h : pX x) : FC Tryz.prog 135 [.sq x] (.lit (.int .i64 (vl x).sign)) := by
  have hl := nform_length (vl x)
  by_cases h0 : vl x = 0
  · rw [h0]; exact rsg_0 x h.nm (by rw [hl, h0]; rfl)
  · have hd : dl (vl x) ≠ 0 := fun h => h0 (dl_zero.1 h)
    by_cases h1 : vl x < 0
    · rw [Int.sign_eq_neg_one_of_neg h1]; exact rsg_1 x h.nm (by omega) h.s h1
    · rw [Int.sign_eq_one_of_pos (by omega)]; exact rsg_2 x h.nm (by omega) h.s h1

/-! ### The product, row by row -/
def rowM (i : Nat) (d : Int) (Y : List Int) (j : Nat) : List Int := List.replicate i 0 ++ (Y.take j).map fun e => d * e
theorem rowM_succ {i : Nat} {d : Int} {Y : List Int} {j : Nat} (h : j < Y.length) : rowM i d Y (j + 1) = rowM i d Y j ++ [d * Y.getD j 0] := by
  unfold rowM
  rw [List.take_succ_eq_append_getElem h, List.map_append, ← List.append_assoc]
  simp [List.getD, h]
theorem rowM_length {i : Nat} {d : Int} {Y : List Int} {j : Nat} (h : j ≤ Y.length) : (rowM i d Y j).length = i + j := by
  unfold rowM; simp; omega
theorem vl_rep (i : Nat) : vl (List.replicate i (0 : Int)) = 0 := by
  induction i with
  | zero => rfl
  | succ i ih => simp only [List.replicate_succ, vl, ih]; rfl
theorem vl_scale (d : Int) (Y : List Int) : vl (Y.map fun e => d * e) = d * vl Y := by
  induction Y with
  | nil => simp [vl]
  | cons y Y ih => simp only [List.map_cons, vl, ih]; grind
theorem vl_rowM (i : Nat) (d : Int) (Y : List Int) : vl (rowM i d Y Y.length) = 100000000 ^ i * (d * vl Y) := by
  unfold rowM
  rw [vl_append, vl_rep, List.length_replicate, List.take_length, vl_scale]; omega
theorem mulDig2 {p q : Int} (hp : -100000000 < p ∧ p < 100000000) (hq : -100000000 < q ∧ q < 100000000) : -10000000000000000 ≤ p * q ∧ p * q ≤ 10000000000000000 := by
  have h : (p * q).natAbs ≤ 100000000 * 100000000 := by rw [Int.natAbs_mul]; exact Nat.mul_le_mul (by omega) (by omega)
  omega
theorem rm_in (a b c : Int) (i : Nat) (n7 : Nat) (lr0 : List Int) (hi : i < dl a) (ha : dl a ≤ 200000) (hb : dl b ≤ 200000) : ∀ (m j : Nat), j + m = dl b →
    rml_L2 (rml_L2_1 a b c i n7 lr0 (i + j) j (rowM i ((nform a).getD i 0) (nform b) j)) (.exit 2, rml_L2_E1 a b c i n7 lr0 (i + dl b) (dl b : Nat) (rowM i ((nform a).getD i 0) (nform b) (dl b)))
  | 0, j, hj => by
    have : j = dl b := by omega
    subst this
    have lb := nform_length b
    exact rml_L2_1_1 a b c i n7 lr0 _ _ _ (by omega)
  | m + 1, j, hj => by
    have la := nform_length a
    have lb := nform_length b
    have ih := rm_in a b c i n7 lr0 hi ha hb m (j + 1) (by omega)
    have h1 : Int.toNat (i : Int) = i := by omega
    have h2 : Int.toNat (j : Int) = j := by omega
    have hm := mulDig2 (nform_getD a i) (nform_getD b j)
    have hl := rowM_length (i := i) (d := (nform a).getD i 0) (Y := nform b) (j := j) (by omega)
    have hc : ((j + 1 : Nat) : Int) = (j : Int) + 1 := by omega
    rw [rowM_succ (by omega), hc, ← Nat.add_assoc] at ih
    refine rml_L2_1_0 a b c i n7 lr0 (i + j) j _ (by omega) (by omega) (by omega) (by omega) (by omega) (by omega) (by rw [h1, h2]; omega) (by omega) (by omega) (by omega) (by omega) ?_
    rw [h1, h2]
    have := snoc1 (rowM i ((nform a).getD i 0) (nform b) j) ((nform a).getD i 0 * (nform b).getD j 0)
    rw [hl] at this
    rw [this]; exact ih
theorem rm_in0 (a b : Int) (h0 : 0 < dl a) (ha : dl a ≤ 200000) (hb : dl b ≤ 200000) : ∀ (m j : Nat), j + m = dl b →
    rml_L0 (rml_L0_1 a b j j (rowM 0 ((nform a).getD 0 0) (nform b) j)) (.exit 2, rml_L0_E1 a b (dl b) (dl b : Nat) (rowM 0 ((nform a).getD 0 0) (nform b) (dl b)))
  | 0, j, hj => by
    have : j = dl b := by omega
    subst this
    have lb := nform_length b
    exact rml_L0_1_1 a b _ _ _ (by omega)
  | m + 1, j, hj => by
    have la := nform_length a
    have lb := nform_length b
    have ih := rm_in0 a b h0 ha hb m (j + 1) (by omega)
    have h2 : Int.toNat (j : Int) = j := by omega
    have hm := mulDig2 (nform_getD a 0) (nform_getD b j)
    have hl := rowM_length (i := 0) (d := (nform a).getD 0 0) (Y := nform b) (j := j) (by omega)
    have hc : ((j + 1 : Nat) : Int) = (j : Int) + 1 := by omega
    rw [rowM_succ (by omega), hc] at ih
    refine rml_L0_1_0 a b j j _ (by omega) (by omega) (by omega) (by omega) (by omega) (by rw [h2]; omega) (by omega) (by omega) (by omega) (by omega) ?_
    rw [h2]
    have := snoc1 (rowM 0 ((nform a).getD 0 0) (nform b) j) ((nform a).getD 0 0 * (nform b).getD j 0)
    rw [hl, Nat.zero_add] at this
    rw [this]; exact ih
/-- The first digits. -/
theorem take_sz (a : Int) (i : Nat) : Sz i (vl ((nform a).take i)) := by
  have key : ∀ l : List Int, Digs l → (vl (l.take i)).natAbs < 100000000 ^ i := by
    intro l hl
    have t : Digs (l.take i) := fun d h => hl d (List.mem_of_mem_take h)
    have h1 := vl_lt t
    have h2 := vl_nonneg t
    have h3 : (100000000 : Nat) ^ (l.take i).length ≤ 100000000 ^ i := Nat.pow_le_pow_right (by decide) (by simp; omega)
    have h4 : ((100000000 ^ (l.take i).length : Nat) : Int) = (100000000 : Int) ^ (l.take i).length := Int.natCast_pow 100000000 _
    omega
  unfold Sz nform
  split
  · rw [← List.map_take, vl_neg, Int.natAbs_neg]
    exact key _ (Digs_digs _)
  · exact key _ (Digs_digs _)
theorem row_pQ (i : Nat) (d : Int) (b : Int) (j : Nat) (hd : -100000000 < d ∧ d < 100000000) (hj : j ≤ dl b) (h : i + j ≤ 400000) : pQ 400000 (rowM i d (nform b) j) := by
  refine ⟨by rw [rowM_length (by rw [nform_length]; exact hj)]; exact h, fun e he => ?_⟩
  unfold rowM at he
  rcases List.mem_append.1 he with h1 | h1
  · have := List.eq_of_mem_replicate h1
    unfold pFloored; omega
  · obtain ⟨q, hq, rfl⟩ := List.mem_map.1 h1
    have := mulDig2 hd (nform_dig b q (List.mem_of_mem_take hq))
    unfold pFloored; omega
theorem rm_out (a b : Int) (ha : dl a ≤ 150000) (hb : dl b ≤ 150000) : ∀ (m i : Nat), i + m = dl a →
    rml_L3 (rml_L3_1 a b (vl ((nform a).take i) * b) i) (.exit 0, rml_L3_E1 a b (a * b) (dl a : Nat))
  | 0, i, hi => by
    have : i = dl a := by omega
    subst this
    have la := nform_length a
    rw [List.take_of_length_le (by omega), nform_vl]
    exact rml_L3_1_2 a b _ _ (by omega)
  | m + 1, i, hi => by
    have la := nform_length a
    have lb := nform_length b
    have ih := rm_out a b ha hb m (i + 1) (by omega)
    have h1 : Int.toNat (i : Int) = i := by omega
    have hlt : i < (nform a).length := by omega
    have hg : (nform a)[i] = (nform a).getD i 0 := by simp [List.getD, hlt]
    have hlen : ((nform a).take i).length = i := by simp; omega
    have hsz : Sz 400000 (vl ((nform a).take i) * b) := ((take_sz a i).mul (show Sz (dl b) b from digs_lt b.natAbs)).mono (by omega)
    have hpq : pQ 400000 (nform (vl ((nform a).take i) * b)) := pQ_nform hsz (Nat.le_refl _)
    have hc : ((i + 1 : Nat) : Int) = (i : Int) + 1 := by omega
    rw [List.take_succ_eq_append_getElem hlt, hg, vl_snoc, hlen, hc] at ih
    have hd := nform_getD a i
    by_cases h0 : dl b = 0
    · have hb0 : b = 0 := dl_zero.1 h0
      have hrow : List.take i (List.replicate i (0 : Int)) = List.replicate i 0 := List.take_of_length_le (by simp)
      refine rml_L3_1_0 a b _ i (by omega) (by omega) (by omega) (by omega) (by omega) (rml_L2_0_1 a b _ i _ _ (by omega)) (by simp) ?_ (by omega) ?_ <;> rw [h1, hrow]
      · exact ⟨hpq, ⟨by simp; omega, fun d hd => by have := List.eq_of_mem_replicate hd; unfold pFloored; omega⟩⟩
      · rw [nform_vl, vl_rep, hb0]
        rw [hb0] at ih
        simpa using ih
    · have hL2 : rml_L2 (rml_L2_0 a b (vl ((nform a).take i) * b) i i (List.replicate i 0)) (.exit 2, rml_L2_E1 a b (vl ((nform a).take i) * b) i i (List.replicate i 0) (i + dl b) (dl b : Nat) (rowM i ((nform a).getD i 0) (nform b) (dl b))) := by
        have hk := rm_in a b (vl ((nform a).take i) * b) i i (List.replicate i 0) (by omega) (by omega) (by omega) (dl b - 1) 1 (by omega)
        rw [rowM_succ (by omega)] at hk
        have hm := mulDig2 (nform_getD a i) (nform_getD b 0)
        have e0 : rowM i ((nform a).getD i 0) (nform b) 0 = List.replicate i 0 := by simp [rowM]
        rw [e0] at hk
        refine rml_L2_0_0 a b _ i i _ (by omega) (by omega) (by omega) (by omega) (by omega) (by rw [h1]; omega) (by omega) (by omega) (by simp) ?_
        rw [h1]
        have := snoc1 (List.replicate i (0 : Int)) ((nform a).getD i 0 * (nform b).getD 0 0)
        rw [List.length_replicate] at this
        rw [this]; exact hk
      have hlr : (rowM i ((nform a).getD i 0) (nform b) (dl b)).length = i + dl b := rowM_length (by omega)
      have htk : List.take (i + dl b) (rowM i ((nform a).getD i 0) (nform b) (dl b)) = rowM i ((nform a).getD i 0) (nform b) (dl b) := List.take_of_length_le (by omega)
      have hv : vl (rowM i ((nform a).getD i 0) (nform b) (dl b)) = 100000000 ^ i * ((nform a).getD i 0 * b) := by
        have := vl_rowM i ((nform a).getD i 0) (nform b)
        rw [lb, nform_vl] at this; exact this
      refine rml_L3_1_1 a b _ i (i + dl b) (dl b : Nat) (rowM i ((nform a).getD i 0) (nform b) (dl b)) (by omega) (by omega) (by omega) (by omega) (by omega) (by rw [h1]; exact hL2) (by omega) ?_ (by omega) ?_
      · rw [htk]; exact ⟨hpq, row_pQ _ _ _ _ hd (Nat.le_refl _) (by omega)⟩
      · rw [htk, nform_vl, hv]
        have e : vl ((nform a).take i) * b + 100000000 ^ i * ((nform a).getD i 0 * b) = (vl ((nform a).take i) + 100000000 ^ i * (nform a).getD i 0) * b := by grind
        rw [e]; exact ih
def pMu (x y : List Int) : Prop := pQ 100000 x ∧ pQ 100000 y
theorem rMul_fc (x y : List Int) (h : pMu x y) : FC Tryz.prog 72 [.sq x, .sq y] (.ni (vl x * vl y)) := by
  obtain ⟨hx, hy⟩ := h
  have px : pNm x := hx.mono (by decide)
  have py : pNm y := hy.mono (by decide)
  have da := dl_le hx.sz
  have db := dl_le hy.sz
  have hz := hx.sz.mul hy.sz
  have hpn : pNm (nform (vl x * vl y)) := pQ_nform hz (by decide)
  have fin : ∀ t, rml_L3 (rml_L3_0 (vl x) (vl y)) (.exit 0, rml_L3_E1 (vl x) (vl y) (vl x * vl y) t) → FC Tryz.prog 72 [.sq x, .sq y] (.ni (vl x * vl y)) := fun t hL => by
    have := rml_1 x y (vl x * vl y) t px py hL hpn
    rwa [nform_vl] at this
  have lx := nform_length (vl x)
  have ly := nform_length (vl y)
  by_cases h0 : dl (vl x) = 0
  · have hx0 : vl x = 0 := dl_zero.1 h0
    have := rml_0 x y px py (rml_L3_0_2 _ _ (by omega)) ⟨by simp, fun d hd => by cases hd⟩
    rw [hx0, Int.zero_mul]; exact this
  · have hlt : 0 < (nform (vl x)).length := by omega
    have ho := rm_out (vl x) (vl y) (by omega) (by omega) (dl (vl x) - 1) 1 (by omega)
    have hg : (nform (vl x))[0] = (nform (vl x)).getD 0 0 := by simp [List.getD, hlt]
    have ht : vl ((nform (vl x)).take 1) = (nform (vl x)).getD 0 0 := by
      rw [List.take_succ_eq_append_getElem hlt, hg]; simp [vl]
    rw [ht] at ho
    by_cases hb0 : dl (vl y) = 0
    · have hy0 : vl y = 0 := dl_zero.1 hb0
      refine fin (dl (vl x) : Nat) (rml_L3_0_0 _ _ (by omega) (rml_L0_0_1 _ _ (by omega)) (by omega) ⟨⟨by simp, fun d hd => by cases hd⟩, ⟨by simp, fun d hd => by simp at hd⟩⟩ ?_)
      rw [hy0] at ho ⊢
      simpa using ho
    · have hk := rm_in0 (vl x) (vl y) (by omega) (by omega) (by omega) (dl (vl y) - 1) 1 (by omega)
      have hm := mulDig2 (nform_getD (vl x) 0) (nform_getD (vl y) 0)
      have e1 : rowM 0 ((nform (vl x)).getD 0 0) (nform (vl y)) 1 = [(nform (vl x)).getD 0 0 * (nform (vl y)).getD 0 0] := by rw [rowM_succ (by omega)]; simp [rowM]
      rw [e1] at hk
      have hL0 := rml_L0_0_0 (vl x) (vl y) (by omega) (by omega) (by omega) (by omega) (by omega) hk
      have hlr : (rowM 0 ((nform (vl x)).getD 0 0) (nform (vl y)) (dl (vl y))).length = dl (vl y) := by rw [rowM_length (by omega)]; omega
      have htk : List.take (dl (vl y)) (rowM 0 ((nform (vl x)).getD 0 0) (nform (vl y)) (dl (vl y))) = rowM 0 ((nform (vl x)).getD 0 0) (nform (vl y)) (dl (vl y)) := List.take_of_length_le (by omega)
      have hv : vl (rowM 0 ((nform (vl x)).getD 0 0) (nform (vl y)) (dl (vl y))) = (nform (vl x)).getD 0 0 * vl y := by
        have := vl_rowM 0 ((nform (vl x)).getD 0 0) (nform (vl y))
        rw [ly, nform_vl] at this
        simpa using this
      refine fin (dl (vl x) : Nat) (rml_L3_0_1 _ _ (dl (vl y)) (dl (vl y) : Nat) _ (by omega) hL0 (by omega) ?_ ?_)
      · rw [htk]; exact ⟨⟨by simp, fun d hd => by cases hd⟩, row_pQ _ _ _ _ (nform_getD _ _) (Nat.le_refl _) (by omega)⟩
      · rw [htk, hv]
        simpa using ho
def ctrF5 : Ctr := (136, n1 pNg (fun z => .ni (z.natAbs : Int))) :: (134, cL pX (fun x => .ni (-vl x))) :: (135, cL pX (fun x => .lit (.int .i64 (vl x).sign))) :: (72, cLL pMu (fun x y => .ni (vl x * vl y))) :: ctrF4
theorem ctrF5_all : ∀ p ∈ ctrF5, CtrOK Tryz.prog p.1 p.2 := CAll.cons (n1_ok rsize_fc) <| CAll.cons (cL_ok rNeg_fc) <| CAll.cons (cL_ok rSign_fc) <| CAll.cons (cLL_ok rMul_fc) ctrF4_all
theorem okF5 : (mkCfg Tryz.prog ctrF5 bw).OK := cfg_ok ctrF5_all

end Go.Proofs.YtcpgkgldibobeaaGreatDoor
end

section
open Go Go.Ev Go.RowKit
namespace Go.Proofs.YtcpgkgldibobeaaGreatDoor
open Go.Proofs
set_option maxRecDepth 100000
set_option maxHeartbeats 1000000
set_option linter.unusedVariables false
set_option linter.unusedSimpArgs false


theorem rsb_0 (x y : List Int) (h1 : pX y) (h2 : pAd x (nform (-vl y))) : FC Tryz.prog 71 [.sq x, .sq y] (AV.ni (vl x + vl (nform (-vl y)))) := fc_fun okF5 (show funA (mkCfg Tryz.prog ctrF5 bw) 60 71 [.sq x, .sq y] [] [] = some (AV.ni (vl x + vl (nform (-vl y))), ((pX y) :: (pAd x (nform (-vl y))) :: [])) by kernel_rfl) (AllC.cons (h1) (AllC.cons (h2) AllC.nil))
def pSu (x y : List Int) : Prop := pQ 390000 x ∧ pQ 390000 y
theorem rSub_fc (x y : List Int) (h : pSu x y) : FC Tryz.prog 71 [.sq x, .sq y] (.ni (vl x - vl y)) := by
  have := rsb_0 x y (h.2.mono (by decide)) ⟨h.1.mono (by decide), pQ_nform h.2.sz.neg (by decide)⟩
  rw [nform_vl, ← Int.sub_eq_add_neg] at this
  exact this
def ctrF6 : Ctr := (71, cLL pSu (fun x y => .ni (vl x - vl y))) :: ctrF5
theorem ctrF6_all : ∀ p ∈ ctrF6, CtrOK Tryz.prog p.1 p.2 := CAll.cons (cLL_ok rSub_fc) ctrF5_all
theorem okF6 : (mkCfg Tryz.prog ctrF6 bw).OK := cfg_ok ctrF6_all

end Go.Proofs.YtcpgkgldibobeaaGreatDoor
end

section
open Go Go.Ev Go.RowKit
namespace Go.Proofs.YtcpgkgldibobeaaGreatDoor
open Go.Proofs
set_option maxRecDepth 100000
set_option maxHeartbeats 1000000
set_option linter.unusedVariables false
set_option linter.unusedSimpArgs false


theorem rcm_0 (x y : List Int) (h1 : pSu x y) (h2 : pX (nform (vl x - vl y))) : FC Tryz.prog 73 [.sq x, .sq y] (aI (Int.sign (vl (nform (vl x - vl y))))) := fc_fun okF6 (show funA (mkCfg Tryz.prog ctrF6 bw) 60 73 [.sq x, .sq y] [] [] = some (aI (Int.sign (vl (nform (vl x - vl y)))), ((pSu x y) :: (pX (nform (vl x - vl y))) :: [])) by kernel_rfl) (AllC.cons (h1) (AllC.cons (h2) AllC.nil))
abbrev rdv_L2 (s : St) (r : Ex × St) : Prop := Loops 1 Tryz.prog (lpOf Tryz.prog 137 0) s r
abbrev rdv_L2_0 (z0 : Int) (z1 : Int) (n6 : Nat) (t8 : Int) (lr0 : List Int) : St := ⟨sp 60 [(0, AV.ni z0), (1, AV.ni z1), (6, AV.own 0 0 n6 1), (7, aN), (8, aI t8)], [Row.ints lr0 true], [0]⟩
abbrev rdv_L2_1 (z0 : Int) (z1 : Int) (n6 : Nat) (t8 : Int) (lr0 : List Int) (z7 : Int) (t8_1 : Int) (lr0_1 : List Int) : St := ⟨sp 60 [(0, AV.ni z0), (1, AV.ni z1), (6, AV.own 0 0 n6 1), (7, AV.ni z7), (8, aI t8_1)], [Row.ints lr0_1 true], [0]⟩
abbrev rdv_L2_E0 (z0 : Int) (z1 : Int) (n6 : Nat) (t8 : Int) (lr0 : List Int) : St := ⟨sp 60 [(0, AV.ni z0), (1, AV.ni z1), (6, AV.own 0 0 n6 1), (7, aN), (8, aI t8)], [Row.ints lr0 true], [0]⟩
abbrev rdv_L2_E1 (z0 : Int) (z1 : Int) (n6 : Nat) (t8 : Int) (lr0 : List Int) (z7 : Int) (t8_1 : Int) (lr0_1 : List Int) : St := ⟨sp 60 [(0, AV.ni z0), (1, AV.ni z1), (6, AV.own 0 0 n6 1), (7, AV.ni z7), (8, aI t8_1)], [Row.ints lr0_1 true], [0]⟩
abbrev rdv_L1 (s : St) (r : Ex × St) : Prop := Loops 3 Tryz.prog (lpOf Tryz.prog 137 1) s r
abbrev rdv_L1_0 (z0_1 : Int) (z1_1 : Int) (n6_1 : Nat) (q7 : List Int) (t8_1 : Int) (lr0_1 : List Int) (lr2 : List Int) (t9 : Int) (t10 : Int) : St := ⟨sp 60 [(0, AV.ni z0_1), (1, AV.ni z1_1), (6, AV.own 0 0 n6_1 1), (7, AV.sq q7), (8, aI t8_1), (9, aI t9), (10, aI t10)], [Row.ints lr0_1 true, Row.dead, Row.ints lr2 false], [2, 1, 0]⟩
abbrev rdv_L1_E0 (z0_1 : Int) (z1_1 : Int) (n6_1 : Nat) (q7 : List Int) (t8_1 : Int) (lr0_1 : List Int) (lr2 : List Int) (t9 : Int) (t10 : Int) : St := ⟨sp 60 [(0, AV.ni z0_1), (1, AV.ni z1_1), (6, AV.own 0 0 n6_1 1), (7, AV.sq q7), (8, aI t8_1), (9, aI t9), (10, aI t10)], [Row.ints lr0_1 true, Row.dead, Row.ints lr2 false], [2, 1, 0]⟩
theorem rdv_L1_0_0 (z0_1 : Int) (z1_1 : Int) (n6_1 : Nat) (q7 : List Int) (t8_1 : Int) (lr0_1 : List Int) (lr2 : List Int) (t9 : Int) (t10 : Int) (h1 : t9 < t10) (h2 : -9223372036854775808 ≤ t9 + t10 ∧ t9 + t10 ≤ 9223372036854775807) (h3 : -9223372036854775808 ≤ t9 + t10 + 1 ∧ t9 + t10 + 1 ≤ 9223372036854775807) (h4 : -9223372036854775808 ≤ Int.tdiv (t9 + t10 + 1) 2 ∧ Int.tdiv (t9 + t10 + 1) 2 ≤ 9223372036854775807) (h5 : 1 ≤ List.length [Int.tdiv (t9 + t10 + 1) 2]) (h6 : pMu (nform z1_1) (List.take 1 [Int.tdiv (t9 + t10 + 1) 2])) (h7 : pLesL q7 (nform (vl (nform z1_1) * vl (List.take 1 [Int.tdiv (t9 + t10 + 1) 2])))) (h8 : vl q7 < vl (nform (vl (nform z1_1) * vl (List.take 1 [Int.tdiv (t9 + t10 + 1) 2])))) (h9 : -9223372036854775808 ≤ Int.tdiv (t9 + t10 + 1) 2 - 1 ∧ Int.tdiv (t9 + t10 + 1) 2 - 1 ≤ 9223372036854775807) {r : Ex × St} (k : rdv_L1 (rdv_L1_0 z0_1 z1_1 n6_1 q7 t8_1 lr0_1 lr2 t9 (Int.tdiv (t9 + t10 + 1) 2 - 1)) r) : rdv_L1 (rdv_L1_0 z0_1 z1_1 n6_1 q7 t8_1 lr0_1 lr2 t9 t10) r := Loops.go (LS.of okF6 (show rndA (mkCfg Tryz.prog ctrF6 bw) 60 (lpOf Tryz.prog 137 1) 3 [] [0, 1, 6, 7, 8, 9, 10] [2, 1, 0] (rdv_L1_0 z0_1 z1_1 n6_1 q7 t8_1 lr0_1 lr2 t9 t10) [true, true] [] = some (Ex.normal, (rdv_L1_0 z0_1 z1_1 n6_1 q7 t8_1 lr0_1 lr2 t9 (Int.tdiv (t9 + t10 + 1) 2 - 1)), ((decide (t9 < t10) = true) :: (inR IntKind.i64 (t9 + t10) = true) :: (inR IntKind.i64 (t9 + t10 + 1) = true) :: ttC 1 ((inR IntKind.i64 (Int.tdiv (t9 + t10 + 1) 2) = true) :: (1 ≤ List.length [Int.tdiv (t9 + t10 + 1) 2]) :: (pMu (nform z1_1) (List.take 1 [Int.tdiv (t9 + t10 + 1) 2])) :: (pLesL q7 (nform (vl (nform z1_1) * vl (List.take 1 [Int.tdiv (t9 + t10 + 1) 2])))) :: (decide (vl q7 < vl (nform (vl (nform z1_1) * vl (List.take 1 [Int.tdiv (t9 + t10 + 1) 2])))) = true) :: (inR IntKind.i64 (Int.tdiv (t9 + t10 + 1) 2 - 1) = true) :: []))) by kernel_rfl) (AllC.cons (decide_eq_true h1) (AllC.cons (inR64.2 h2) (AllC.cons (inR64.2 h3) (AllC.tt 1 (AllC.cons (inR64.2 h4) (AllC.cons (h5) (AllC.cons (h6) (AllC.cons (h7) (AllC.cons (decide_eq_true h8) (AllC.cons (inR64.2 h9) AllC.nil))))))))))) k
theorem rdv_L1_0_1 (z0_1 : Int) (z1_1 : Int) (n6_1 : Nat) (q7 : List Int) (t8_1 : Int) (lr0_1 : List Int) (lr2 : List Int) (t9 : Int) (t10 : Int) (h1 : t9 < t10) (h2 : -9223372036854775808 ≤ t9 + t10 ∧ t9 + t10 ≤ 9223372036854775807) (h3 : -9223372036854775808 ≤ t9 + t10 + 1 ∧ t9 + t10 + 1 ≤ 9223372036854775807) (h4 : -9223372036854775808 ≤ Int.tdiv (t9 + t10 + 1) 2 ∧ Int.tdiv (t9 + t10 + 1) 2 ≤ 9223372036854775807) (h5 : 1 ≤ List.length [Int.tdiv (t9 + t10 + 1) 2]) (h6 : pMu (nform z1_1) (List.take 1 [Int.tdiv (t9 + t10 + 1) 2])) (h7 : pLesL q7 (nform (vl (nform z1_1) * vl (List.take 1 [Int.tdiv (t9 + t10 + 1) 2])))) (h8 : ¬ (vl q7 < vl (nform (vl (nform z1_1) * vl (List.take 1 [Int.tdiv (t9 + t10 + 1) 2]))))) {r : Ex × St} (k : rdv_L1 (rdv_L1_0 z0_1 z1_1 n6_1 q7 t8_1 lr0_1 lr2 (Int.tdiv (t9 + t10 + 1) 2) t10) r) : rdv_L1 (rdv_L1_0 z0_1 z1_1 n6_1 q7 t8_1 lr0_1 lr2 t9 t10) r := Loops.go (LS.of okF6 (show rndA (mkCfg Tryz.prog ctrF6 bw) 60 (lpOf Tryz.prog 137 1) 3 [] [0, 1, 6, 7, 8, 9, 10] [2, 1, 0] (rdv_L1_0 z0_1 z1_1 n6_1 q7 t8_1 lr0_1 lr2 t9 t10) [true, false] [] = some (Ex.normal, (rdv_L1_0 z0_1 z1_1 n6_1 q7 t8_1 lr0_1 lr2 (Int.tdiv (t9 + t10 + 1) 2) t10), ((decide (t9 < t10) = true) :: (inR IntKind.i64 (t9 + t10) = true) :: (inR IntKind.i64 (t9 + t10 + 1) = true) :: ttC 1 ((inR IntKind.i64 (Int.tdiv (t9 + t10 + 1) 2) = true) :: (1 ≤ List.length [Int.tdiv (t9 + t10 + 1) 2]) :: (pMu (nform z1_1) (List.take 1 [Int.tdiv (t9 + t10 + 1) 2])) :: (pLesL q7 (nform (vl (nform z1_1) * vl (List.take 1 [Int.tdiv (t9 + t10 + 1) 2])))) :: (decide (vl q7 < vl (nform (vl (nform z1_1) * vl (List.take 1 [Int.tdiv (t9 + t10 + 1) 2])))) = false) :: []))) by kernel_rfl) (AllC.cons (decide_eq_true h1) (AllC.cons (inR64.2 h2) (AllC.cons (inR64.2 h3) (AllC.tt 1 (AllC.cons (inR64.2 h4) (AllC.cons (h5) (AllC.cons (h6) (AllC.cons (h7) (AllC.cons (decide_eq_false h8) AllC.nil)))))))))) k
theorem rdv_L1_0_2 (z0_1 : Int) (z1_1 : Int) (n6_1 : Nat) (q7 : List Int) (t8_1 : Int) (lr0_1 : List Int) (lr2 : List Int) (t9 : Int) (t10 : Int) (h1 : ¬ (t9 < t10)) : rdv_L1 (rdv_L1_0 z0_1 z1_1 n6_1 q7 t8_1 lr0_1 lr2 t9 t10) (Ex.exit 2, (rdv_L1_E0 z0_1 z1_1 n6_1 q7 t8_1 lr0_1 lr2 t9 t10)) := Loops.fin (LS.of okF6 (show rndA (mkCfg Tryz.prog ctrF6 bw) 60 (lpOf Tryz.prog 137 1) 3 [] [0, 1, 6, 7, 8, 9, 10] [2, 1, 0] (rdv_L1_0 z0_1 z1_1 n6_1 q7 t8_1 lr0_1 lr2 t9 t10) [false] [] = some (Ex.exit 2, (rdv_L1_E0 z0_1 z1_1 n6_1 q7 t8_1 lr0_1 lr2 t9 t10), ((decide (t9 < t10) = false) :: [])) by kernel_rfl) (AllC.cons (decide_eq_false h1) AllC.nil)) (fun h => nomatch h)
theorem rdv_L2_0_0 (z0 : Int) (z1 : Int) (n6 : Nat) (t8 : Int) (lr0 : List Int) (t9 : Int) (t10 : Int) (h1 : t8 ≥ 0) (h2 : 0 ≤ t8) (h3 : t8 < (↑(List.length (nform z0)) : Int)) (h4 : Int.toNat t8 < List.length (nform z0)) (h5 : 1 ≤ List.length [List.getD (nform z0) (Int.toNat t8) 0]) (h6 : 1 ≤ List.length (List.take 1 [List.getD (nform z0) (Int.toNat t8) 0] ++ [])) (h7 : pTr (List.take 1 (List.take 1 [List.getD (nform z0) (Int.toNat t8) 0] ++ []))) (hL1 : rdv_L1 (rdv_L1_0 z0 z1 n6 (trm (List.take 1 (List.take 1 [List.getD (nform z0) (Int.toNat t8) 0] ++ []))) t8 lr0 ([List.getD (nform z0) (Int.toNat t8) 0]) (0) (99999999)) (Ex.exit 2, (rdv_L1_E0 z0 z1 n6 (trm (List.take 1 (List.take 1 [List.getD (nform z0) (Int.toNat t8) 0] ++ []))) t8 lr0 ([List.getD (nform z0) (Int.toNat t8) 0]) t9 t10))) (h9 : t8 < (↑n6 : Int)) (h10 : 0 + Int.toNat t8 * 1 < List.length lr0) (h11 : 1 ≤ List.length [t9]) (h12 : pMu (nform z1) (List.take 1 [t9])) (h13 : pSu (trm (List.take 1 (List.take 1 [List.getD (nform z0) (Int.toNat t8) 0] ++ []))) (nform (vl (nform z1) * vl (List.take 1 [t9])))) (h14 : -9223372036854775808 ≤ t8 - 1 ∧ t8 - 1 ≤ 9223372036854775807) {r : Ex × St} (k : rdv_L2 (rdv_L2_1 z0 z1 n6 t8 lr0 (vl (trm (List.take 1 (List.take 1 [List.getD (nform z0) (Int.toNat t8) 0] ++ []))) - vl (nform (vl (nform z1) * vl (List.take 1 [t9])))) (t8 - 1) (List.set lr0 (0 + Int.toNat t8 * 1) t9)) r) : rdv_L2 (rdv_L2_0 z0 z1 n6 t8 lr0) r := Loops.go (LS.of okF6 (show rndA (mkCfg Tryz.prog ctrF6 bw) 60 (lpOf Tryz.prog 137 0) 1 [] [0, 1, 6, 7, 8] [0] (rdv_L2_0 z0 z1 n6 t8 lr0) [true] [some (viaL Tryz.prog (lpOf Tryz.prog 137 1) [] [0, 1, 6, 7, 8, 9, 10] [2, 1, 0] (rdv_L1_0 z0 z1 n6 (trm (List.take 1 (List.take 1 [List.getD (nform z0) (Int.toNat t8) 0] ++ []))) t8 lr0 ([List.getD (nform z0) (Int.toNat t8) 0]) (0) (99999999)) (Ex.exit 2, (rdv_L1_E0 z0 z1 n6 (trm (List.take 1 (List.take 1 [List.getD (nform z0) (Int.toNat t8) 0] ++ []))) t8 lr0 ([List.getD (nform z0) (Int.toNat t8) 0]) t9 t10)))] = some (Ex.normal, (rdv_L2_1 z0 z1 n6 t8 lr0 (vl (trm (List.take 1 (List.take 1 [List.getD (nform z0) (Int.toNat t8) 0] ++ []))) - vl (nform (vl (nform z1) * vl (List.take 1 [t9])))) (t8 - 1) (List.set lr0 (0 + Int.toNat t8 * 1) t9)), ((decide (t8 ≥ 0) = true) :: (decide (0 ≤ t8) = true) :: (decide (t8 < (↑(List.length (nform z0)) : Int)) = true) :: (decide (Int.toNat t8 < List.length (nform z0)) = true) :: ttC 2 ((decide (1 ≤ List.length [List.getD (nform z0) (Int.toNat t8) 0]) = true) :: ttC 1 ((1 ≤ List.length (List.take 1 [List.getD (nform z0) (Int.toNat t8) 0] ++ [])) :: (pTr (List.take 1 (List.take 1 [List.getD (nform z0) (Int.toNat t8) 0] ++ []))) :: viaC Tryz.prog (lpOf Tryz.prog 137 1) [0, 1, 6, 7, 8, 9, 10] [2, 1, 0] (rdv_L1_0 z0 z1 n6 (trm (List.take 1 (List.take 1 [List.getD (nform z0) (Int.toNat t8) 0] ++ []))) t8 lr0 ([List.getD (nform z0) (Int.toNat t8) 0]) (0) (99999999)) 3 (Ex.exit 2, (rdv_L1_E0 z0 z1 n6 (trm (List.take 1 (List.take 1 [List.getD (nform z0) (Int.toNat t8) 0] ++ []))) t8 lr0 ([List.getD (nform z0) (Int.toNat t8) 0]) t9 t10)) ((decide (0 ≤ t8) = true) :: (decide (t8 < (↑n6 : Int)) = true) :: (decide (0 + Int.toNat t8 * 1 < List.length lr0) = true) :: (1 ≤ List.length [t9]) :: (pMu (nform z1) (List.take 1 [t9])) :: (pSu (trm (List.take 1 (List.take 1 [List.getD (nform z0) (Int.toNat t8) 0] ++ []))) (nform (vl (nform z1) * vl (List.take 1 [t9])))) :: (inR IntKind.i64 (t8 - 1) = true) :: []))))) by kernel_rfl) (AllC.cons (decide_eq_true h1) (AllC.cons (decide_eq_true h2) (AllC.cons (decide_eq_true h3) (AllC.cons (decide_eq_true h4) (AllC.tt 2 (AllC.cons (decide_eq_true h5) (AllC.tt 1 (AllC.cons (h6) (AllC.cons (h7) (AllC.via hL1 (AllC.cons (decide_eq_true h2) (AllC.cons (decide_eq_true h9) (AllC.cons (decide_eq_true h10) (AllC.cons (h11) (AllC.cons (h12) (AllC.cons (h13) (AllC.cons (inR64.2 h14) AllC.nil)))))))))))))))))) k
theorem rdv_L2_0_1 (z0 : Int) (z1 : Int) (n6 : Nat) (t8 : Int) (lr0 : List Int) (h1 : ¬ (t8 ≥ 0)) : rdv_L2 (rdv_L2_0 z0 z1 n6 t8 lr0) (Ex.exit 0, (rdv_L2_E0 z0 z1 n6 t8 lr0)) := Loops.fin (LS.of okF6 (show rndA (mkCfg Tryz.prog ctrF6 bw) 60 (lpOf Tryz.prog 137 0) 1 [] [0, 1, 6, 7, 8] [0] (rdv_L2_0 z0 z1 n6 t8 lr0) [false] [] = some (Ex.exit 0, (rdv_L2_E0 z0 z1 n6 t8 lr0), ((decide (t8 ≥ 0) = false) :: [])) by kernel_rfl) (AllC.cons (decide_eq_false h1) AllC.nil)) (fun h => nomatch h)
theorem rdv_L2_1_0 (z0 : Int) (z1 : Int) (n6 : Nat) (t8 : Int) (lr0 : List Int) (z7 : Int) (t8_1 : Int) (lr0_1 : List Int) (t9 : Int) (t10 : Int) (h1 : t8_1 ≥ 0) (h2 : 0 ≤ t8_1) (h3 : t8_1 < (↑(List.length (nform z0)) : Int)) (h4 : Int.toNat t8_1 < List.length (nform z0)) (h5 : (1 + List.length (nform z7)) * 8 ≤ 140737488355328) (h6 : 1 + List.length (nform z7) ≤ 4611686018427387904) (h7 : 1 ≤ List.length [List.getD (nform z0) (Int.toNat t8_1) 0]) (h8 : 1 + List.length (nform z7) ≤ List.length (List.take 1 [List.getD (nform z0) (Int.toNat t8_1) 0] ++ nform z7)) (h9 : pTr (List.take (1 + List.length (nform z7)) (List.take 1 [List.getD (nform z0) (Int.toNat t8_1) 0] ++ nform z7))) (hL1 : rdv_L1 (rdv_L1_0 z0 z1 n6 (trm (List.take (1 + List.length (nform z7)) (List.take 1 [List.getD (nform z0) (Int.toNat t8_1) 0] ++ nform z7))) t8_1 lr0_1 (List.take 1 [List.getD (nform z0) (Int.toNat t8_1) 0] ++ nform z7) (0) (99999999)) (Ex.exit 2, (rdv_L1_E0 z0 z1 n6 (trm (List.take (1 + List.length (nform z7)) (List.take 1 [List.getD (nform z0) (Int.toNat t8_1) 0] ++ nform z7))) t8_1 lr0_1 (List.take 1 [List.getD (nform z0) (Int.toNat t8_1) 0] ++ nform z7) t9 t10))) (h11 : t8_1 < (↑n6 : Int)) (h12 : 0 + Int.toNat t8_1 * 1 < List.length lr0_1) (h13 : 1 ≤ List.length [t9]) (h14 : pMu (nform z1) (List.take 1 [t9])) (h15 : pSu (trm (List.take (1 + List.length (nform z7)) (List.take 1 [List.getD (nform z0) (Int.toNat t8_1) 0] ++ nform z7))) (nform (vl (nform z1) * vl (List.take 1 [t9])))) (h16 : -9223372036854775808 ≤ t8_1 - 1 ∧ t8_1 - 1 ≤ 9223372036854775807) {r : Ex × St} (k : rdv_L2 (rdv_L2_1 z0 z1 n6 t8 lr0 (vl (trm (List.take (1 + List.length (nform z7)) (List.take 1 [List.getD (nform z0) (Int.toNat t8_1) 0] ++ nform z7))) - vl (nform (vl (nform z1) * vl (List.take 1 [t9])))) (t8_1 - 1) (List.set lr0_1 (0 + Int.toNat t8_1 * 1) t9)) r) : rdv_L2 (rdv_L2_1 z0 z1 n6 t8 lr0 z7 t8_1 lr0_1) r := Loops.go (LS.of okF6 (show rndA (mkCfg Tryz.prog ctrF6 bw) 60 (lpOf Tryz.prog 137 0) 1 [] [0, 1, 6, 7, 8] [0] (rdv_L2_1 z0 z1 n6 t8 lr0 z7 t8_1 lr0_1) [true] [some (viaL Tryz.prog (lpOf Tryz.prog 137 1) [] [0, 1, 6, 7, 8, 9, 10] [2, 1, 0] (rdv_L1_0 z0 z1 n6 (trm (List.take (1 + List.length (nform z7)) (List.take 1 [List.getD (nform z0) (Int.toNat t8_1) 0] ++ nform z7))) t8_1 lr0_1 (List.take 1 [List.getD (nform z0) (Int.toNat t8_1) 0] ++ nform z7) (0) (99999999)) (Ex.exit 2, (rdv_L1_E0 z0 z1 n6 (trm (List.take (1 + List.length (nform z7)) (List.take 1 [List.getD (nform z0) (Int.toNat t8_1) 0] ++ nform z7))) t8_1 lr0_1 (List.take 1 [List.getD (nform z0) (Int.toNat t8_1) 0] ++ nform z7) t9 t10)))] = some (Ex.normal, (rdv_L2_1 z0 z1 n6 t8 lr0 (vl (trm (List.take (1 + List.length (nform z7)) (List.take 1 [List.getD (nform z0) (Int.toNat t8_1) 0] ++ nform z7))) - vl (nform (vl (nform z1) * vl (List.take 1 [t9])))) (t8_1 - 1) (List.set lr0_1 (0 + Int.toNat t8_1 * 1) t9)), ((decide (t8_1 ≥ 0) = true) :: (decide (0 ≤ t8_1) = true) :: (decide (t8_1 < (↑(List.length (nform z0)) : Int)) = true) :: (decide (Int.toNat t8_1 < List.length (nform z0)) = true) :: (decide ((1 + List.length (nform z7)) * 8 ≤ 140737488355328) = true) :: (decide (1 + List.length (nform z7) ≤ 4611686018427387904) = true) :: (decide (1 ≤ List.length [List.getD (nform z0) (Int.toNat t8_1) 0]) = true) :: (decide (List.length (nform z7) = List.length (nform z7)) = true) :: (1 + List.length (nform z7) ≤ List.length (List.take 1 [List.getD (nform z0) (Int.toNat t8_1) 0] ++ nform z7)) :: (pTr (List.take (1 + List.length (nform z7)) (List.take 1 [List.getD (nform z0) (Int.toNat t8_1) 0] ++ nform z7))) :: viaC Tryz.prog (lpOf Tryz.prog 137 1) [0, 1, 6, 7, 8, 9, 10] [2, 1, 0] (rdv_L1_0 z0 z1 n6 (trm (List.take (1 + List.length (nform z7)) (List.take 1 [List.getD (nform z0) (Int.toNat t8_1) 0] ++ nform z7))) t8_1 lr0_1 (List.take 1 [List.getD (nform z0) (Int.toNat t8_1) 0] ++ nform z7) (0) (99999999)) 3 (Ex.exit 2, (rdv_L1_E0 z0 z1 n6 (trm (List.take (1 + List.length (nform z7)) (List.take 1 [List.getD (nform z0) (Int.toNat t8_1) 0] ++ nform z7))) t8_1 lr0_1 (List.take 1 [List.getD (nform z0) (Int.toNat t8_1) 0] ++ nform z7) t9 t10)) ((decide (0 ≤ t8_1) = true) :: (decide (t8_1 < (↑n6 : Int)) = true) :: (decide (0 + Int.toNat t8_1 * 1 < List.length lr0_1) = true) :: (1 ≤ List.length [t9]) :: (pMu (nform z1) (List.take 1 [t9])) :: (pSu (trm (List.take (1 + List.length (nform z7)) (List.take 1 [List.getD (nform z0) (Int.toNat t8_1) 0] ++ nform z7))) (nform (vl (nform z1) * vl (List.take 1 [t9])))) :: (inR IntKind.i64 (t8_1 - 1) = true) :: []))) by kernel_rfl) (AllC.cons (decide_eq_true h1) (AllC.cons (decide_eq_true h2) (AllC.cons (decide_eq_true h3) (AllC.cons (decide_eq_true h4) (AllC.cons (decide_eq_true h5) (AllC.cons (decide_eq_true h6) (AllC.cons (decide_eq_true h7) (AllC.cons (decide_eq_true rfl) (AllC.cons (h8) (AllC.cons (h9) (AllC.via hL1 (AllC.cons (decide_eq_true h2) (AllC.cons (decide_eq_true h11) (AllC.cons (decide_eq_true h12) (AllC.cons (h13) (AllC.cons (h14) (AllC.cons (h15) (AllC.cons (inR64.2 h16) AllC.nil))))))))))))))))))) k
theorem rdv_L2_1_1 (z0 : Int) (z1 : Int) (n6 : Nat) (t8 : Int) (lr0 : List Int) (z7 : Int) (t8_1 : Int) (lr0_1 : List Int) (h1 : ¬ (t8_1 ≥ 0)) : rdv_L2 (rdv_L2_1 z0 z1 n6 t8 lr0 z7 t8_1 lr0_1) (Ex.exit 0, (rdv_L2_E1 z0 z1 n6 t8 lr0 z7 t8_1 lr0_1)) := Loops.fin (LS.of okF6 (show rndA (mkCfg Tryz.prog ctrF6 bw) 60 (lpOf Tryz.prog 137 0) 1 [] [0, 1, 6, 7, 8] [0] (rdv_L2_1 z0 z1 n6 t8 lr0 z7 t8_1 lr0_1) [false] [] = some (Ex.exit 0, (rdv_L2_E1 z0 z1 n6 t8 lr0 z7 t8_1 lr0_1), ((decide (t8_1 ≥ 0) = false) :: [])) by kernel_rfl) (AllC.cons (decide_eq_false h1) AllC.nil)) (fun h => nomatch h)
theorem rdv_0 (a b : Int) (h1 : 0 ≤ (↑(List.length (nform a)) : Int)) (h2 : (↑(List.length (nform a)) : Int) ≤ (↑(List.length (nform a)) : Int)) (h3 : 8 * (↑(List.length (nform a)) : Int) ≤ 281474976710656) (h4 : (↑(List.length (nform a)) : Int) ≤ 9223372036854775807) (h5 : -9223372036854775808 ≤ (↑(List.length (nform a)) : Int) - 1 ∧ (↑(List.length (nform a)) : Int) - 1 ≤ 9223372036854775807) (hL1 : rdv_L2 (rdv_L2_0 a b (Int.toNat (↑(List.length (nform a)) : Int)) ((↑(List.length (nform a)) : Int) - 1) (zerosI (Int.toNat (↑(List.length (nform a)) : Int)))) (Ex.exit 0, (rdv_L2_E0 a b (Int.toNat (↑(List.length (nform a)) : Int)) ((↑(List.length (nform a)) : Int) - 1) (zerosI (Int.toNat (↑(List.length (nform a)) : Int)))))) (h7 : Int.toNat (↑(List.length (nform a)) : Int) ≤ List.length (zerosI (Int.toNat (↑(List.length (nform a)) : Int)))) (h8 : pTr (List.take (Int.toNat (↑(List.length (nform a)) : Int)) (zerosI (Int.toNat (↑(List.length (nform a)) : Int))))) : FC Tryz.prog 137 [.ni a, .ni b] (AV.tup [AV.sq (trm (List.take (Int.toNat (↑(List.length (nform a)) : Int)) (zerosI (Int.toNat (↑(List.length (nform a)) : Int))))), aN]) := fc_fun okF6 (show funA (mkCfg Tryz.prog ctrF6 bw) 60 137 [.ni a, .ni b] [] [some (viaL Tryz.prog (lpOf Tryz.prog 137 0) [] [0, 1, 6, 7, 8] [0] (rdv_L2_0 a b (Int.toNat (↑(List.length (nform a)) : Int)) ((↑(List.length (nform a)) : Int) - 1) (zerosI (Int.toNat (↑(List.length (nform a)) : Int)))) (Ex.exit 0, (rdv_L2_E0 a b (Int.toNat (↑(List.length (nform a)) : Int)) ((↑(List.length (nform a)) : Int) - 1) (zerosI (Int.toNat (↑(List.length (nform a)) : Int))))))] = some (AV.tup [AV.sq (trm (List.take (Int.toNat (↑(List.length (nform a)) : Int)) (zerosI (Int.toNat (↑(List.length (nform a)) : Int))))), aN], ((decide (0 ≤ (↑(List.length (nform a)) : Int)) = true) :: (decide ((↑(List.length (nform a)) : Int) ≤ (↑(List.length (nform a)) : Int)) = true) :: (decide (8 * (↑(List.length (nform a)) : Int) ≤ 281474976710656) = true) :: (decide ((↑(List.length (nform a)) : Int) ≤ 9223372036854775807) = true) :: (inR IntKind.i64 ((↑(List.length (nform a)) : Int) - 1) = true) :: viaC Tryz.prog (lpOf Tryz.prog 137 0) [0, 1, 6, 7, 8] [0] (rdv_L2_0 a b (Int.toNat (↑(List.length (nform a)) : Int)) ((↑(List.length (nform a)) : Int) - 1) (zerosI (Int.toNat (↑(List.length (nform a)) : Int)))) 1 (Ex.exit 0, (rdv_L2_E0 a b (Int.toNat (↑(List.length (nform a)) : Int)) ((↑(List.length (nform a)) : Int) - 1) (zerosI (Int.toNat (↑(List.length (nform a)) : Int))))) ((Int.toNat (↑(List.length (nform a)) : Int) ≤ List.length (zerosI (Int.toNat (↑(List.length (nform a)) : Int)))) :: (pTr (List.take (Int.toNat (↑(List.length (nform a)) : Int)) (zerosI (Int.toNat (↑(List.length (nform a)) : Int))))) :: []))) by kernel_rfl) (AllC.cons (decide_eq_true h1) (AllC.cons (decide_eq_true h2) (AllC.cons (decide_eq_true h3) (AllC.cons (decide_eq_true h4) (AllC.cons (inR64.2 h5) (AllC.via hL1 (AllC.cons (h7) (AllC.cons (h8) AllC.nil))))))))
theorem rdv_1 (a b : Int) (z7 : Int) (t8 : Int) (lr0 : List Int) (h1 : 0 ≤ (↑(List.length (nform a)) : Int)) (h2 : (↑(List.length (nform a)) : Int) ≤ (↑(List.length (nform a)) : Int)) (h3 : 8 * (↑(List.length (nform a)) : Int) ≤ 281474976710656) (h4 : (↑(List.length (nform a)) : Int) ≤ 9223372036854775807) (h5 : -9223372036854775808 ≤ (↑(List.length (nform a)) : Int) - 1 ∧ (↑(List.length (nform a)) : Int) - 1 ≤ 9223372036854775807) (hL1 : rdv_L2 (rdv_L2_0 a b (Int.toNat (↑(List.length (nform a)) : Int)) ((↑(List.length (nform a)) : Int) - 1) (zerosI (Int.toNat (↑(List.length (nform a)) : Int)))) (Ex.exit 0, (rdv_L2_E1 a b (Int.toNat (↑(List.length (nform a)) : Int)) ((↑(List.length (nform a)) : Int) - 1) (zerosI (Int.toNat (↑(List.length (nform a)) : Int))) z7 t8 lr0))) (h7 : Int.toNat (↑(List.length (nform a)) : Int) ≤ List.length lr0) (h8 : pTr (List.take (Int.toNat (↑(List.length (nform a)) : Int)) lr0)) : FC Tryz.prog 137 [.ni a, .ni b] (AV.tup [AV.sq (trm (List.take (Int.toNat (↑(List.length (nform a)) : Int)) lr0)), AV.ni z7]) := fc_fun okF6 (show funA (mkCfg Tryz.prog ctrF6 bw) 60 137 [.ni a, .ni b] [] [some (viaL Tryz.prog (lpOf Tryz.prog 137 0) [] [0, 1, 6, 7, 8] [0] (rdv_L2_0 a b (Int.toNat (↑(List.length (nform a)) : Int)) ((↑(List.length (nform a)) : Int) - 1) (zerosI (Int.toNat (↑(List.length (nform a)) : Int)))) (Ex.exit 0, (rdv_L2_E1 a b (Int.toNat (↑(List.length (nform a)) : Int)) ((↑(List.length (nform a)) : Int) - 1) (zerosI (Int.toNat (↑(List.length (nform a)) : Int))) z7 t8 lr0)))] = some (AV.tup [AV.sq (trm (List.take (Int.toNat (↑(List.length (nform a)) : Int)) lr0)), AV.ni z7], ((decide (0 ≤ (↑(List.length (nform a)) : Int)) = true) :: (decide ((↑(List.length (nform a)) : Int) ≤ (↑(List.length (nform a)) : Int)) = true) :: (decide (8 * (↑(List.length (nform a)) : Int) ≤ 281474976710656) = true) :: (decide ((↑(List.length (nform a)) : Int) ≤ 9223372036854775807) = true) :: (inR IntKind.i64 ((↑(List.length (nform a)) : Int) - 1) = true) :: viaC Tryz.prog (lpOf Tryz.prog 137 0) [0, 1, 6, 7, 8] [0] (rdv_L2_0 a b (Int.toNat (↑(List.length (nform a)) : Int)) ((↑(List.length (nform a)) : Int) - 1) (zerosI (Int.toNat (↑(List.length (nform a)) : Int)))) 1 (Ex.exit 0, (rdv_L2_E1 a b (Int.toNat (↑(List.length (nform a)) : Int)) ((↑(List.length (nform a)) : Int) - 1) (zerosI (Int.toNat (↑(List.length (nform a)) : Int))) z7 t8 lr0)) ((Int.toNat (↑(List.length (nform a)) : Int) ≤ List.length lr0) :: (pTr (List.take (Int.toNat (↑(List.length (nform a)) : Int)) lr0)) :: []))) by kernel_rfl) (AllC.cons (decide_eq_true h1) (AllC.cons (decide_eq_true h2) (AllC.cons (decide_eq_true h3) (AllC.cons (decide_eq_true h4) (AllC.cons (inR64.2 h5) (AllC.via hL1 (AllC.cons (h7) (AllC.cons (h8) AllC.nil))))))))
theorem rCmp_fc (x y : List Int) (h : pSu x y) : FC Tryz.prog 73 [.sq x, .sq y] (.lit (.int .i64 (vl x - vl y).sign)) := by
  have hz : Sz 400000 (vl x - vl y) := by
    rw [Int.sub_eq_add_neg]; exact Sz.add h.1.sz h.2.sz.neg (by decide) (by decide)
  have := rcm_0 x y h (pQ_nform hz (Nat.le_refl _))
  rwa [nform_vl] at this
theorem v1 (d : Int) : vl (List.take 1 [d]) = d := by simp [vl]
theorem bs_loop (a b R : Int) (n6 : Nat) (t8 : Int) (lr0 lr2 : List Int) (hb : 0 < b) (hR : 0 ≤ R) (sb : Sz 100000 b) (sR : Sz 200000 R) : ∀ (m : Nat) (lo hi : Int), (hi - lo).toNat ≤ m → 0 ≤ lo → lo ≤ hi → hi ≤ 99999999 → b * lo ≤ R → R < b * (hi + 1) →
    rdv_L1 (rdv_L1_0 a b n6 (nform R) t8 lr0 lr2 lo hi) (.exit 2, rdv_L1_E0 a b n6 (nform R) t8 lr0 lr2 (R / b) (R / b)) := by
  intro m
  induction m with
  | zero =>
    intro lo hi hm h0 h1 h2 h3 h4
    have e : hi = lo := by omega
    subst e
    have hq : R / b = hi := by
      have u1 : hi ≤ R / b := (Int.le_ediv_iff_mul_le hb).2 (by rw [Int.mul_comm]; exact h3)
      have u2 : R / b < hi + 1 := (Int.ediv_lt_iff_lt_mul hb).2 (by rw [Int.mul_comm]; exact h4)
      omega
    rw [hq]
    exact rdv_L1_0_2 a b n6 _ t8 lr0 lr2 hi hi (by omega)
  | succ m ih =>
    intro lo hi hm h0 h1 h2 h3 h4
    by_cases hlt : lo < hi
    · have hmid : Int.tdiv (lo + hi + 1) 2 = (lo + hi + 1) / 2 := Int.tdiv_eq_ediv_of_nonneg (by omega)
      have hm1 : lo < (lo + hi + 1) / 2 := by omega
      have hm2 : (lo + hi + 1) / 2 ≤ hi := by omega
      have sm : Sz 1 ((lo + hi + 1) / 2) := by unfold Sz; omega
      have hmu : pMu (nform b) (List.take 1 [(lo + hi + 1) / 2]) := ⟨pQ_nform sb (by decide), by simp, fun d hd => by simp at hd; subst hd; unfold pFloored; omega⟩
      have hprod : 0 ≤ b * ((lo + hi + 1) / 2) := Int.mul_nonneg (by omega) (by omega)
      have hle : pLesL (nform R) (nform (vl (nform b) * vl (List.take 1 [(lo + hi + 1) / 2]))) := by
        rw [nform_vl, v1]
        exact ⟨⟨by rw [nform_vl], by rw [nform_vl]⟩, ⟨by rw [nform_vl]; exact hR, by rw [nform_vl]; exact hprod⟩, by rw [nform_vl]; exact sR.mono (by decide), by rw [nform_vl]; exact (sb.mul sm).mono (by decide)⟩
      have hlt2 : (vl (nform R) < vl (nform (vl (nform b) * vl (List.take 1 [(lo + hi + 1) / 2])))) = (R < b * ((lo + hi + 1) / 2)) := by rw [nform_vl, nform_vl, nform_vl, v1]
      by_cases hc : R < b * ((lo + hi + 1) / 2)
      · refine rdv_L1_0_0 a b n6 _ t8 lr0 lr2 lo hi hlt (by omega) (by omega) ?_ ?_ ?_ ?_ ?_ ?_ ?_ <;> rw [hmid]
        · omega
        · simp
        · exact hmu
        · exact hle
        · rw [hlt2]; exact hc
        · omega
        · exact ih lo ((lo + hi + 1) / 2 - 1) (by omega) h0 (by omega) (by omega) h3 (by rw [Int.sub_add_cancel]; exact hc)
      · refine rdv_L1_0_1 a b n6 _ t8 lr0 lr2 lo hi hlt (by omega) (by omega) ?_ ?_ ?_ ?_ ?_ ?_ <;> rw [hmid]
        · omega
        · simp
        · exact hmu
        · exact hle
        · rw [hlt2]; exact hc
        · exact ih ((lo + hi + 1) / 2) hi (by omega) (by omega) hm2 h2 (by omega) h4
    · have e : hi = lo := by omega
      exact ih lo hi (by omega) h0 h1 h2 h3 h4
theorem trm_cons {d R : Int} (h0 : 0 ≤ d) (h1 : d < 100000000) (hR : 0 ≤ R) : trm (List.take (1 + (nform R).length) (List.take 1 [d] ++ nform R)) = nform (d + 100000000 * R) := by
  have hn : nform R = digs R.natAbs := by unfold nform; rw [if_neg (by omega)]
  have hd : Digs (d :: nform R) := fun e he => by
    rcases List.mem_cons.1 he with rfl | he
    · exact ⟨h0, h1⟩
    · rw [hn] at he; exact Digs_digs _ e he
  have ht : List.take (1 + (nform R).length) (List.take 1 [d] ++ nform R) = d :: nform R := by
    rw [List.take_of_length_le (by simp; omega)]; rfl
  rw [ht, nf_pos hd]
  simp only [vl, nform_vl]
theorem trm_one {d : Int} (h0 : 0 ≤ d) (h1 : d < 100000000) : trm (List.take 1 (List.take 1 [d] ++ [])) = nform d := by
  have := trm_cons (R := 0) h0 h1 (Int.le_refl _)
  have e : nform 0 = [] := rfl
  rw [e] at this
  simpa using this
theorem Digs_st {l : List Int} {k : Nat} {e : Int} (h : Digs l) (h0 : 0 ≤ e) (h1 : e < 100000000) : Digs (l.set k e) := by
  intro d hd
  rcases List.mem_or_eq_of_mem_set hd with h2 | h2
  · exact h d h2
  · subst h2; exact ⟨h0, h1⟩
theorem vl_drop_set {q : List Int} {k : Nat} {e : Int} (h : k < q.length) : vl ((q.set k e).drop k) = e + 100000000 * vl (q.drop (k + 1)) := by
  have h2 : k < (q.set k e).length := by simpa using h
  rw [List.drop_eq_getElem_cons h2]
  simp only [vl, List.getElem_set_self]
  rw [List.drop_set_of_lt (by omega)]
theorem sz_step {k : Nat} {b R : Int} (sb : Sz k b) (h0 : 0 ≤ R) (h1 : R < b * (99999999 + 1)) (hb : 0 < b) : Sz (k + 1) R := by
  unfold Sz at *
  rw [Nat.pow_succ]
  omega
/-- One digit of the quotient. -/
theorem dv_key {A b R d : Int} (hb : 0 < b) (hR : R = A % b) (h0 : 0 ≤ d) (h1 : d < 100000000) :
    let R' := d + 100000000 * R
    0 ≤ R' ∧ R' < b * (99999999 + 1) ∧ 0 ≤ R' / b ∧ R' / b ≤ 99999999 ∧ R' - b * (R' / b) = (d + 100000000 * A) % b ∧ R' / b + 100000000 * (A / b) = (d + 100000000 * A) / b := by
  intro R'
  have e1 := Int.emod_nonneg A (show b ≠ 0 by omega)
  have e2 := Int.emod_lt_of_pos A hb
  have e3 := Int.mul_ediv_add_emod A b
  have hR0 : 0 ≤ R' := by show 0 ≤ d + 100000000 * R; omega
  have hlt : R' < b * (99999999 + 1) := by show d + 100000000 * R < b * (99999999 + 1); omega
  have e4 := Int.mul_ediv_add_emod R' b
  have e5 := Int.emod_nonneg R' (show b ≠ 0 by omega)
  have e6 := Int.emod_lt_of_pos R' hb
  have hq0 : 0 ≤ R' / b := Int.ediv_nonneg hR0 (by omega)
  have hq1 : R' / b < 99999999 + 1 := (Int.ediv_lt_iff_lt_mul hb).2 (by rw [Int.mul_comm]; exact hlt)
  have hval : d + 100000000 * A = b * (R' / b + 100000000 * (A / b)) + R' % b := by
    have : A = b * (A / b) + R := by rw [hR]; exact e3.symm
    have h7 : R' = d + 100000000 * R := rfl
    grind
  refine ⟨hR0, hlt, hq0, by omega, ?_, ?_⟩
  · rw [hval, Int.add_comm, Int.add_mul_emod_self_left, Int.emod_eq_of_lt e5 e6]; omega
  · rw [hval, Int.add_comm (b * _), Int.add_mul_ediv_left _ _ (by omega), Int.ediv_eq_zero_of_lt e5 e6]; omega
theorem dv_loop (a b : Int) (ha : 0 ≤ a) (hb : 0 < b) (sa : dl a ≤ 100000) (sb : Sz 99999 b) (n0 : Nat) (t0 : Int) (l0 : List Int) (hn0 : n0 = dl a) :
    ∀ (k : Nat), k ≤ dl a → ∀ (R : Int) (q : List Int), R = vl ((nform a).drop k) % b → q.length = dl a → Digs q → vl (q.drop k) = vl ((nform a).drop k) / b →
      ∃ q', q'.length = dl a ∧ Digs q' ∧ vl q' = a / b ∧ rdv_L2 (rdv_L2_1 a b n0 t0 l0 R ((k : Int) - 1) q) (.exit 0, rdv_L2_E1 a b n0 t0 l0 (a % b) (-1) q')
  | 0, _, R, q, hR, hq, hd, hv => by
    rw [List.drop_zero, nform_vl] at hR
    rw [List.drop_zero, List.drop_zero, nform_vl] at hv
    refine ⟨q, hq, hd, hv, ?_⟩
    rw [hR]
    exact rdv_L2_1_1 a b n0 t0 l0 _ _ q (by omega)
  | k + 1, hk, R, q, hR, hq, hd, hv => by
    have la := nform_length a
    have hn : nform a = digs a.natAbs := by unfold nform; rw [if_neg (by omega)]
    have hlt : k < (nform a).length := by omega
    have hdk : 0 ≤ (nform a).getD k 0 ∧ (nform a).getD k 0 < 100000000 := by
      have : (nform a).getD k 0 ∈ nform a := by simp [List.getD, hlt]
      rw [hn] at this ⊢; exact Digs_digs _ _ this
    have hdr : (nform a).drop k = (nform a).getD k 0 :: (nform a).drop (k + 1) := by rw [List.drop_eq_getElem_cons hlt]; simp [List.getD, hlt]
    have hvk : vl ((nform a).drop k) = (nform a).getD k 0 + 100000000 * vl ((nform a).drop (k + 1)) := by rw [hdr]; rfl
    obtain ⟨r0, r1, r2, r3, r4, r5⟩ := dv_key hb hR hdk.1 hdk.2
    have hR0 : 0 ≤ R := by rw [hR]; exact Int.emod_nonneg _ (by omega)
    have hRb : R < b := by rw [hR]; exact Int.emod_lt_of_pos _ hb
    have sR : Sz 200000 ((nform a).getD k 0 + 100000000 * R) := (sz_step sb r0 r1 hb).mono (by decide)
    obtain ⟨q', g1, g2, g3, g4⟩ := dv_loop a b ha hb sa sb n0 t0 l0 hn0 k (by omega) ((nform a).getD k 0 + 100000000 * R - b * (((nform a).getD k 0 + 100000000 * R) / b)) (q.set k (((nform a).getD k 0 + 100000000 * R) / b))
      (by rw [hvk, r4]) (by simp [hq]) (Digs_st hd r2 (by omega)) (by rw [vl_drop_set (by omega), hv, hvk]; exact r5)
    refine ⟨q', g1, g2, g3, ?_⟩
    have hc : ((k + 1 : Nat) : Int) - 1 = (k : Int) := by omega
    have hk0 : Int.toNat (k : Int) = k := by omega
    have hk1 : 0 + k * 1 = k := by omega
    have lR : (nform R).length ≤ 99999 := by
      rw [nform_length]
      refine dl_le ?_
      unfold Sz at sb ⊢
      omega
    have tc := trm_cons hdk.1 hdk.2 hR0
    have bs := bs_loop a b _ n0 k q (List.take 1 [(nform a).getD k 0] ++ nform R) hb r0 (sb.mono (by decide)) sR 99999999 0 99999999 (by omega) (by omega) (by omega) (by omega) (by omega) r1
    have sq : Sz 1 (((nform a).getD k 0 + 100000000 * R) / b) := by unfold Sz; omega
    rw [hc]
    refine rdv_L2_1_0 a b n0 t0 l0 R k q (((nform a).getD k 0 + 100000000 * R) / b) (((nform a).getD k 0 + 100000000 * R) / b) (by omega) (by omega) (by omega) (by omega) (by omega) (by omega) ?_ ?_ ?_ ?_ (by omega) (by omega) ?_ ?_ ?_ (by omega) ?_ <;> (try simp only [hk0, hk1, tc])
    · simp
    · simp; omega
    · unfold pTr; simp; omega
    · exact bs
    · simp
    · exact ⟨pQ_nform sb (by decide), by simp, fun e he => by rw [List.mem_singleton.1 he]; unfold pFloored; omega⟩
    · rw [nform_vl, v1]; exact ⟨pQ_nform sR (by decide), pQ_nform (sb.mul sq) (by decide)⟩
    · rw [nform_vl, nform_vl, nform_vl, v1]; exact g4
def pDv (a b : Int) : Prop := (0 ≤ a ∧ 0 < b) ∧ Sz 90000 a ∧ Sz 90000 b
instance tDv {a b : Int} : Tst (pDv a b) := inferInstanceAs (Tst ((0 ≤ a ∧ 0 < b) ∧ Sz 90000 a ∧ Sz 90000 b))
theorem rdivide_fc (a b : Int) (h : pDv a b) : FC Tryz.prog 137 [.ni a, .ni b] (.tup [.ni (a / b), .ni (a % b)]) := by
  obtain ⟨⟨ha, hb⟩, sa, sb⟩ := h
  have la := nform_length a
  have da := dl_le sa
  have hN : Int.toNat ((nform a).length : Int) = dl a := by rw [la]; omega
  have hz : List.take (dl a) (zerosI (dl a)) = zerosI (dl a) := List.take_of_length_le (by simp)
  by_cases h0 : dl a = 0
  · have ha0 : a = 0 := dl_zero.1 h0
    have := rdv_0 a b (by omega) (by omega) (by omega) (by omega) (by omega) (rdv_L2_0_1 a b _ _ _ (by omega)) (by simp) (by unfold pTr; simp; omega)
    rw [hN, h0] at this
    refine this.res fun E v hv => hv.tup2 (fun u hu => ?_) (fun u hu => ?_)
    · rw [ha0, Int.zero_ediv]; exact hu.toNi rfl rfl
    · rw [ha0, Int.zero_emod]; exact hu.toNi rfl rfl
  · have hlt : dl a - 1 < (nform a).length := by omega
    have hn : nform a = digs a.natAbs := by unfold nform; rw [if_neg (by omega)]
    have hk0 : Int.toNat (((nform a).length : Int) - 1) = dl a - 1 := by omega
    have hdk : 0 ≤ (nform a).getD (dl a - 1) 0 ∧ (nform a).getD (dl a - 1) 0 < 100000000 := by
      have : (nform a).getD (dl a - 1) 0 ∈ nform a := by simp [List.getD, hlt]
      rw [hn] at this ⊢; exact Digs_digs _ _ this
    have hdr : (nform a).drop (dl a - 1) = [(nform a).getD (dl a - 1) 0] := by
      rw [List.drop_eq_getElem_cons hlt, List.drop_of_length_le (by omega)]; simp [List.getD, hlt]
    have hvk : vl ((nform a).drop (dl a - 1)) = (nform a).getD (dl a - 1) 0 + 100000000 * 0 := by rw [hdr]; simp [vl]
    obtain ⟨r0, r1, r2, r3, r4, r5⟩ := dv_key (A := 0) (R := 0) hb (by simp) hdk.1 hdk.2
    have hD : (nform a).getD (dl a - 1) 0 + 100000000 * 0 = (nform a).getD (dl a - 1) 0 := by omega
    have sD : Sz 200000 ((nform a).getD (dl a - 1) 0 + 100000000 * 0) := by refine Sz.mono (j := 1) ?_ (by decide); unfold Sz; omega
    have sq : Sz 1 (((nform a).getD (dl a - 1) 0 + 100000000 * 0) / b) := by unfold Sz; omega
    have zl : (zerosI (dl a)).length = dl a := by simp
    have zd : Digs (zerosI (dl a)) := fun d hd => by have := List.eq_of_mem_replicate hd; omega
    obtain ⟨q', g1, g2, g3, g4⟩ := dv_loop a b ha hb (by omega) (sb.mono (by decide)) (dl a) ((nform a).length - 1 : Int) (zerosI (dl a)) rfl (dl a - 1) (by omega)
      ((nform a).getD (dl a - 1) 0 + 100000000 * 0 - b * (((nform a).getD (dl a - 1) 0 + 100000000 * 0) / b)) ((zerosI (dl a)).set (dl a - 1) (((nform a).getD (dl a - 1) 0 + 100000000 * 0) / b))
      (by rw [hvk]; exact r4) (by simp) (Digs_st zd r2 (by omega)) (by
        rw [vl_drop_set (by omega), hvk, List.drop_of_length_le (by omega)]
        simp only [vl]
        rw [← r5, Int.zero_ediv]; simp)
    have tc := trm_one hdk.1 hdk.2
    have bs := bs_loop a b _ (dl a) ((nform a).length - 1 : Int) (zerosI (dl a)) [(nform a).getD (dl a - 1) 0] hb r0 (sb.mono (by decide)) sD 99999999 0 99999999 (by omega) (by omega) (by omega) (by omega) (by omega) r1
    have hL : rdv_L2 (rdv_L2_0 a b (dl a) ((nform a).length - 1 : Int) (zerosI (dl a))) (.exit 0, rdv_L2_E1 a b (dl a) ((nform a).length - 1 : Int) (zerosI (dl a)) (a % b) (-1) q') := by
      have hc : ((dl a - 1 : Nat) : Int) - 1 = ((nform a).length : Int) - 1 - 1 := by omega
      have r2' := r2
      have r3' := r3
      rw [hD] at r2' r3' g4 bs sD sq
      refine rdv_L2_0_0 a b (dl a) _ (zerosI (dl a)) ((nform a).getD (dl a - 1) 0 / b) ((nform a).getD (dl a - 1) 0 / b) (by omega) (by omega) (by omega) (by omega) ?_ ?_ ?_ ?_ (by omega) (by omega) ?_ ?_ ?_ (by omega) ?_ <;> (try simp only [hk0, tc])
      · simp
      · simp
      · unfold pTr; simp
      · exact bs
      · simp
      · exact ⟨pQ_nform sb (by decide), by simp, fun e he => by rw [List.mem_singleton.1 he]; unfold pFloored; omega⟩
      · rw [nform_vl, v1]; exact ⟨pQ_nform sD (by decide), pQ_nform (sb.mul sq) (by decide)⟩
      · rw [nform_vl, nform_vl, nform_vl, v1, show 0 + (dl a - 1) * 1 = dl a - 1 by omega, ← hc]; exact g4
    rw [← hN] at hL
    have ht : List.take (dl a) q' = q' := by rw [← g1]; exact List.take_length
    have := rdv_1 a b (a % b) (-1) q' (by omega) (by omega) (by omega) (by omega) (by omega) hL (by omega) (by rw [hN, ht]; unfold pTr; omega)
    rw [hN, ht, nf_pos g2, g3] at this
    exact this.res fun E v hv => hv.tup2 (fun u hu => hu.toNi rfl rfl) (fun _ hu => hu)
def ctrF7 : Ctr := (73, cLL pSu (fun x y => .lit (.int .i64 (vl x - vl y).sign))) :: (137, n2 pDv (fun a b => .tup [.ni (a / b), .ni (a % b)])) :: ctrF6
theorem ctrF7_all : ∀ p ∈ ctrF7, CtrOK Tryz.prog p.1 p.2 := CAll.cons (cLL_ok rCmp_fc) <| CAll.cons (n2_ok rdivide_fc) ctrF6_all
theorem okF7 : (mkCfg Tryz.prog ctrF7 bw).OK := cfg_ok ctrF7_all

end Go.Proofs.YtcpgkgldibobeaaGreatDoor
end

section
open Go Go.Ev Go.RowKit
namespace Go.Proofs.YtcpgkgldibobeaaGreatDoor
open Go.Proofs
set_option maxRecDepth 100000
set_option maxHeartbeats 1000000
set_option linter.unusedVariables false
set_option linter.unusedSimpArgs false


theorem rdm_0 (x y : List Int) (h1 : pNm x) (h2 : pNm y) (h3 : (↑(List.length (nform (vl y))) : Int) = 0) : FC Tryz.prog 75 [.sq x, .sq y] (AV.tup [aN, aN, aI 12]) := fc_fun okF7 (show funA (mkCfg Tryz.prog ctrF7 bw) 60 75 [.sq x, .sq y] [true] [] = some (AV.tup [aN, aN, aI 12], ((pNm x) :: (pNm y) :: (((↑(List.length (nform (vl y))) : Int) == 0) = true) :: [])) by kernel_rfl) (AllC.cons (h1) (AllC.cons (h2) (AllC.cons (beq_iff_eq.2 h3) AllC.nil)))
theorem rdm_1 (x y : List Int) (h1 : pNm x) (h2 : pNm y) (h3 : (↑(List.length (nform (vl y))) : Int) ≠ 0) (h4 : pNg (vl x)) (h5 : pNg (vl y)) (h6 : pDv (↑(Int.natAbs (vl x)) : Int) (↑(Int.natAbs (vl y)) : Int)) (h7 : vl x < 0) (h8 : pX (nform ((↑(Int.natAbs (vl x)) : Int) / (↑(Int.natAbs (vl y)) : Int)))) (h9 : pX (nform ((↑(Int.natAbs (vl x)) : Int) % (↑(Int.natAbs (vl y)) : Int)))) (h10 : (↑(List.length (nform (-vl (nform ((↑(Int.natAbs (vl x)) : Int) % (↑(Int.natAbs (vl y)) : Int)))))) : Int) > 0) (h11 : 1 ≤ 1) (h12 : pSu (nform (-vl (nform ((↑(Int.natAbs (vl x)) : Int) / (↑(Int.natAbs (vl y)) : Int))))) (List.take 1 [1])) (h13 : pAd (nform (-vl (nform ((↑(Int.natAbs (vl x)) : Int) % (↑(Int.natAbs (vl y)) : Int))))) (nform (↑(Int.natAbs (vl y)) : Int))) (h14 : vl y < 0) (h15 : pX (nform (vl (nform (-vl (nform ((↑(Int.natAbs (vl x)) : Int) / (↑(Int.natAbs (vl y)) : Int))))) - 1))) : FC Tryz.prog 75 [.sq x, .sq y] (AV.tup [AV.ni (-vl (nform (vl (nform (-vl (nform ((↑(Int.natAbs (vl x)) : Int) / (↑(Int.natAbs (vl y)) : Int))))) - 1))), AV.ni (vl (nform (-vl (nform ((↑(Int.natAbs (vl x)) : Int) % (↑(Int.natAbs (vl y)) : Int))))) + vl (nform (↑(Int.natAbs (vl y)) : Int))), aI 0]) := fc_fun okF7 (show funA (mkCfg Tryz.prog ctrF7 bw) 60 75 [.sq x, .sq y] [false, true, true, true] [] = some (AV.tup [AV.ni (-vl (nform (vl (nform (-vl (nform ((↑(Int.natAbs (vl x)) : Int) / (↑(Int.natAbs (vl y)) : Int))))) - 1))), AV.ni (vl (nform (-vl (nform ((↑(Int.natAbs (vl x)) : Int) % (↑(Int.natAbs (vl y)) : Int))))) + vl (nform (↑(Int.natAbs (vl y)) : Int))), aI 0], ((pNm x) :: (pNm y) :: (((↑(List.length (nform (vl y))) : Int) == 0) = false) :: (pNg (vl x)) :: (pNg (vl y)) :: (pDv (↑(Int.natAbs (vl x)) : Int) (↑(Int.natAbs (vl y)) : Int)) :: (pNg (vl x)) :: (decide (vl x < 0) = true) :: (pX (nform ((↑(Int.natAbs (vl x)) : Int) / (↑(Int.natAbs (vl y)) : Int)))) :: (pX (nform ((↑(Int.natAbs (vl x)) : Int) % (↑(Int.natAbs (vl y)) : Int)))) :: (decide ((↑(List.length (nform (-vl (nform ((↑(Int.natAbs (vl x)) : Int) % (↑(Int.natAbs (vl y)) : Int)))))) : Int) > 0) = true) :: (1 ≤ 1) :: (pSu (nform (-vl (nform ((↑(Int.natAbs (vl x)) : Int) / (↑(Int.natAbs (vl y)) : Int))))) (List.take 1 [1])) :: (pNg (vl y)) :: (pAd (nform (-vl (nform ((↑(Int.natAbs (vl x)) : Int) % (↑(Int.natAbs (vl y)) : Int))))) (nform (↑(Int.natAbs (vl y)) : Int))) :: (pNg (vl y)) :: (decide (vl y < 0) = true) :: (pX (nform (vl (nform (-vl (nform ((↑(Int.natAbs (vl x)) : Int) / (↑(Int.natAbs (vl y)) : Int))))) - 1))) :: [])) by kernel_rfl) (AllC.cons (h1) (AllC.cons (h2) (AllC.cons (beq_false_of_ne h3) (AllC.cons (h4) (AllC.cons (h5) (AllC.cons (h6) (AllC.cons (h4) (AllC.cons (decide_eq_true h7) (AllC.cons (h8) (AllC.cons (h9) (AllC.cons (decide_eq_true h10) (AllC.cons (h11) (AllC.cons (h12) (AllC.cons (h5) (AllC.cons (h13) (AllC.cons (h5) (AllC.cons (decide_eq_true h14) (AllC.cons (h15) AllC.nil))))))))))))))))))
theorem rdm_2 (x y : List Int) (h1 : pNm x) (h2 : pNm y) (h3 : (↑(List.length (nform (vl y))) : Int) ≠ 0) (h4 : pNg (vl x)) (h5 : pNg (vl y)) (h6 : pDv (↑(Int.natAbs (vl x)) : Int) (↑(Int.natAbs (vl y)) : Int)) (h7 : vl x < 0) (h8 : pX (nform ((↑(Int.natAbs (vl x)) : Int) / (↑(Int.natAbs (vl y)) : Int)))) (h9 : pX (nform ((↑(Int.natAbs (vl x)) : Int) % (↑(Int.natAbs (vl y)) : Int)))) (h10 : (↑(List.length (nform (-vl (nform ((↑(Int.natAbs (vl x)) : Int) % (↑(Int.natAbs (vl y)) : Int)))))) : Int) > 0) (h11 : 1 ≤ 1) (h12 : pSu (nform (-vl (nform ((↑(Int.natAbs (vl x)) : Int) / (↑(Int.natAbs (vl y)) : Int))))) (List.take 1 [1])) (h13 : pAd (nform (-vl (nform ((↑(Int.natAbs (vl x)) : Int) % (↑(Int.natAbs (vl y)) : Int))))) (nform (↑(Int.natAbs (vl y)) : Int))) (h14 : ¬ (vl y < 0)) : FC Tryz.prog 75 [.sq x, .sq y] (AV.tup [AV.ni (vl (nform (-vl (nform ((↑(Int.natAbs (vl x)) : Int) / (↑(Int.natAbs (vl y)) : Int))))) - 1), AV.ni (vl (nform (-vl (nform ((↑(Int.natAbs (vl x)) : Int) % (↑(Int.natAbs (vl y)) : Int))))) + vl (nform (↑(Int.natAbs (vl y)) : Int))), aI 0]) := fc_fun okF7 (show funA (mkCfg Tryz.prog ctrF7 bw) 60 75 [.sq x, .sq y] [false, true, true, false] [] = some (AV.tup [AV.ni (vl (nform (-vl (nform ((↑(Int.natAbs (vl x)) : Int) / (↑(Int.natAbs (vl y)) : Int))))) - 1), AV.ni (vl (nform (-vl (nform ((↑(Int.natAbs (vl x)) : Int) % (↑(Int.natAbs (vl y)) : Int))))) + vl (nform (↑(Int.natAbs (vl y)) : Int))), aI 0], ((pNm x) :: (pNm y) :: (((↑(List.length (nform (vl y))) : Int) == 0) = false) :: (pNg (vl x)) :: (pNg (vl y)) :: (pDv (↑(Int.natAbs (vl x)) : Int) (↑(Int.natAbs (vl y)) : Int)) :: (pNg (vl x)) :: (decide (vl x < 0) = true) :: (pX (nform ((↑(Int.natAbs (vl x)) : Int) / (↑(Int.natAbs (vl y)) : Int)))) :: (pX (nform ((↑(Int.natAbs (vl x)) : Int) % (↑(Int.natAbs (vl y)) : Int)))) :: (decide ((↑(List.length (nform (-vl (nform ((↑(Int.natAbs (vl x)) : Int) % (↑(Int.natAbs (vl y)) : Int)))))) : Int) > 0) = true) :: (1 ≤ 1) :: (pSu (nform (-vl (nform ((↑(Int.natAbs (vl x)) : Int) / (↑(Int.natAbs (vl y)) : Int))))) (List.take 1 [1])) :: (pNg (vl y)) :: (pAd (nform (-vl (nform ((↑(Int.natAbs (vl x)) : Int) % (↑(Int.natAbs (vl y)) : Int))))) (nform (↑(Int.natAbs (vl y)) : Int))) :: (pNg (vl y)) :: (decide (vl y < 0) = false) :: [])) by kernel_rfl) (AllC.cons (h1) (AllC.cons (h2) (AllC.cons (beq_false_of_ne h3) (AllC.cons (h4) (AllC.cons (h5) (AllC.cons (h6) (AllC.cons (h4) (AllC.cons (decide_eq_true h7) (AllC.cons (h8) (AllC.cons (h9) (AllC.cons (decide_eq_true h10) (AllC.cons (h11) (AllC.cons (h12) (AllC.cons (h5) (AllC.cons (h13) (AllC.cons (h5) (AllC.cons (decide_eq_false h14) AllC.nil)))))))))))))))))
theorem rdm_3 (x y : List Int) (h1 : pNm x) (h2 : pNm y) (h3 : (↑(List.length (nform (vl y))) : Int) ≠ 0) (h4 : pNg (vl x)) (h5 : pNg (vl y)) (h6 : pDv (↑(Int.natAbs (vl x)) : Int) (↑(Int.natAbs (vl y)) : Int)) (h7 : vl x < 0) (h8 : pX (nform ((↑(Int.natAbs (vl x)) : Int) / (↑(Int.natAbs (vl y)) : Int)))) (h9 : pX (nform ((↑(Int.natAbs (vl x)) : Int) % (↑(Int.natAbs (vl y)) : Int)))) (h10 : ¬ ((↑(List.length (nform (-vl (nform ((↑(Int.natAbs (vl x)) : Int) % (↑(Int.natAbs (vl y)) : Int)))))) : Int) > 0)) (h11 : vl y < 0) (h12 : pX (nform (-vl (nform ((↑(Int.natAbs (vl x)) : Int) / (↑(Int.natAbs (vl y)) : Int)))))) : FC Tryz.prog 75 [.sq x, .sq y] (AV.tup [AV.ni (-vl (nform (-vl (nform ((↑(Int.natAbs (vl x)) : Int) / (↑(Int.natAbs (vl y)) : Int)))))), AV.ni (-vl (nform ((↑(Int.natAbs (vl x)) : Int) % (↑(Int.natAbs (vl y)) : Int)))), aI 0]) := fc_fun okF7 (show funA (mkCfg Tryz.prog ctrF7 bw) 60 75 [.sq x, .sq y] [false, true, false, true] [] = some (AV.tup [AV.ni (-vl (nform (-vl (nform ((↑(Int.natAbs (vl x)) : Int) / (↑(Int.natAbs (vl y)) : Int)))))), AV.ni (-vl (nform ((↑(Int.natAbs (vl x)) : Int) % (↑(Int.natAbs (vl y)) : Int)))), aI 0], ((pNm x) :: (pNm y) :: (((↑(List.length (nform (vl y))) : Int) == 0) = false) :: (pNg (vl x)) :: (pNg (vl y)) :: (pDv (↑(Int.natAbs (vl x)) : Int) (↑(Int.natAbs (vl y)) : Int)) :: (pNg (vl x)) :: (decide (vl x < 0) = true) :: (pX (nform ((↑(Int.natAbs (vl x)) : Int) / (↑(Int.natAbs (vl y)) : Int)))) :: (pX (nform ((↑(Int.natAbs (vl x)) : Int) % (↑(Int.natAbs (vl y)) : Int)))) :: (decide ((↑(List.length (nform (-vl (nform ((↑(Int.natAbs (vl x)) : Int) % (↑(Int.natAbs (vl y)) : Int)))))) : Int) > 0) = false) :: (pNg (vl y)) :: (decide (vl y < 0) = true) :: (pX (nform (-vl (nform ((↑(Int.natAbs (vl x)) : Int) / (↑(Int.natAbs (vl y)) : Int)))))) :: [])) by kernel_rfl) (AllC.cons (h1) (AllC.cons (h2) (AllC.cons (beq_false_of_ne h3) (AllC.cons (h4) (AllC.cons (h5) (AllC.cons (h6) (AllC.cons (h4) (AllC.cons (decide_eq_true h7) (AllC.cons (h8) (AllC.cons (h9) (AllC.cons (decide_eq_false h10) (AllC.cons (h5) (AllC.cons (decide_eq_true h11) (AllC.cons (h12) AllC.nil))))))))))))))
theorem rdm_4 (x y : List Int) (h1 : pNm x) (h2 : pNm y) (h3 : (↑(List.length (nform (vl y))) : Int) ≠ 0) (h4 : pNg (vl x)) (h5 : pNg (vl y)) (h6 : pDv (↑(Int.natAbs (vl x)) : Int) (↑(Int.natAbs (vl y)) : Int)) (h7 : vl x < 0) (h8 : pX (nform ((↑(Int.natAbs (vl x)) : Int) / (↑(Int.natAbs (vl y)) : Int)))) (h9 : pX (nform ((↑(Int.natAbs (vl x)) : Int) % (↑(Int.natAbs (vl y)) : Int)))) (h10 : ¬ ((↑(List.length (nform (-vl (nform ((↑(Int.natAbs (vl x)) : Int) % (↑(Int.natAbs (vl y)) : Int)))))) : Int) > 0)) (h11 : ¬ (vl y < 0)) : FC Tryz.prog 75 [.sq x, .sq y] (AV.tup [AV.ni (-vl (nform ((↑(Int.natAbs (vl x)) : Int) / (↑(Int.natAbs (vl y)) : Int)))), AV.ni (-vl (nform ((↑(Int.natAbs (vl x)) : Int) % (↑(Int.natAbs (vl y)) : Int)))), aI 0]) := fc_fun okF7 (show funA (mkCfg Tryz.prog ctrF7 bw) 60 75 [.sq x, .sq y] [false, true, false, false] [] = some (AV.tup [AV.ni (-vl (nform ((↑(Int.natAbs (vl x)) : Int) / (↑(Int.natAbs (vl y)) : Int)))), AV.ni (-vl (nform ((↑(Int.natAbs (vl x)) : Int) % (↑(Int.natAbs (vl y)) : Int)))), aI 0], ((pNm x) :: (pNm y) :: (((↑(List.length (nform (vl y))) : Int) == 0) = false) :: (pNg (vl x)) :: (pNg (vl y)) :: (pDv (↑(Int.natAbs (vl x)) : Int) (↑(Int.natAbs (vl y)) : Int)) :: (pNg (vl x)) :: (decide (vl x < 0) = true) :: (pX (nform ((↑(Int.natAbs (vl x)) : Int) / (↑(Int.natAbs (vl y)) : Int)))) :: (pX (nform ((↑(Int.natAbs (vl x)) : Int) % (↑(Int.natAbs (vl y)) : Int)))) :: (decide ((↑(List.length (nform (-vl (nform ((↑(Int.natAbs (vl x)) : Int) % (↑(Int.natAbs (vl y)) : Int)))))) : Int) > 0) = false) :: (pNg (vl y)) :: (decide (vl y < 0) = false) :: [])) by kernel_rfl) (AllC.cons (h1) (AllC.cons (h2) (AllC.cons (beq_false_of_ne h3) (AllC.cons (h4) (AllC.cons (h5) (AllC.cons (h6) (AllC.cons (h4) (AllC.cons (decide_eq_true h7) (AllC.cons (h8) (AllC.cons (h9) (AllC.cons (decide_eq_false h10) (AllC.cons (h5) (AllC.cons (decide_eq_false h11) AllC.nil)))))))))))))
theorem rdm_5 (x y : List Int) (h1 : pNm x) (h2 : pNm y) (h3 : (↑(List.length (nform (vl y))) : Int) ≠ 0) (h4 : pNg (vl x)) (h5 : pNg (vl y)) (h6 : pDv (↑(Int.natAbs (vl x)) : Int) (↑(Int.natAbs (vl y)) : Int)) (h7 : ¬ (vl x < 0)) (h8 : vl y < 0) (h9 : pX (nform ((↑(Int.natAbs (vl x)) : Int) / (↑(Int.natAbs (vl y)) : Int)))) : FC Tryz.prog 75 [.sq x, .sq y] (AV.tup [AV.ni (-vl (nform ((↑(Int.natAbs (vl x)) : Int) / (↑(Int.natAbs (vl y)) : Int)))), AV.ni ((↑(Int.natAbs (vl x)) : Int) % (↑(Int.natAbs (vl y)) : Int)), aI 0]) := fc_fun okF7 (show funA (mkCfg Tryz.prog ctrF7 bw) 60 75 [.sq x, .sq y] [false, false, true] [] = some (AV.tup [AV.ni (-vl (nform ((↑(Int.natAbs (vl x)) : Int) / (↑(Int.natAbs (vl y)) : Int)))), AV.ni ((↑(Int.natAbs (vl x)) : Int) % (↑(Int.natAbs (vl y)) : Int)), aI 0], ((pNm x) :: (pNm y) :: (((↑(List.length (nform (vl y))) : Int) == 0) = false) :: (pNg (vl x)) :: (pNg (vl y)) :: (pDv (↑(Int.natAbs (vl x)) : Int) (↑(Int.natAbs (vl y)) : Int)) :: (pNg (vl x)) :: (decide (vl x < 0) = false) :: (pNg (vl y)) :: (decide (vl y < 0) = true) :: (pX (nform ((↑(Int.natAbs (vl x)) : Int) / (↑(Int.natAbs (vl y)) : Int)))) :: [])) by kernel_rfl) (AllC.cons (h1) (AllC.cons (h2) (AllC.cons (beq_false_of_ne h3) (AllC.cons (h4) (AllC.cons (h5) (AllC.cons (h6) (AllC.cons (h4) (AllC.cons (decide_eq_false h7) (AllC.cons (h5) (AllC.cons (decide_eq_true h8) (AllC.cons (h9) AllC.nil)))))))))))
theorem rdm_6 (x y : List Int) (h1 : pNm x) (h2 : pNm y) (h3 : (↑(List.length (nform (vl y))) : Int) ≠ 0) (h4 : pNg (vl x)) (h5 : pNg (vl y)) (h6 : pDv (↑(Int.natAbs (vl x)) : Int) (↑(Int.natAbs (vl y)) : Int)) (h7 : ¬ (vl x < 0)) (h8 : ¬ (vl y < 0)) : FC Tryz.prog 75 [.sq x, .sq y] (AV.tup [AV.ni ((↑(Int.natAbs (vl x)) : Int) / (↑(Int.natAbs (vl y)) : Int)), AV.ni ((↑(Int.natAbs (vl x)) : Int) % (↑(Int.natAbs (vl y)) : Int)), aI 0]) := fc_fun okF7 (show funA (mkCfg Tryz.prog ctrF7 bw) 60 75 [.sq x, .sq y] [false, false, false] [] = some (AV.tup [AV.ni ((↑(Int.natAbs (vl x)) : Int) / (↑(Int.natAbs (vl y)) : Int)), AV.ni ((↑(Int.natAbs (vl x)) : Int) % (↑(Int.natAbs (vl y)) : Int)), aI 0], ((pNm x) :: (pNm y) :: (((↑(List.length (nform (vl y))) : Int) == 0) = false) :: (pNg (vl x)) :: (pNg (vl y)) :: (pDv (↑(Int.natAbs (vl x)) : Int) (↑(Int.natAbs (vl y)) : Int)) :: (pNg (vl x)) :: (decide (vl x < 0) = false) :: (pNg (vl y)) :: (decide (vl y < 0) = false) :: [])) by kernel_rfl) (AllC.cons (h1) (AllC.cons (h2) (AllC.cons (beq_false_of_ne h3) (AllC.cons (h4) (AllC.cons (h5) (AllC.cons (h6) (AllC.cons (h4) (AllC.cons (decide_eq_false h7) (AllC.cons (h5) (AllC.cons (decide_eq_false h8) AllC.nil))))))))))
abbrev rgc_L0 (s : St) (r : Ex × St) : Prop := Loops 0 Tryz.prog (lpOf Tryz.prog 74 0) s r
abbrev rgc_L0_0 (z5 : Int) (z6 : Int) : St := ⟨sp 27 [(5, AV.ni z5), (6, AV.ni z6)], [], []⟩
abbrev rgc_L0_E0 (z5 : Int) (z6 : Int) : St := ⟨sp 27 [(5, AV.ni z5), (6, AV.ni z6)], [], []⟩
theorem rgc_L0_0_0 (z5 : Int) (z6 : Int) (h1 : (↑(List.length (nform z6)) : Int) > 0) (h2 : pDv z5 z6) {r : Ex × St} (k : rgc_L0 (rgc_L0_0 z6 (z5 % z6)) r) : rgc_L0 (rgc_L0_0 z5 z6) r := Loops.go (LS.of okF7 (show rndA (mkCfg Tryz.prog ctrF7 bw) 60 (lpOf Tryz.prog 74 0) 0 [] [5, 6] [] (rgc_L0_0 z5 z6) [true] [] = some (Ex.normal, (rgc_L0_0 z6 (z5 % z6)), ((decide ((↑(List.length (nform z6)) : Int) > 0) = true) :: (pDv z5 z6) :: [])) by kernel_rfl) (AllC.cons (decide_eq_true h1) (AllC.cons (h2) AllC.nil))) k
theorem rgc_L0_0_1 (z5 : Int) (z6 : Int) (h1 : ¬ ((↑(List.length (nform z6)) : Int) > 0)) : rgc_L0 (rgc_L0_0 z5 z6) (Ex.exit 0, (rgc_L0_E0 z5 z6)) := Loops.fin (LS.of okF7 (show rndA (mkCfg Tryz.prog ctrF7 bw) 60 (lpOf Tryz.prog 74 0) 0 [] [5, 6] [] (rgc_L0_0 z5 z6) [false] [] = some (Ex.exit 0, (rgc_L0_E0 z5 z6), ((decide ((↑(List.length (nform z6)) : Int) > 0) = false) :: [])) by kernel_rfl) (AllC.cons (decide_eq_false h1) AllC.nil)) (fun h => nomatch h)
theorem rgc_0 (x y : List Int) (z5 : Int) (z6 : Int) (h1 : pNm x) (h2 : pNg (vl x)) (h3 : pNm y) (h4 : pNg (vl y)) (hL1 : rgc_L0 (rgc_L0_0 ((↑(Int.natAbs (vl x)) : Int)) ((↑(Int.natAbs (vl y)) : Int))) (Ex.exit 0, (rgc_L0_E0 z5 z6))) : FC Tryz.prog 74 [.sq x, .sq y] (AV.ni z5) := fc_fun okF7 (show funA (mkCfg Tryz.prog ctrF7 bw) 60 74 [.sq x, .sq y] [] [some (viaL Tryz.prog (lpOf Tryz.prog 74 0) [] [5, 6] [] (rgc_L0_0 ((↑(Int.natAbs (vl x)) : Int)) ((↑(Int.natAbs (vl y)) : Int))) (Ex.exit 0, (rgc_L0_E0 z5 z6)))] = some (AV.ni z5, ((pNm x) :: (pNg (vl x)) :: (pNm y) :: (pNg (vl y)) :: viaC Tryz.prog (lpOf Tryz.prog 74 0) [5, 6] [] (rgc_L0_0 ((↑(Int.natAbs (vl x)) : Int)) ((↑(Int.natAbs (vl y)) : Int))) 0 (Ex.exit 0, (rgc_L0_E0 z5 z6)) ([]))) by kernel_rfl) (AllC.cons (h1) (AllC.cons (h2) (AllC.cons (h3) (AllC.cons (h4) (AllC.via hL1 AllC.nil)))))
theorem rsm_0 (x : List Int) (h1 : 2 ≤ 2) (h2 : pNm (List.take 2 [-9223372036854775807, 0])) (h3 : 1 ≤ 1) (h4 : pNm (List.take 1 [9223372036854775807])) (h5 : pSu (nform (-9223372036854775807)) (List.take 1 [1])) (h6 : pSu x (nform (-9223372036854775808))) (h7 : Int.sign (vl x - -9223372036854775808) < 0) : FC Tryz.prog 67 [.sq x] (AV.tup [aI 0, AV.ff]) := fc_fun okF7 (show funA (mkCfg Tryz.prog ctrF7 bw) 60 67 [.sq x] [true] [] = some (AV.tup [aI 0, AV.ff], ((2 ≤ 2) :: (pNm (List.take 2 [-9223372036854775807, 0])) :: (1 ≤ 1) :: (pNm (List.take 1 [9223372036854775807])) :: (1 ≤ 1) :: (pSu (nform (-9223372036854775807)) (List.take 1 [1])) :: (pSu x (nform (-9223372036854775808))) :: (decide (Int.sign (vl x - -9223372036854775808) < 0) = true) :: [])) by kernel_rfl) (AllC.cons (h1) (AllC.cons (h2) (AllC.cons (h3) (AllC.cons (h4) (AllC.cons (h3) (AllC.cons (h5) (AllC.cons (h6) (AllC.cons (decide_eq_true h7) AllC.nil))))))))
theorem rsm_1 (x : List Int) (h1 : 2 ≤ 2) (h2 : pNm (List.take 2 [-9223372036854775807, 0])) (h3 : 1 ≤ 1) (h4 : pNm (List.take 1 [9223372036854775807])) (h5 : pSu (nform (-9223372036854775807)) (List.take 1 [1])) (h6 : pSu x (nform (-9223372036854775808))) (h7 : ¬ (Int.sign (vl x - -9223372036854775808) < 0)) (h8 : pSu x (nform 9223372036854775807)) (h9 : Int.sign (vl x - 9223372036854775807) > 0) : FC Tryz.prog 67 [.sq x] (AV.tup [aI 0, AV.ff]) := fc_fun okF7 (show funA (mkCfg Tryz.prog ctrF7 bw) 60 67 [.sq x] [false, true] [] = some (AV.tup [aI 0, AV.ff], ((2 ≤ 2) :: (pNm (List.take 2 [-9223372036854775807, 0])) :: (1 ≤ 1) :: (pNm (List.take 1 [9223372036854775807])) :: (1 ≤ 1) :: (pSu (nform (-9223372036854775807)) (List.take 1 [1])) :: (pSu x (nform (-9223372036854775808))) :: (decide (Int.sign (vl x - -9223372036854775808) < 0) = false) :: (pSu x (nform 9223372036854775807)) :: (decide (Int.sign (vl x - 9223372036854775807) > 0) = true) :: [])) by kernel_rfl) (AllC.cons (h1) (AllC.cons (h2) (AllC.cons (h3) (AllC.cons (h4) (AllC.cons (h3) (AllC.cons (h5) (AllC.cons (h6) (AllC.cons (decide_eq_false h7) (AllC.cons (h8) (AllC.cons (decide_eq_true h9) AllC.nil))))))))))
abbrev rsm_L0 (s : St) (r : Ex × St) : Prop := Loops 3 Tryz.prog (lpOf Tryz.prog 67 0) s r
abbrev rsm_L0_0 (z0 : Int) (t6 : Int) (t7 : Int) : St := ⟨sp 42 [(0, AV.ni z0), (6, aI t6), (7, aI t7)], [Row.ints [-9223372036854775807, 0] false, Row.ints [9223372036854775807] false, Row.ints [1] false], []⟩
abbrev rsm_L0_E0 (z0 : Int) (t6 : Int) (t7 : Int) : St := ⟨sp 42 [(0, AV.ni z0), (6, aI t6), (7, aI t7)], [Row.ints [-9223372036854775807, 0] false, Row.ints [9223372036854775807] false, Row.ints [1] false], []⟩
theorem rsm_L0_0_0 (z0 : Int) (t6 : Int) (t7 : Int) (h1 : t7 ≥ 0) (h2 : -9223372036854775808 ≤ t6 * 100000000 ∧ t6 * 100000000 ≤ 9223372036854775807) (h3 : 0 ≤ t7) (h4 : t7 < (↑(List.length (nform z0)) : Int)) (h5 : Int.toNat t7 < List.length (nform z0)) (h6 : -9223372036854775808 ≤ t6 * 100000000 + List.getD (nform z0) (Int.toNat t7) 0 ∧ t6 * 100000000 + List.getD (nform z0) (Int.toNat t7) 0 ≤ 9223372036854775807) (h7 : -9223372036854775808 ≤ t7 - 1 ∧ t7 - 1 ≤ 9223372036854775807) {r : Ex × St} (k : rsm_L0 (rsm_L0_0 z0 (t6 * 100000000 + List.getD (nform z0) (Int.toNat t7) 0) (t7 - 1)) r) : rsm_L0 (rsm_L0_0 z0 t6 t7) r := Loops.go (LS.of okF7 (show rndA (mkCfg Tryz.prog ctrF7 bw) 60 (lpOf Tryz.prog 67 0) 3 [] [0, 6, 7] [] (rsm_L0_0 z0 t6 t7) [true] [] = some (Ex.normal, (rsm_L0_0 z0 (t6 * 100000000 + List.getD (nform z0) (Int.toNat t7) 0) (t7 - 1)), ((decide (t7 ≥ 0) = true) :: (inR IntKind.i64 (t6 * 100000000) = true) :: (decide (0 ≤ t7) = true) :: (decide (t7 < (↑(List.length (nform z0)) : Int)) = true) :: (decide (Int.toNat t7 < List.length (nform z0)) = true) :: (inR IntKind.i64 (t6 * 100000000 + List.getD (nform z0) (Int.toNat t7) 0) = true) :: (inR IntKind.i64 (t7 - 1) = true) :: [])) by kernel_rfl) (AllC.cons (decide_eq_true h1) (AllC.cons (inR64.2 h2) (AllC.cons (decide_eq_true h3) (AllC.cons (decide_eq_true h4) (AllC.cons (decide_eq_true h5) (AllC.cons (inR64.2 h6) (AllC.cons (inR64.2 h7) AllC.nil)))))))) k
theorem rsm_L0_0_1 (z0 : Int) (t6 : Int) (t7 : Int) (h1 : ¬ (t7 ≥ 0)) : rsm_L0 (rsm_L0_0 z0 t6 t7) (Ex.exit 0, (rsm_L0_E0 z0 t6 t7)) := Loops.fin (LS.of okF7 (show rndA (mkCfg Tryz.prog ctrF7 bw) 60 (lpOf Tryz.prog 67 0) 3 [] [0, 6, 7] [] (rsm_L0_0 z0 t6 t7) [false] [] = some (Ex.exit 0, (rsm_L0_E0 z0 t6 t7), ((decide (t7 ≥ 0) = false) :: [])) by kernel_rfl) (AllC.cons (decide_eq_false h1) AllC.nil)) (fun h => nomatch h)
theorem rsm_2 (x : List Int) (t6 : Int) (t7 : Int) (h1 : 2 ≤ 2) (h2 : pNm (List.take 2 [-9223372036854775807, 0])) (h3 : 1 ≤ 1) (h4 : pNm (List.take 1 [9223372036854775807])) (h5 : pSu (nform (-9223372036854775807)) (List.take 1 [1])) (h6 : pSu x (nform (-9223372036854775808))) (h7 : ¬ (Int.sign (vl x - -9223372036854775808) < 0)) (h8 : pSu x (nform 9223372036854775807)) (h9 : ¬ (Int.sign (vl x - 9223372036854775807) > 0)) (h10 : pNm x) (h11 : -9223372036854775808 ≤ (↑(List.length (nform (vl x))) : Int) - 1 ∧ (↑(List.length (nform (vl x))) : Int) - 1 ≤ 9223372036854775807) (hL1 : rsm_L0 (rsm_L0_0 (vl x) (0) ((↑(List.length (nform (vl x))) : Int) - 1)) (Ex.exit 0, (rsm_L0_E0 (vl x) t6 t7))) : FC Tryz.prog 67 [.sq x] (AV.tup [aI t6, AV.tt]) := fc_fun okF7 (show funA (mkCfg Tryz.prog ctrF7 bw) 60 67 [.sq x] [false, false] [some (viaL Tryz.prog (lpOf Tryz.prog 67 0) [] [0, 6, 7] [] (rsm_L0_0 (vl x) (0) ((↑(List.length (nform (vl x))) : Int) - 1)) (Ex.exit 0, (rsm_L0_E0 (vl x) t6 t7)))] = some (AV.tup [aI t6, AV.tt], ((2 ≤ 2) :: (pNm (List.take 2 [-9223372036854775807, 0])) :: (1 ≤ 1) :: (pNm (List.take 1 [9223372036854775807])) :: (1 ≤ 1) :: (pSu (nform (-9223372036854775807)) (List.take 1 [1])) :: (pSu x (nform (-9223372036854775808))) :: (decide (Int.sign (vl x - -9223372036854775808) < 0) = false) :: (pSu x (nform 9223372036854775807)) :: (decide (Int.sign (vl x - 9223372036854775807) > 0) = false) :: (pNm x) :: (inR IntKind.i64 ((↑(List.length (nform (vl x))) : Int) - 1) = true) :: viaC Tryz.prog (lpOf Tryz.prog 67 0) [0, 6, 7] [] (rsm_L0_0 (vl x) (0) ((↑(List.length (nform (vl x))) : Int) - 1)) 3 (Ex.exit 0, (rsm_L0_E0 (vl x) t6 t7)) ([]))) by kernel_rfl) (AllC.cons (h1) (AllC.cons (h2) (AllC.cons (h3) (AllC.cons (h4) (AllC.cons (h3) (AllC.cons (h5) (AllC.cons (h6) (AllC.cons (decide_eq_false h7) (AllC.cons (h8) (AllC.cons (decide_eq_false h9) (AllC.cons (h10) (AllC.cons (inR64.2 h11) (AllC.via hL1 AllC.nil)))))))))))))
theorem fof_0 (n : Int) (h1 : pFloored n) (h2 : dl n ≤ 1048576) : FC Tryz.prog 69 [.lit (.int .i64 n)] (AV.ni n) := fc_fun okF7 (show funA (mkCfg Tryz.prog ctrF7 bw) 60 69 [.lit (.int .i64 n)] [] [] = some (AV.ni n, ((pFloored n) :: (decide (n < 0) = decide (n < 0)) :: (dl n ≤ 1048576) :: [])) by kernel_rfl) (AllC.cons (h1) (AllC.cons (rfl) (AllC.cons (h2) AllC.nil)))
theorem Sz_abs {k : Nat} {z : Int} (h : Sz k z) : Sz k (z.natAbs : Int) := by unfold Sz at *; rw [Int.natAbs_natCast]; exact h
theorem dm_neg {a b : Int} (hb : 0 < b) : (a % b ≠ 0 → (-a) / b = -(a / b) - 1 ∧ (-a) % b = -(a % b) + b) ∧ (a % b = 0 → (-a) / b = -(a / b) ∧ (-a) % b = -(a % b)) := by
  have e1 := Int.mul_ediv_add_emod a b
  have e2 := Int.emod_nonneg a (show b ≠ 0 by omega)
  have e3 := Int.emod_lt_of_pos a hb
  constructor
  · intro h
    refine (Int.ediv_emod_unique hb).2 ⟨?_, by omega, by omega⟩
    have : b * (-(a / b) - 1) = -(b * (a / b)) - b := by rw [Int.mul_sub, Int.mul_neg, Int.mul_one]
    rw [this]; omega
  · intro h
    refine (Int.ediv_emod_unique hb).2 ⟨?_, by omega, by omega⟩
    rw [Int.mul_neg]; omega
theorem tup3 {P : Program} {f : FuncId} {args : List AV} {q r q' r' : Int} {e : AV} (h : FC P f args (.tup [.ni q, .ni r, e])) (hq : q = q') (hr : r = r') : FC P f args (.tup [.ni q', .ni r', e]) := by rw [← hq, ← hr]; exact h
def pDM (x y : List Int) : Prop := pQ 80000 x ∧ pQ 80000 y
def pDM0 (x y : List Int) : Prop := pDM x y ∧ vl y = 0
def pDM1 (x y : List Int) : Prop := pDM x y ∧ vl y ≠ 0
theorem rdm0_fc (x y : List Int) (h : pDM0 x y) : FC Tryz.prog 75 [.sq x, .sq y] (.tup [.lit (.slice none 0 0), .lit (.slice none 0 0), .lit (.int .i64 12)]) :=
  rdm_0 x y (h.1.1.mono (by decide)) (h.1.2.mono (by decide)) (by rw [h.2]; rfl)
theorem rdm1_fc (x y : List Int) (h : pDM1 x y) : FC Tryz.prog 75 [.sq x, .sq y] (.tup [.ni (vl x / vl y), .ni (vl x % vl y), .lit (.int .i64 0)]) := by
  obtain ⟨⟨hx, hy⟩, h0⟩ := h
  have px : pNm x := hx.mono (by decide)
  have py : pNm y := hy.mono (by decide)
  have sx := hx.sz
  have sy := hy.sz
  have ly := nform_length (vl y)
  have hd0 : dl (vl y) ≠ 0 := fun h => h0 (dl_zero.1 h)
  have gx : pNg (vl x) := sx.mono (by decide)
  have gy : pNg (vl y) := sy.mono (by decide)
  generalize hX : vl x = X at *
  generalize hY : vl y = Y at *
  have sX : Sz 80003 (X.natAbs : Int) := Sz_abs sx
  have sY : Sz 80003 (Y.natAbs : Int) := Sz_abs sy
  have hb : 0 < (Y.natAbs : Int) := by omega
  have pd : pDv (X.natAbs : Int) (Y.natAbs : Int) := ⟨⟨by omega, hb⟩, sX.mono (by decide), sY.mono (by decide)⟩
  have sq : Sz 80003 ((X.natAbs : Int) / (Y.natAbs : Int)) := div_sz sX
  have sr : Sz 80003 ((X.natAbs : Int) % (Y.natAbs : Int)) := mod_sz sY (by omega)
  have s1 : Sz 1 (1 : Int) := by unfold Sz; decide
  have pxq : pX (nform ((X.natAbs : Int) / (Y.natAbs : Int))) := pQ_nform sq (by decide)
  have pxr : pX (nform ((X.natAbs : Int) % (Y.natAbs : Int))) := pQ_nform sr (by decide)
  have hdn := dm_neg (a := (X.natAbs : Int)) hb
  have p1 : pQ 390000 (List.take 1 [(1 : Int)]) := ⟨by simp, fun e he => by rw [List.mem_singleton.1 he]; unfold pFloored; omega⟩
  subst hX hY
  by_cases hx0 : vl x < 0
  · have eX : vl x = -((vl x).natAbs : Int) := by omega
    have lr := nform_length (-vl (nform (((vl x).natAbs : Int) % ((vl y).natAbs : Int))))
    by_cases hr0 : ((vl x).natAbs : Int) % ((vl y).natAbs : Int) = 0
    · obtain ⟨k1, k2⟩ := hdn.2 hr0
      have hlen : ¬ (((nform (-vl (nform (((vl x).natAbs : Int) % ((vl y).natAbs : Int))))).length : Int) > 0) := by
        rw [lr, nform_vl, hr0]; decide
      by_cases hy0 : vl y < 0
      · have eY : vl y = -((vl y).natAbs : Int) := by omega
        have := rdm_3 x y px py (by omega) gx gy pd hx0 pxq pxr hlen hy0 (by rw [nform_vl]; exact pQ_nform sq.neg (by decide))
        refine tup3 this ?_ ?_
        · rw [nform_vl, nform_vl]; conv => rhs; rw [eX, eY, Int.ediv_neg, k1]
        · rw [nform_vl]; conv => rhs; rw [eX, eY, Int.emod_neg, k2]
      · have eY : vl y = ((vl y).natAbs : Int) := by omega
        have := rdm_4 x y px py (by omega) gx gy pd hx0 pxq pxr hlen hy0
        refine tup3 this ?_ ?_
        · rw [nform_vl]; conv => rhs; rw [eX, eY, k1]
        · rw [nform_vl]; conv => rhs; rw [eX, eY, k2]
    · obtain ⟨k1, k2⟩ := hdn.1 hr0
      have hne : dl (-(((vl x).natAbs : Int) % ((vl y).natAbs : Int))) ≠ 0 := fun h => hr0 (by have := dl_zero.1 h; omega)
      have hlen : (((nform (-vl (nform (((vl x).natAbs : Int) % ((vl y).natAbs : Int))))).length : Int) > 0) := by
        rw [lr, nform_vl]; omega
      have hsu : pSu (nform (-vl (nform (((vl x).natAbs : Int) / ((vl y).natAbs : Int))))) (List.take 1 [(1 : Int)]) := ⟨by rw [nform_vl]; exact pQ_nform sq.neg (by decide), p1⟩
      have had : pAd (nform (-vl (nform (((vl x).natAbs : Int) % ((vl y).natAbs : Int))))) (nform ((vl y).natAbs : Int)) := ⟨by rw [nform_vl]; exact pQ_nform sr.neg (by decide), pQ_nform sY (by decide)⟩
      by_cases hy0 : vl y < 0
      · have eY : vl y = -((vl y).natAbs : Int) := by omega
        have := rdm_1 x y px py (by omega) gx gy pd hx0 pxq pxr hlen (by omega) hsu had hy0 (by
          rw [nform_vl, nform_vl, Int.sub_eq_add_neg]; exact pQ_nform (Sz.add sq.neg s1.neg (show 80003 < 100000 by decide) (by decide)) (by decide))
        refine tup3 this ?_ ?_
        · rw [nform_vl, nform_vl, nform_vl]; conv => rhs; rw [eX, eY, Int.ediv_neg, k1]
        · rw [nform_vl, nform_vl, nform_vl]; conv => rhs; rw [eX, eY, Int.emod_neg, k2]
      · have eY : vl y = ((vl y).natAbs : Int) := by omega
        have := rdm_2 x y px py (by omega) gx gy pd hx0 pxq pxr hlen (by omega) hsu had hy0
        refine tup3 this ?_ ?_
        · rw [nform_vl, nform_vl]; conv => rhs; rw [eX, eY, k1]
        · rw [nform_vl, nform_vl, nform_vl]; conv => rhs; rw [eX, eY, k2]
  · have eX : vl x = ((vl x).natAbs : Int) := by omega
    by_cases hy0 : vl y < 0
    · have eY : vl y = -((vl y).natAbs : Int) := by omega
      have := rdm_5 x y px py (by omega) gx gy pd hx0 hy0 pxq
      refine tup3 this ?_ ?_
      · rw [nform_vl]; conv => rhs; rw [eX, eY, Int.ediv_neg]
      · conv => rhs; rw [eX, eY, Int.emod_neg]
    · have eY : vl y = ((vl y).natAbs : Int) := by omega
      have := rdm_6 x y px py (by omega) gx gy pd hx0 hy0
      refine tup3 this ?_ ?_
      · conv => rhs; rw [eX, eY]
      · conv => rhs; rw [eX, eY]
theorem Sz.abs {k : Nat} {z : Int} (h : Sz k z) : Sz k (z.natAbs : Int) := by unfold Sz at *; rw [Int.natAbs_natCast]; exact h
theorem rg_loop : ∀ (m : Nat) (a b : Int), b.toNat ≤ m → 0 ≤ a → 0 ≤ b → Sz 85000 a → Sz 85000 b → rgc_L0 (rgc_L0_0 a b) (.exit 0, rgc_L0_E0 (Int.gcd a b : Int) 0) := by
  intro m
  induction m with
  | zero =>
    intro a b hm ha hb sa sb
    have : b = 0 := by omega
    subst this
    have e : (Int.gcd a 0 : Int) = a := by rw [Int.gcd_zero_right]; omega
    rw [e]
    exact rgc_L0_0_1 a 0 (by rw [nform_length]; decide)
  | succ m ih =>
    intro a b hm ha hb sa sb
    by_cases h0 : b = 0
    · subst h0
      have e : (Int.gcd a 0 : Int) = a := by rw [Int.gcd_zero_right]; omega
      rw [e]
      exact rgc_L0_0_1 a 0 (by rw [nform_length]; decide)
    · have h1 := Int.emod_nonneg a h0
      have h2 := Int.emod_lt_of_pos a (show 0 < b by omega)
      have hne : dl b ≠ 0 := fun h => h0 (dl_zero.1 h)
      have := ih b (a % b) (by omega) hb h1 sb (mod_sz sb h0)
      rw [gcd_step] at this
      exact rgc_L0_0_0 a b (by rw [nform_length]; omega) ⟨⟨ha, by omega⟩, sa.mono (by decide), sb.mono (by decide)⟩ this
theorem rGcd_fc (x y : List Int) (h : pDM x y) : FC Tryz.prog 74 [.sq x, .sq y] (.ni (Int.gcd (vl x) (vl y) : Int)) := by
  obtain ⟨hx, hy⟩ := h
  have sx := hx.sz
  have sy := hy.sz
  have sX : Sz 85000 ((vl x).natAbs : Int) := (Sz.abs sx).mono (show 80000 + 3 ≤ 85000 by decide)
  have sY : Sz 85000 ((vl y).natAbs : Int) := (Sz.abs sy).mono (show 80000 + 3 ≤ 85000 by decide)
  have hl := rg_loop _ ((vl x).natAbs : Int) ((vl y).natAbs : Int) (Nat.le_refl _) (by omega) (by omega) sX sY
  have := rgc_0 x y _ _ (hx.mono (by decide)) (sx.mono (by decide)) (hy.mono (by decide)) (sy.mono (by decide)) hl
  have e : Int.gcd ((vl x).natAbs : Int) ((vl y).natAbs : Int) = Int.gcd (vl x) (vl y) := by
    unfold Int.gcd; simp
  rwa [e] at this

/-! ### Small -/
def inI (z : Int) : Prop := -9223372036854775808 ≤ z ∧ z ≤ 9223372036854775807
instance {z : Int} : Decidable (inI z) := inferInstanceAs (Decidable (_ ∧ _))
def smV (z : Int) : Int := if inI z then z else 0
def smR (z : Int) : AV := .tup [.lit (.int .i64 (smV z)), .lit (.bool (decide (inI z)))]
theorem vl_drop_le : ∀ (l : List Int) (k : Nat), Digs l → 0 ≤ vl (l.drop k) ∧ vl (l.drop k) ≤ vl l
  | [], k, _ => by simp [vl]
  | d :: l, 0, h => ⟨vl_nonneg h, Int.le_refl _⟩
  | d :: l, k + 1, h => by
    have h1 := vl_drop_le l k fun e he => h e (by simp [he])
    have h2 := h d (by simp)
    simp only [List.drop_succ_cons, vl]
    omega
theorem nform_drop (z : Int) (k : Nat) : (0 ≤ z → 0 ≤ vl ((nform z).drop k) ∧ vl ((nform z).drop k) ≤ z) ∧ (z ≤ 0 → z ≤ vl ((nform z).drop k) ∧ vl ((nform z).drop k) ≤ 0) := by
  have h := vl_drop_le (digs z.natAbs) k (Digs_digs _)
  rw [vl_digs] at h
  unfold nform
  split
  · rw [← List.map_drop, vl_neg]; omega
  · omega
theorem nform_sgn (z : Int) (k : Nat) : (0 ≤ z → 0 ≤ (nform z).getD k 0) ∧ (z ≤ 0 → (nform z).getD k 0 ≤ 0) := by
  by_cases hk : k < (nform z).length
  · have hm : (nform z).getD k 0 ∈ nform z := by simp [List.getD, hk]
    generalize (nform z).getD k 0 = d at *
    unfold nform at hm
    split at hm
    · obtain ⟨e, he, rfl⟩ := List.mem_map.1 hm
      have := Digs_digs _ e he; omega
    · have := Digs_digs _ d hm
      refine ⟨fun _ => by omega, fun h => ?_⟩
      have : z = 0 := by omega
      subst this
      simp [digs_zero] at hm
  · have : (nform z).getD k 0 = 0 := by simp [List.getD, Nat.le_of_not_lt hk]
    rw [this]; omega
theorem rs_small (z : Int) (hz : inI z) : ∀ (k : Nat), k ≤ dl z → rsm_L0 (rsm_L0_0 z (vl ((nform z).drop k)) ((k : Int) - 1)) (.exit 0, rsm_L0_E0 z z (-1))
  | 0, _ => by rw [List.drop_zero, nform_vl]; exact rsm_L0_0_1 z z _ (by omega)
  | k + 1, hk => by
    have lz := nform_length z
    have hlt : k < (nform z).length := by omega
    have hdr : (nform z).drop k = (nform z).getD k 0 :: (nform z).drop (k + 1) := by rw [List.drop_eq_getElem_cons hlt]; simp [List.getD, hlt]
    have ih := rs_small z hz k (by omega)
    rw [hdr] at ih
    simp only [vl] at ih
    have h1 := nform_drop z k
    rw [hdr] at h1
    simp only [vl] at h1
    have h2 := nform_drop z (k + 1)
    have h3 := nform_sgn z k
    have hdl : dl z ≤ 3 := dl_le (by unfold inI at hz; unfold Sz; omega)
    have hk0 : Int.toNat (k : Int) = k := by omega
    have hc : ((k + 1 : Nat) : Int) - 1 = (k : Int) := by omega
    rw [hc]
    unfold inI at hz
    generalize hT : vl ((nform z).drop (k + 1)) = T at *
    generalize hD : (nform z).getD k 0 = D at *
    refine rsm_L0_0_0 z T k (by omega) (by omega) (by omega) (by omega) (by omega) ?_ (by omega) ?_ <;> rw [hk0, hD]
    · omega
    · have e : T * 100000000 + D = D + 100000000 * T := by omega
      rw [e]; exact ih
def pSm (x : List Int) : Prop := pQ 300000 x
theorem sgn_lt {z : Int} : z.sign < 0 ↔ z < 0 := by
  rcases Int.lt_trichotomy z 0 with h | h | h
  · rw [Int.sign_eq_neg_one_of_neg h]; omega
  · rw [h]; decide
  · rw [Int.sign_eq_one_of_pos h]; omega
theorem rSmall_fc (x : List Int) (h : pSm x) : FC Tryz.prog 67 [.sq x] (smR (vl x)) := by
  have a2 : pNm (List.take 2 [(-9223372036854775807 : Int), 0]) := ⟨by simp, fun d hd => by simp at hd; rcases hd with rfl | rfl <;> (unfold pFloored; omega)⟩
  have a4 : pNm (List.take 1 [(9223372036854775807 : Int)]) := ⟨by simp, fun d hd => by rw [List.mem_singleton.1 hd]; unfold pFloored; omega⟩
  have p1 : pQ 390000 (List.take 1 [(1 : Int)]) := ⟨by simp, fun e he => by rw [List.mem_singleton.1 he]; unfold pFloored; omega⟩
  have b1 : ∀ z : Int, -10000000000000000000 ≤ z → z ≤ 10000000000000000000 → pQ 390000 (nform z) := fun z h1 h2 => pQ_nform (k := 3) (by unfold Sz; omega) (by decide)
  have a5 : pSu (nform (-9223372036854775807)) (List.take 1 [(1 : Int)]) := ⟨b1 _ (by omega) (by omega), p1⟩
  have a6 : pSu x (nform (-9223372036854775808)) := ⟨h.mono (by decide), b1 _ (by omega) (by omega)⟩
  have a8 : pSu x (nform 9223372036854775807) := ⟨h.mono (by decide), b1 _ (by omega) (by omega)⟩
  by_cases h1 : vl x < -9223372036854775808
  · have := rsm_0 x (by omega) a2 (by omega) a4 a5 a6 (sgn_lt.2 (by omega))
    have e : ¬ inI (vl x) := fun h => by unfold inI at h; omega
    unfold smR smV
    rw [if_neg e, decide_eq_false e]
    exact this.res fun E v hv => hv.tup2 (fun _ hu => hu) (fun u hu => by cases hu; exact .lit _)
  · have n1 : ¬ ((vl x - -9223372036854775808).sign < 0) := fun hh => by have := sgn_lt.1 hh; omega
    by_cases h2 : 9223372036854775807 < vl x
    · have hs : (vl x - 9223372036854775807).sign > 0 := by rw [Int.sign_eq_one_of_pos (by omega)]; decide
      have := rsm_1 x (by omega) a2 (by omega) a4 a5 a6 n1 a8 hs
      have e : ¬ inI (vl x) := fun h => by unfold inI at h; omega
      unfold smR smV
      rw [if_neg e, decide_eq_false e]
      exact this.res fun E v hv => hv.tup2 (fun _ hu => hu) (fun u hu => by cases hu; exact .lit _)
    · have n2 : ¬ ((vl x - 9223372036854775807).sign > 0) := by
        rcases Int.lt_or_eq_of_le (show vl x - 9223372036854775807 ≤ 0 by omega) with hh | hh
        · rw [Int.sign_eq_neg_one_of_neg hh]; decide
        · rw [hh]; decide
      have hz : inI (vl x) := ⟨by omega, by omega⟩
      have lx := nform_length (vl x)
      have hdl : dl (vl x) ≤ 3 := dl_le (by unfold Sz; omega)
      have hL := rs_small (vl x) hz (dl (vl x)) (Nat.le_refl _)
      rw [List.drop_of_length_le (by omega)] at hL
      simp only [vl] at hL
      have := rsm_2 x (vl x) (-1) (by omega) a2 (by omega) a4 a5 a6 n1 a8 n2 (h.mono (by decide)) (by omega) (by rw [lx]; exact hL)
      unfold smR smV
      rw [if_pos hz, decide_eq_true hz]
      exact this.res fun E v hv => hv.tup2 (fun _ hu => hu) (fun u hu => by cases hu; exact .lit _)
theorem fOf_fc (n : Int) (h : pFloored n) : FC Tryz.prog 69 [.lit (.int .i64 n)] (.ni n) :=
  fof_0 n h (Nat.le_trans (dl_le (k := 3) (by unfold pFloored at h; unfold Sz; omega)) (by decide))
def ctrF8 : Ctr := (75, twoC tZero (cLL pDM0 (fun _ _ => .tup [.lit (.slice none 0 0), .lit (.slice none 0 0), .lit (.int .i64 12)])) (cLL pDM1 (fun x y => .tup [.ni (vl x / vl y), .ni (vl x % vl y), .lit (.int .i64 0)]))) ::
  (74, cLL pDM (fun x y => .ni (Int.gcd (vl x) (vl y) : Int))) :: (67, cL pSm (fun x => smR (vl x))) :: (69, cI pFloored (fun n => .ni n)) :: ctrF7
theorem ctrF8_all : ∀ p ∈ ctrF8, CtrOK Tryz.prog p.1 p.2 := CAll.cons (twoC_ok (cLL_ok rdm0_fc) (cLL_ok rdm1_fc)) <| CAll.cons (cLL_ok rGcd_fc) <| CAll.cons (cL_ok rSmall_fc) <| CAll.cons (cI_ok fOf_fc) ctrF7_all
theorem okF8 : (mkCfg Tryz.prog ctrF8 bw).OK := cfg_ok ctrF8_all

end Go.Proofs.YtcpgkgldibobeaaGreatDoor
end

section
open Go Go.Ev Go.RowKit
namespace Go.Proofs.YtcpgkgldibobeaaGreatDoor
open Go.Proofs
set_option maxRecDepth 100000
set_option maxHeartbeats 1000000
set_option linter.unusedVariables false
set_option linter.unusedSimpArgs false
/-- 'list' where the digits are known. -/
def pLst (l : List Int) (z : Int) : Prop := nform z = l ∧ fits z
instance tLst {l : List Int} {z : Int} : Tst (pLst l z) := ⟨false, fun h => by cases h⟩
def ctrLs (l : List Int) (x : AV) : Ctr := (106, c1 (pLst l) (fun _ => x)) :: ctrF8
abbrev smA (n : Nat) (a b c : Int) : AV := .sl (([a, b, c].take n).map fun d => .lit (.int .i64 d)) n

theorem ni_sl {z : Int} {l : List Int} (h : nform z = l) : Le (.ni z) (.sl (l.map fun d => .lit (.int .i64 d)) l.length) := by
  intro E v hv
  cases hv with
  | ni hi hc =>
    rw [h] at hi hc ⊢
    rcases hi with rfl | ⟨b, o, rfl, hM, hv⟩
    · exact .sl0
    · by_cases h0 : l = []
      · subst h0; exact .sl0
      · have hlt : b < E.heap.size := lt_of_cellOf (hv 0 (List.length_pos_iff.2 h0))
        refine .sl (fun i => .int .i64 (l.getD i 0)) hlt hM hc (fun i hi => hv i (by simpa using hi)) (fun i hi => ?_)
        have hi' : i < l.length := by simpa using hi
        have e : (l.map fun d => AV.lit (.int .i64 d)).getD i .junk = .lit (.int .i64 (l.getD i 0)) := by simp [List.getD, hi']
        rw [e]; exact .lit _
theorem lst_fc {l : List Int} {x : AV} (hx : x = .sl (l.map fun d => .lit (.int .i64 d)) l.length) (z : Int) (h : pLst l z) : FC Tryz.prog 106 [W z] x := by
  rw [hx]; exact (list_fc z h.2).res (ni_sl h.1)
theorem okLs {l : List Int} {x : AV} (hx : x = .sl (l.map fun d => .lit (.int .i64 d)) l.length) : (mkCfg Tryz.prog (ctrLs l x) bw).OK :=
  cfg_ok (CAll.cons (c1_ok (lst_fc hx)) ctrF8_all)
theorem okLs0 : (mkCfg Tryz.prog (ctrLs [] (.sl [] 0)) bw).OK := okLs rfl
theorem okLs1 (a : Int) : (mkCfg Tryz.prog (ctrLs [a] (.sl [.lit (.int .i64 a)] 1)) bw).OK := okLs rfl
theorem okLs2 (a b : Int) : (mkCfg Tryz.prog (ctrLs [a, b] (.sl [.lit (.int .i64 a), .lit (.int .i64 b)] 2)) bw).OK := okLs rfl
theorem okLs3 (a b c : Int) : (mkCfg Tryz.prog (ctrLs [a, b, c] (.sl [.lit (.int .i64 a), .lit (.int .i64 b), .lit (.int .i64 c)] 3)) bw).OK := okLs rfl

theorem fs0_0 (x : List Int) (h1 : pRead x) (h2 : pFloored 9223372036854775807) (h3 : pDD (vl x) 9223372036854775807) (h4 : Int.sign (vl x - 9223372036854775807) > 0) : FC Tryz.prog 66 [.sq x] (AV.tup [aI 0, AV.ff]) := fc_fun (okLs0) (show funA (mkCfg Tryz.prog (ctrLs [] (.sl [] 0)) bw) 60 66 [.sq x] [true] [] = some (AV.tup [aI 0, AV.ff], ((pRead x) :: (pFloored 9223372036854775807) :: (decide (vl x < 0) = decide (vl x < 0)) :: (false = false) :: (pDD (vl x) 9223372036854775807) :: (decide (Int.sign (vl x - 9223372036854775807) > 0) = true) :: [])) by kernel_rfl) (AllC.cons (h1) (AllC.cons (h2) (AllC.cons (rfl) (AllC.cons (rfl) (AllC.cons (h3) (AllC.cons (decide_eq_true h4) AllC.nil))))))
theorem fs0_1 (x : List Int) (h1 : pRead x) (h2 : pFloored 9223372036854775807) (h3 : pDD (vl x) 9223372036854775807) (h4 : ¬ (Int.sign (vl x - 9223372036854775807) > 0)) (h5 : pFloored (-9223372036854775808)) (h6 : pDD (vl x) (-9223372036854775808)) (h7 : Int.sign (vl x - -9223372036854775808) < 0) : FC Tryz.prog 66 [.sq x] (AV.tup [aI 0, AV.ff]) := fc_fun (okLs0) (show funA (mkCfg Tryz.prog (ctrLs [] (.sl [] 0)) bw) 60 66 [.sq x] [false, true] [] = some (AV.tup [aI 0, AV.ff], ((pRead x) :: (pFloored 9223372036854775807) :: (decide (vl x < 0) = decide (vl x < 0)) :: (false = false) :: (pDD (vl x) 9223372036854775807) :: (decide (Int.sign (vl x - 9223372036854775807) > 0) = false) :: (pFloored (-9223372036854775808)) :: (decide (vl x < 0) = decide (vl x < 0)) :: ttC 1 ((pDD (vl x) (-9223372036854775808)) :: (decide (Int.sign (vl x - -9223372036854775808) < 0) = true) :: []))) by kernel_rfl) (AllC.cons (h1) (AllC.cons (h2) (AllC.cons (rfl) (AllC.cons (rfl) (AllC.cons (h3) (AllC.cons (decide_eq_false h4) (AllC.cons (h5) (AllC.cons (rfl) (AllC.tt 1 (AllC.cons (h6) (AllC.cons (decide_eq_true h7) AllC.nil)))))))))))
theorem fs0_2 (x : List Int) (h1 : pRead x) (h2 : pFloored 9223372036854775807) (h3 : pDD (vl x) 9223372036854775807) (h4 : ¬ (Int.sign (vl x - 9223372036854775807) > 0)) (h5 : pFloored (-9223372036854775808)) (h6 : pDD (vl x) (-9223372036854775808)) (h7 : ¬ (Int.sign (vl x - -9223372036854775808) < 0)) (h8 : pLst [] (vl x)) : FC Tryz.prog 66 [.sq x] (AV.tup [aI 0, AV.tt]) := fc_fun (okLs0) (show funA (mkCfg Tryz.prog (ctrLs [] (.sl [] 0)) bw) 60 66 [.sq x] [false, false] [] = some (AV.tup [aI 0, AV.tt], ((pRead x) :: (pFloored 9223372036854775807) :: (decide (vl x < 0) = decide (vl x < 0)) :: (false = false) :: (pDD (vl x) 9223372036854775807) :: (decide (Int.sign (vl x - 9223372036854775807) > 0) = false) :: (pFloored (-9223372036854775808)) :: (decide (vl x < 0) = decide (vl x < 0)) :: ttC 1 ((pDD (vl x) (-9223372036854775808)) :: (decide (Int.sign (vl x - -9223372036854775808) < 0) = false) :: (decide (vl x < 0) = decide (vl x < 0)) :: (pLst [] (vl x)) :: ttC 1 ([])))) by kernel_rfl) (AllC.cons (h1) (AllC.cons (h2) (AllC.cons (rfl) (AllC.cons (rfl) (AllC.cons (h3) (AllC.cons (decide_eq_false h4) (AllC.cons (h5) (AllC.cons (rfl) (AllC.tt 1 (AllC.cons (h6) (AllC.cons (decide_eq_false h7) (AllC.cons (rfl) (AllC.cons (h8) (AllC.tt 1 AllC.nil))))))))))))))
theorem fs1_0 (x : List Int) (a : Int) (h1 : pRead x) (h2 : pFloored 9223372036854775807) (h3 : pDD (vl x) 9223372036854775807) (h4 : Int.sign (vl x - 9223372036854775807) > 0) : FC Tryz.prog 66 [.sq x] (AV.tup [aI 0, AV.ff]) := fc_fun (okLs1 a) (show funA (mkCfg Tryz.prog (ctrLs [a] (.sl [.lit (.int .i64 a)] 1)) bw) 60 66 [.sq x] [true] [] = some (AV.tup [aI 0, AV.ff], ((pRead x) :: (pFloored 9223372036854775807) :: (decide (vl x < 0) = decide (vl x < 0)) :: (false = false) :: (pDD (vl x) 9223372036854775807) :: (decide (Int.sign (vl x - 9223372036854775807) > 0) = true) :: [])) by kernel_rfl) (AllC.cons (h1) (AllC.cons (h2) (AllC.cons (rfl) (AllC.cons (rfl) (AllC.cons (h3) (AllC.cons (decide_eq_true h4) AllC.nil))))))
theorem fs1_1 (x : List Int) (a : Int) (h1 : pRead x) (h2 : pFloored 9223372036854775807) (h3 : pDD (vl x) 9223372036854775807) (h4 : ¬ (Int.sign (vl x - 9223372036854775807) > 0)) (h5 : pFloored (-9223372036854775808)) (h6 : pDD (vl x) (-9223372036854775808)) (h7 : Int.sign (vl x - -9223372036854775808) < 0) : FC Tryz.prog 66 [.sq x] (AV.tup [aI 0, AV.ff]) := fc_fun (okLs1 a) (show funA (mkCfg Tryz.prog (ctrLs [a] (.sl [.lit (.int .i64 a)] 1)) bw) 60 66 [.sq x] [false, true] [] = some (AV.tup [aI 0, AV.ff], ((pRead x) :: (pFloored 9223372036854775807) :: (decide (vl x < 0) = decide (vl x < 0)) :: (false = false) :: (pDD (vl x) 9223372036854775807) :: (decide (Int.sign (vl x - 9223372036854775807) > 0) = false) :: (pFloored (-9223372036854775808)) :: (decide (vl x < 0) = decide (vl x < 0)) :: ttC 1 ((pDD (vl x) (-9223372036854775808)) :: (decide (Int.sign (vl x - -9223372036854775808) < 0) = true) :: []))) by kernel_rfl) (AllC.cons (h1) (AllC.cons (h2) (AllC.cons (rfl) (AllC.cons (rfl) (AllC.cons (h3) (AllC.cons (decide_eq_false h4) (AllC.cons (h5) (AllC.cons (rfl) (AllC.tt 1 (AllC.cons (h6) (AllC.cons (decide_eq_true h7) AllC.nil)))))))))))
theorem fs1_2 (x : List Int) (a : Int) (h1 : pRead x) (h2 : pFloored 9223372036854775807) (h3 : pDD (vl x) 9223372036854775807) (h4 : ¬ (Int.sign (vl x - 9223372036854775807) > 0)) (h5 : pFloored (-9223372036854775808)) (h6 : pDD (vl x) (-9223372036854775808)) (h7 : ¬ (Int.sign (vl x - -9223372036854775808) < 0)) (h8 : pLst [a] (vl x)) (h9 : -9223372036854775808 ≤ 0 + a ∧ 0 + a ≤ 9223372036854775807) : FC Tryz.prog 66 [.sq x] (AV.tup [aI (0 + a), AV.tt]) := fc_fun (okLs1 a) (show funA (mkCfg Tryz.prog (ctrLs [a] (.sl [.lit (.int .i64 a)] 1)) bw) 60 66 [.sq x] [false, false] [] = some (AV.tup [aI (0 + a), AV.tt], ((pRead x) :: (pFloored 9223372036854775807) :: (decide (vl x < 0) = decide (vl x < 0)) :: (false = false) :: (pDD (vl x) 9223372036854775807) :: (decide (Int.sign (vl x - 9223372036854775807) > 0) = false) :: (pFloored (-9223372036854775808)) :: (decide (vl x < 0) = decide (vl x < 0)) :: ttC 1 ((pDD (vl x) (-9223372036854775808)) :: (decide (Int.sign (vl x - -9223372036854775808) < 0) = false) :: (decide (vl x < 0) = decide (vl x < 0)) :: (pLst [a] (vl x)) :: ttC 2 ((inR IntKind.i64 (0 + a) = true) :: [])))) by kernel_rfl) (AllC.cons (h1) (AllC.cons (h2) (AllC.cons (rfl) (AllC.cons (rfl) (AllC.cons (h3) (AllC.cons (decide_eq_false h4) (AllC.cons (h5) (AllC.cons (rfl) (AllC.tt 1 (AllC.cons (h6) (AllC.cons (decide_eq_false h7) (AllC.cons (rfl) (AllC.cons (h8) (AllC.tt 2 (AllC.cons (inR64.2 h9) AllC.nil)))))))))))))))
theorem fs2_0 (x : List Int) (a b : Int) (h1 : pRead x) (h2 : pFloored 9223372036854775807) (h3 : pDD (vl x) 9223372036854775807) (h4 : Int.sign (vl x - 9223372036854775807) > 0) : FC Tryz.prog 66 [.sq x] (AV.tup [aI 0, AV.ff]) := fc_fun (okLs2 a b) (show funA (mkCfg Tryz.prog (ctrLs [a, b] (.sl [.lit (.int .i64 a), .lit (.int .i64 b)] 2)) bw) 60 66 [.sq x] [true] [] = some (AV.tup [aI 0, AV.ff], ((pRead x) :: (pFloored 9223372036854775807) :: (decide (vl x < 0) = decide (vl x < 0)) :: (false = false) :: (pDD (vl x) 9223372036854775807) :: (decide (Int.sign (vl x - 9223372036854775807) > 0) = true) :: [])) by kernel_rfl) (AllC.cons (h1) (AllC.cons (h2) (AllC.cons (rfl) (AllC.cons (rfl) (AllC.cons (h3) (AllC.cons (decide_eq_true h4) AllC.nil))))))
theorem fs2_1 (x : List Int) (a b : Int) (h1 : pRead x) (h2 : pFloored 9223372036854775807) (h3 : pDD (vl x) 9223372036854775807) (h4 : ¬ (Int.sign (vl x - 9223372036854775807) > 0)) (h5 : pFloored (-9223372036854775808)) (h6 : pDD (vl x) (-9223372036854775808)) (h7 : Int.sign (vl x - -9223372036854775808) < 0) : FC Tryz.prog 66 [.sq x] (AV.tup [aI 0, AV.ff]) := fc_fun (okLs2 a b) (show funA (mkCfg Tryz.prog (ctrLs [a, b] (.sl [.lit (.int .i64 a), .lit (.int .i64 b)] 2)) bw) 60 66 [.sq x] [false, true] [] = some (AV.tup [aI 0, AV.ff], ((pRead x) :: (pFloored 9223372036854775807) :: (decide (vl x < 0) = decide (vl x < 0)) :: (false = false) :: (pDD (vl x) 9223372036854775807) :: (decide (Int.sign (vl x - 9223372036854775807) > 0) = false) :: (pFloored (-9223372036854775808)) :: (decide (vl x < 0) = decide (vl x < 0)) :: ttC 1 ((pDD (vl x) (-9223372036854775808)) :: (decide (Int.sign (vl x - -9223372036854775808) < 0) = true) :: []))) by kernel_rfl) (AllC.cons (h1) (AllC.cons (h2) (AllC.cons (rfl) (AllC.cons (rfl) (AllC.cons (h3) (AllC.cons (decide_eq_false h4) (AllC.cons (h5) (AllC.cons (rfl) (AllC.tt 1 (AllC.cons (h6) (AllC.cons (decide_eq_true h7) AllC.nil)))))))))))
theorem fs2_2 (x : List Int) (a b : Int) (h1 : pRead x) (h2 : pFloored 9223372036854775807) (h3 : pDD (vl x) 9223372036854775807) (h4 : ¬ (Int.sign (vl x - 9223372036854775807) > 0)) (h5 : pFloored (-9223372036854775808)) (h6 : pDD (vl x) (-9223372036854775808)) (h7 : ¬ (Int.sign (vl x - -9223372036854775808) < 0)) (h8 : pLst [a, b] (vl x)) (h9 : -9223372036854775808 ≤ 0 + b ∧ 0 + b ≤ 9223372036854775807) (h10 : -9223372036854775808 ≤ (0 + b) * 100000000 ∧ (0 + b) * 100000000 ≤ 9223372036854775807) (h11 : -9223372036854775808 ≤ (0 + b) * 100000000 + a ∧ (0 + b) * 100000000 + a ≤ 9223372036854775807) : FC Tryz.prog 66 [.sq x] (AV.tup [aI ((0 + b) * 100000000 + a), AV.tt]) := fc_fun (okLs2 a b) (show funA (mkCfg Tryz.prog (ctrLs [a, b] (.sl [.lit (.int .i64 a), .lit (.int .i64 b)] 2)) bw) 60 66 [.sq x] [false, false] [] = some (AV.tup [aI ((0 + b) * 100000000 + a), AV.tt], ((pRead x) :: (pFloored 9223372036854775807) :: (decide (vl x < 0) = decide (vl x < 0)) :: (false = false) :: (pDD (vl x) 9223372036854775807) :: (decide (Int.sign (vl x - 9223372036854775807) > 0) = false) :: (pFloored (-9223372036854775808)) :: (decide (vl x < 0) = decide (vl x < 0)) :: ttC 1 ((pDD (vl x) (-9223372036854775808)) :: (decide (Int.sign (vl x - -9223372036854775808) < 0) = false) :: (decide (vl x < 0) = decide (vl x < 0)) :: (pLst [a, b] (vl x)) :: ttC 2 ((inR IntKind.i64 (0 + b) = true) :: (inR IntKind.i64 ((0 + b) * 100000000) = true) :: (inR IntKind.i64 ((0 + b) * 100000000 + a) = true) :: [])))) by kernel_rfl) (AllC.cons (h1) (AllC.cons (h2) (AllC.cons (rfl) (AllC.cons (rfl) (AllC.cons (h3) (AllC.cons (decide_eq_false h4) (AllC.cons (h5) (AllC.cons (rfl) (AllC.tt 1 (AllC.cons (h6) (AllC.cons (decide_eq_false h7) (AllC.cons (rfl) (AllC.cons (h8) (AllC.tt 2 (AllC.cons (inR64.2 h9) (AllC.cons (inR64.2 h10) (AllC.cons (inR64.2 h11) AllC.nil)))))))))))))))))
theorem fs3_0 (x : List Int) (a b c : Int) (h1 : pRead x) (h2 : pFloored 9223372036854775807) (h3 : pDD (vl x) 9223372036854775807) (h4 : Int.sign (vl x - 9223372036854775807) > 0) : FC Tryz.prog 66 [.sq x] (AV.tup [aI 0, AV.ff]) := fc_fun (okLs3 a b c) (show funA (mkCfg Tryz.prog (ctrLs [a, b, c] (.sl [.lit (.int .i64 a), .lit (.int .i64 b), .lit (.int .i64 c)] 3)) bw) 60 66 [.sq x] [true] [] = some (AV.tup [aI 0, AV.ff], ((pRead x) :: (pFloored 9223372036854775807) :: (decide (vl x < 0) = decide (vl x < 0)) :: (false = false) :: (pDD (vl x) 9223372036854775807) :: (decide (Int.sign (vl x - 9223372036854775807) > 0) = true) :: [])) by kernel_rfl) (AllC.cons (h1) (AllC.cons (h2) (AllC.cons (rfl) (AllC.cons (rfl) (AllC.cons (h3) (AllC.cons (decide_eq_true h4) AllC.nil))))))
theorem fs3_1 (x : List Int) (a b c : Int) (h1 : pRead x) (h2 : pFloored 9223372036854775807) (h3 : pDD (vl x) 9223372036854775807) (h4 : ¬ (Int.sign (vl x - 9223372036854775807) > 0)) (h5 : pFloored (-9223372036854775808)) (h6 : pDD (vl x) (-9223372036854775808)) (h7 : Int.sign (vl x - -9223372036854775808) < 0) : FC Tryz.prog 66 [.sq x] (AV.tup [aI 0, AV.ff]) := fc_fun (okLs3 a b c) (show funA (mkCfg Tryz.prog (ctrLs [a, b, c] (.sl [.lit (.int .i64 a), .lit (.int .i64 b), .lit (.int .i64 c)] 3)) bw) 60 66 [.sq x] [false, true] [] = some (AV.tup [aI 0, AV.ff], ((pRead x) :: (pFloored 9223372036854775807) :: (decide (vl x < 0) = decide (vl x < 0)) :: (false = false) :: (pDD (vl x) 9223372036854775807) :: (decide (Int.sign (vl x - 9223372036854775807) > 0) = false) :: (pFloored (-9223372036854775808)) :: (decide (vl x < 0) = decide (vl x < 0)) :: ttC 1 ((pDD (vl x) (-9223372036854775808)) :: (decide (Int.sign (vl x - -9223372036854775808) < 0) = true) :: []))) by kernel_rfl) (AllC.cons (h1) (AllC.cons (h2) (AllC.cons (rfl) (AllC.cons (rfl) (AllC.cons (h3) (AllC.cons (decide_eq_false h4) (AllC.cons (h5) (AllC.cons (rfl) (AllC.tt 1 (AllC.cons (h6) (AllC.cons (decide_eq_true h7) AllC.nil)))))))))))
theorem fs3_2 (x : List Int) (a b c : Int) (h1 : pRead x) (h2 : pFloored 9223372036854775807) (h3 : pDD (vl x) 9223372036854775807) (h4 : ¬ (Int.sign (vl x - 9223372036854775807) > 0)) (h5 : pFloored (-9223372036854775808)) (h6 : pDD (vl x) (-9223372036854775808)) (h7 : ¬ (Int.sign (vl x - -9223372036854775808) < 0)) (h8 : pLst [a, b, c] (vl x)) (h9 : -9223372036854775808 ≤ 0 + c ∧ 0 + c ≤ 9223372036854775807) (h10 : -9223372036854775808 ≤ (0 + c) * 100000000 ∧ (0 + c) * 100000000 ≤ 9223372036854775807) (h11 : -9223372036854775808 ≤ (0 + c) * 100000000 + b ∧ (0 + c) * 100000000 + b ≤ 9223372036854775807) (h12 : -9223372036854775808 ≤ ((0 + c) * 100000000 + b) * 100000000 ∧ ((0 + c) * 100000000 + b) * 100000000 ≤ 9223372036854775807) (h13 : -9223372036854775808 ≤ ((0 + c) * 100000000 + b) * 100000000 + a ∧ ((0 + c) * 100000000 + b) * 100000000 + a ≤ 9223372036854775807) : FC Tryz.prog 66 [.sq x] (AV.tup [aI (((0 + c) * 100000000 + b) * 100000000 + a), AV.tt]) := fc_fun (okLs3 a b c) (show funA (mkCfg Tryz.prog (ctrLs [a, b, c] (.sl [.lit (.int .i64 a), .lit (.int .i64 b), .lit (.int .i64 c)] 3)) bw) 60 66 [.sq x] [false, false] [] = some (AV.tup [aI (((0 + c) * 100000000 + b) * 100000000 + a), AV.tt], ((pRead x) :: (pFloored 9223372036854775807) :: (decide (vl x < 0) = decide (vl x < 0)) :: (false = false) :: (pDD (vl x) 9223372036854775807) :: (decide (Int.sign (vl x - 9223372036854775807) > 0) = false) :: (pFloored (-9223372036854775808)) :: (decide (vl x < 0) = decide (vl x < 0)) :: ttC 1 ((pDD (vl x) (-9223372036854775808)) :: (decide (Int.sign (vl x - -9223372036854775808) < 0) = false) :: (decide (vl x < 0) = decide (vl x < 0)) :: (pLst [a, b, c] (vl x)) :: ttC 2 ((inR IntKind.i64 (0 + c) = true) :: (inR IntKind.i64 ((0 + c) * 100000000) = true) :: (inR IntKind.i64 ((0 + c) * 100000000 + b) = true) :: (inR IntKind.i64 (((0 + c) * 100000000 + b) * 100000000) = true) :: (inR IntKind.i64 (((0 + c) * 100000000 + b) * 100000000 + a) = true) :: [])))) by kernel_rfl) (AllC.cons (h1) (AllC.cons (h2) (AllC.cons (rfl) (AllC.cons (rfl) (AllC.cons (h3) (AllC.cons (decide_eq_false h4) (AllC.cons (h5) (AllC.cons (rfl) (AllC.tt 1 (AllC.cons (h6) (AllC.cons (decide_eq_false h7) (AllC.cons (rfl) (AllC.cons (h8) (AllC.tt 2 (AllC.cons (inR64.2 h9) (AllC.cons (inR64.2 h10) (AllC.cons (inR64.2 h11) (AllC.cons (inR64.2 h12) (AllC.cons (inR64.2 h13) AllC.nil)))))))))))))))))))
theorem fSmall_fc (x : List Int) (h : pSm x) : FC Tryz.prog 66 [.sq x] (smR (vl x)) := by
  have hr : pRead x := ⟨by have := h.1; omega, h.2⟩
  have f1 : pFloored 9223372036854775807 := by unfold pFloored; omega
  have f2 : pFloored (-9223372036854775808) := by unfold pFloored; omega
  have sx := h.sz
  have fx : fits (vl x) := fits_of_sz sx (by decide)
  have d1 : pDD (vl x) 9223372036854775807 := ⟨fx, fits_of_sz (k := 3) (by unfold Sz; omega) (by decide)⟩
  have d2 : pDD (vl x) (-9223372036854775808) := ⟨fx, fits_of_sz (k := 3) (by unfold Sz; omega) (by decide)⟩
  by_cases h2 : 9223372036854775807 < vl x
  · have hs : (vl x - 9223372036854775807).sign > 0 := by rw [Int.sign_eq_one_of_pos (by omega)]; decide
    have := fs0_0 x hr f1 d1 hs
    have e : ¬ inI (vl x) := fun h => by unfold inI at h; omega
    unfold smR smV
    rw [if_neg e, decide_eq_false e]
    exact this.res fun E v hv => hv.tup2 (fun _ hu => hu) (fun u hu => by cases hu; exact .lit _)
  have n2 : ¬ ((vl x - 9223372036854775807).sign > 0) := by
    rcases Int.lt_or_eq_of_le (show vl x - 9223372036854775807 ≤ 0 by omega) with hh | hh
    · rw [Int.sign_eq_neg_one_of_neg hh]; decide
    · rw [hh]; decide
  by_cases h1 : vl x < -9223372036854775808
  · have := fs0_1 x hr f1 d1 n2 f2 d2 (sgn_lt.2 (by omega))
    have e : ¬ inI (vl x) := fun h => by unfold inI at h; omega
    unfold smR smV
    rw [if_neg e, decide_eq_false e]
    exact this.res fun E v hv => hv.tup2 (fun _ hu => hu) (fun u hu => by cases hu; exact .lit _)
  have n1 : ¬ ((vl x - -9223372036854775808).sign < 0) := fun hh => by have := sgn_lt.1 hh; omega
  have hz : inI (vl x) := ⟨by omega, by omega⟩
  have lx := nform_length (vl x)
  have hdl : dl (vl x) ≤ 3 := dl_le (by unfold Sz; omega)
  have hv := nform_vl (vl x)
  have hdr := nform_drop (vl x)
  have hsg := nform_sgn (vl x)
  have fin : ∀ z : Int, z = vl x → FC Tryz.prog 66 [.sq x] (.tup [.lit (.int .i64 z), .tt]) → FC Tryz.prog 66 [.sq x] (smR (vl x)) := by
    intro z hz' hf
    unfold smR smV
    rw [if_pos hz, decide_eq_true hz, ← hz']
    exact hf.res fun E v hv => hv.tup2 (fun _ hu => hu) (fun u hu => by cases hu; exact .lit _)
  match hn : nform (vl x), lx with
  | [], _ => exact fin 0 (by rw [← hv, hn]; rfl) (fs0_2 x hr f1 d1 n2 f2 d2 n1 ⟨hn, fx⟩)
  | [a], _ =>
    rw [hn] at hv
    simp only [vl] at hv
    exact fin _ (by omega) (fs1_2 x a hr f1 d1 n2 f2 d2 n1 ⟨hn, fx⟩ (by omega))
  | [a, b], _ =>
    have s0 := hsg 0; have s1 := hsg 1
    rw [hn] at hv s0 s1
    simp only [vl, List.getD_cons_zero, List.getD_cons_succ] at hv s0 s1
    exact fin _ (by omega) (fs2_2 x a b hr f1 d1 n2 f2 d2 n1 ⟨hn, fx⟩ (by omega) (by omega) (by omega))
  | [a, b, c], _ =>
    have s0 := hsg 0; have s1 := hsg 1; have s2 := hsg 2
    rw [hn] at hv s0 s1 s2
    simp only [vl, List.getD_cons_zero, List.getD_cons_succ] at hv s0 s1 s2
    exact fin _ (by omega) (fs3_2 x a b c hr f1 d1 n2 f2 d2 n1 ⟨hn, fx⟩ (by omega) (by omega) (by omega) (by omega) (by omega))
  | a :: b :: c :: d :: l, hl => exact absurd hl (by simp; omega)

end Go.Proofs.YtcpgkgldibobeaaGreatDoor
end
