/- Part of a proof about a given program: see the last module of the claim. -/
import Derived.Test.YtloaeinogiplbaaGreatDoorD
import Derived.Test.YtloaeinogiplbaaGreatDoorC
section
open Go Go.Ev Go.RowKit
namespace Go.Proofs.YtloaeinogiplbaaGreatDoor
open Go.Proofs
set_option maxRecDepth 100000
set_option maxHeartbeats 1000000
set_option linter.unusedVariables false
set_option linter.unusedSimpArgs false
abbrev ziN (a : Int) (b : Int) : AV := .lit (.bool (decide (zaV (a.natAbs : Int) (b.natAbs : Int) < 0)))
abbrev ziO (a : Int) : AV := .lit (.bool (decide ((↑((digs a.natAbs).length) : Int) > 0)))
abbrev ziM (c d : Bool) (a b : Int) : St := ⟨sp 76 [(0, .agg [.lit (.bool c), .wd a]), (1, .agg [.lit (.bool d), .wd b]), (2, .ref 0 0), (3, .ref 1 0), (4, .ref 2 0), (5, .ref 3 0), (17, (ziN a b)), (18, .ref 0 1), (19, .wd a), (20, .ref 1 1), (21, .wd b), (22, aI (zaV (a.natAbs : Int) (b.natAbs : Int))), (23, (ziN a b)), (24, .ref 0 1), (25, .wd a), (26, .ref 3 1), (45, .ref 0 0), (46, .lit (.bool c)), (47, .tt), (48, .ref 3 1), (49, .wd a), (50, aI (↑((digs a.natAbs).length) : Int)), (51, (ziO a)), (52, (ziO a)), (53, .agg [aF, aN]), (54, .agg [aF, .wd 1]), (55, .agg [aF, .wd 1]), (56, .ref 1 1), (57, .wd b), (58, .agg [aF, .wd b]), (59, .agg [aF, .wd a]), (60, .agg [.lit (.bool (decide (-a < 0))), .wd (-a)]), (61, .agg [.lit (.bool (decide (b + -a < 0))), .wd (b + -a)]), (62, .ref 2 1), (63, .wd 1), (64, aI 1), (65, aT), (66, .tt), (67, .ref 0 0), (68, .lit (.bool c)), (69, .ref 1 0), (70, .lit (.bool d)), (71, .lit (.bool (!(c == d)))), (72, .lit (.bool (!(c == d)))), (73, .ref 2 0), (74, .agg [.lit (.bool (!(c == d))), .wd 1]), (75, .agg [.lit (.bool (decide (b + -a < 0))), .wd (b + -a)])], [.flat [.lit (.bool c), .wd a] true, .flat [.lit (.bool d), .wd b] true, .flat [.lit (.bool (!(c == d))), .wd 1] true, .flat [.lit (.bool (decide (b + -a < 0))), .wd (b + -a)] true], [3, 2, 2, 3, 2, 3]⟩
abbrev ov_0_s1 (c d : Bool) (a b : Int) : St := ⟨sp 76 [(0, .agg [.lit (.bool c), .wd a]), (1, .agg [.lit (.bool d), .wd b]), (2, .ref 0 0), (3, .ref 1 0), (4, .ref 2 0), (5, .ref 3 0), (17, (ziN a b)), (18, .ref 0 1), (19, .wd a), (20, .ref 1 1), (21, .wd b), (22, aI (zaV (a.natAbs : Int) (b.natAbs : Int))), (23, (ziN a b)), (24, .ref 0 1), (25, .wd a), (26, .ref 3 1), (45, .ref 0 0), (46, .lit (.bool c)), (47, .tt), (48, .ref 3 1), (49, .wd a), (50, aI (↑((digs a.natAbs).length) : Int)), (51, (ziO a)), (52, (ziO a)), (53, .agg [aF, aN]), (54, .agg [aF, .wd 1]), (55, .agg [aF, .wd 1])], [.flat [.lit (.bool c), .wd a] true, .flat [.lit (.bool d), .wd b] true, .flat [aF, .wd 1] true, .flat [aF, .wd a] true], [2, 3]⟩
theorem ov_0 (c d : Bool) (a b : Int) : zaf (dZ Tryz.prog zos bw) 60 133 [.agg [.lit (.bool c), .wd a], .agg [.lit (.bool d), .wd b]] [true, true, true, true] [] = some (.tup [.agg [.lit (.bool (!(c == d))), .wd 1], .agg [.lit (.bool (decide (b + -a < 0))), .wd (b + -a)]], [pDD a b, decide (zaV (a.natAbs : Int) (b.natAbs : Int) < 0) = true, c = true, decide ((↑((digs a.natAbs).length) : Int) > 0) = true, bZ 1, false = false, false = false, pDD 0 1, bZ 1, false = false, false = false, pDD 0 1, (ov_0_s1 c d a b) = (ov_0_s1 c d a b), false = decide (a < 0), True, false = decide (b < 0), decide (-a < 0) = decide (-a < 0), pDD b (-a), true = true, (ziM c d a b) = (ziM c d a b), (ziM c d a b) = (ziM c d a b)]) := by kernel_rfl
abbrev zcM : AV := .lit (Value.tuple (Array.mk []))
abbrev ziP (c d : Bool) (a b : Int) : St := ⟨sp 76 [(0, .agg [.lit (.bool c), .wd a]), (1, .agg [.lit (.bool d), .wd b]), (2, .ref 0 0), (3, .ref 1 0), (4, .ref 2 0), (5, .ref 3 0), (17, .lit (.bool (decide (zaV (a.natAbs : Int) (b.natAbs : Int) < 0)))), (18, .ref 0 1), (19, .wd a), (20, .ref 1 1), (21, .wd b), (22, aI (zaV (a.natAbs : Int) (b.natAbs : Int))), (23, .lit (.bool (decide (zaV (a.natAbs : Int) (b.natAbs : Int) < 0)))), (24, .ref 0 1), (25, .wd a), (26, .ref 3 1), (45, .ref 0 0), (46, .lit (.bool c)), (47, .ff), (48, zcM), (49, zcM), (50, zcM), (51, zcM), (52, .ff), (62, .ref 2 1), (63, aN), (64, aI 0), (65, aF), (66, .ff), (67, zcM), (68, zcM), (69, zcM), (70, zcM), (71, zcM), (72, .ff), (73, .ref 2 0), (74, .agg [.ff, aN]), (75, .agg [aF, .wd a])], [.flat [.lit (.bool c), .wd a] true, .flat [.lit (.bool d), .wd b] true, .flat [.ff, aN] true, .flat [aF, .wd a] true], [3, 2, 2, 3]⟩
theorem ov_2 (c d : Bool) (a b : Int) : zaf (dZ Tryz.prog zos bw) 60 133 [.agg [.lit (.bool c), .wd a], .agg [.lit (.bool d), .wd b]] [true, false, false] [] = some (.tup [.agg [.ff, aN], .agg [aF, .wd a]], [pDD a b, decide (zaV (a.natAbs : Int) (b.natAbs : Int) < 0) = true, c = false, false = false, (ziP c d a b) = (ziP c d a b), (ziP c d a b) = (ziP c d a b)]) := by kernel_rfl
abbrev ziR (a : Int) (b : Int) : AV := .tup [.wd (vl (digs a.natAbs) / (digs b.natAbs).getD 0 0), aI (vl (digs a.natAbs) % (digs b.natAbs).getD 0 0)]
abbrev ziS (a : Int) (b : Int) : AV := .lit (.bool (decide ((↑((digs (vl (digs a.natAbs) % (digs b.natAbs).getD 0 0).natAbs).length) : Int) > 0)))
abbrev zk0 (a : Int) (b : Int) : AV := .agg [.lit (.bool (decide (vl (digs a.natAbs) % (digs b.natAbs).getD 0 0 < 0))), .wd (vl (digs a.natAbs) % (digs b.natAbs).getD 0 0)]
abbrev zfB (a : Int) (b : Int) : AV := aI (vl (digs a.natAbs) % (digs b.natAbs).getD 0 0)
abbrev ov_3_v4 (a : Int) (b : Int) : AV := .agg [.lit (.bool (decide (b + -(vl (digs a.natAbs) % (digs b.natAbs).getD 0 0) < 0))), .wd (b + -(vl (digs a.natAbs) % (digs b.natAbs).getD 0 0))]
abbrev ov_3_v5 (a : Int) (b : Int) : AV := .agg [.lit (.bool (decide (vl (digs a.natAbs) / (digs b.natAbs).getD 0 0 + 1 < 0))), .wd (vl (digs a.natAbs) / (digs b.natAbs).getD 0 0 + 1)]
abbrev ziT (a : Int) (b : Int) : AV := .lit (.bool (decide (zaV (a.natAbs : Int) (b.natAbs : Int) < 0)))
abbrev ziU (b : Int) : AV := .lit (.bool ((↑((digs b.natAbs).length) : Int) == 1))
abbrev ov_3_v8 (a : Int) (b : Int) : AV := aI (↑((digs (vl (digs a.natAbs) % (digs b.natAbs).getD 0 0).natAbs).length) : Int)
abbrev ziQ (c d : Bool) (a b : Int) : St := ⟨sp 76 [(0, .agg [.lit (.bool c), .wd a]), (1, .agg [.lit (.bool d), .wd b]), (2, .ref 0 0), (3, .ref 1 0), (4, .ref 2 0), (5, .ref 3 0), (6, (zfB a b)), (17, (ziT a b)), (18, .ref 0 1), (19, .wd a), (20, .ref 1 1), (21, .wd b), (22, aI (zaV (a.natAbs : Int) (b.natAbs : Int))), (23, (ziT a b)), (27, (ziU b)), (28, .ref 1 1), (29, .wd b), (30, aI (↑((digs b.natAbs).length) : Int)), (31, (ziU b)), (32, (ziR a b)), (33, .ref 0 1), (34, .wd a), (35, .ref 1 1), (36, .wd b), (37, .qel (digs b.natAbs) 0), (38, aI ((digs b.natAbs).getD 0 0)), (39, (ziR a b)), (40, .wd (vl (digs a.natAbs) / (digs b.natAbs).getD 0 0)), (41, (zfB a b)), (42, .ref 2 1), (43, (zfB a b)), (44, (zk0 a b)), (45, .ref 0 0), (46, .lit (.bool c)), (47, .tt), (48, .ref 3 1), (49, .wd (vl (digs a.natAbs) % (digs b.natAbs).getD 0 0)), (50, (ov_3_v8 a b)), (51, (ziS a b)), (52, (ziS a b)), (53, .agg [aF, .wd (vl (digs a.natAbs) / (digs b.natAbs).getD 0 0)]), (54, .agg [aF, .wd 1]), (55, (ov_3_v5 a b)), (56, .ref 1 1), (57, .wd b), (58, .agg [aF, .wd b]), (59, (zk0 a b)), (60, .agg [.lit (.bool (decide (-(vl (digs a.natAbs) % (digs b.natAbs).getD 0 0) < 0))), .wd (-(vl (digs a.natAbs) % (digs b.natAbs).getD 0 0))]), (61, (ov_3_v4 a b)), (62, .ref 2 1), (63, .wd (vl (digs a.natAbs) / (digs b.natAbs).getD 0 0 + 1)), (64, aI (↑((digs (vl (digs a.natAbs) / (digs b.natAbs).getD 0 0 + 1).natAbs).length) : Int)), (65, .lit (.bool (decide ((↑((digs (vl (digs a.natAbs) / (digs b.natAbs).getD 0 0 + 1).natAbs).length) : Int) > 0)))), (66, .tt), (67, .ref 0 0), (68, .lit (.bool c)), (69, .ref 1 0), (70, .lit (.bool d)), (71, .lit (.bool (!(c == d)))), (72, .lit (.bool (!(c == d)))), (73, .ref 2 0), (74, .agg [.lit (.bool (!(c == d))), .wd (vl (digs a.natAbs) / (digs b.natAbs).getD 0 0 + 1)]), (75, (ov_3_v4 a b))], [.flat [.lit (.bool c), .wd a] true, .flat [.lit (.bool d), .wd b] true, .flat [.lit (.bool (!(c == d))), .wd (vl (digs a.natAbs) / (digs b.natAbs).getD 0 0 + 1)] true, .flat [.lit (.bool (decide (b + -(vl (digs a.natAbs) % (digs b.natAbs).getD 0 0) < 0))), .wd (b + -(vl (digs a.natAbs) % (digs b.natAbs).getD 0 0))] true], [3, 2, 2, 3, 2, 3, 2]⟩
abbrev ov_3_s1 (c d : Bool) (a b : Int) : St := ⟨sp 76 [(0, .agg [.lit (.bool c), .wd a]), (1, .agg [.lit (.bool d), .wd b]), (2, .ref 0 0), (3, .ref 1 0), (4, .ref 2 0), (5, .ref 3 0), (6, (zfB a b)), (17, (ziT a b)), (18, .ref 0 1), (19, .wd a), (20, .ref 1 1), (21, .wd b), (22, aI (zaV (a.natAbs : Int) (b.natAbs : Int))), (23, (ziT a b)), (27, (ziU b)), (28, .ref 1 1), (29, .wd b), (30, aI (↑((digs b.natAbs).length) : Int)), (31, (ziU b)), (32, (ziR a b)), (33, .ref 0 1), (34, .wd a), (35, .ref 1 1), (36, .wd b), (37, .qel (digs b.natAbs) 0), (38, aI ((digs b.natAbs).getD 0 0)), (39, (ziR a b)), (40, .wd (vl (digs a.natAbs) / (digs b.natAbs).getD 0 0)), (41, (zfB a b)), (42, .ref 2 1), (43, (zfB a b)), (44, (zk0 a b)), (45, .ref 0 0), (46, .lit (.bool c)), (47, .tt), (48, .ref 3 1), (49, .wd (vl (digs a.natAbs) % (digs b.natAbs).getD 0 0)), (50, (ov_3_v8 a b)), (51, (ziS a b)), (52, (ziS a b)), (53, .agg [aF, .wd (vl (digs a.natAbs) / (digs b.natAbs).getD 0 0)]), (54, .agg [aF, .wd 1]), (55, (ov_3_v5 a b))], [.flat [.lit (.bool c), .wd a] true, .flat [.lit (.bool d), .wd b] true, .flat [.lit (.bool (decide (vl (digs a.natAbs) / (digs b.natAbs).getD 0 0 + 1 < 0))), .wd (vl (digs a.natAbs) / (digs b.natAbs).getD 0 0 + 1)] true, .flat [.lit (.bool (decide (vl (digs a.natAbs) % (digs b.natAbs).getD 0 0 < 0))), .wd (vl (digs a.natAbs) % (digs b.natAbs).getD 0 0)] true], [2, 3, 2]⟩
theorem ov_3 (c d : Bool) (a b : Int) : zaf (dZ Tryz.prog zos bw) 60 133 [.agg [.lit (.bool c), .wd a], .agg [.lit (.bool d), .wd b]] [false, true, true, true, true] [] = some (.tup [.agg [.lit (.bool (!(c == d))), .wd (vl (digs a.natAbs) / (digs b.natAbs).getD 0 0 + 1)], .agg [.lit (.bool (decide (b + -(vl (digs a.natAbs) % (digs b.natAbs).getD 0 0) < 0))), .wd (b + -(vl (digs a.natAbs) % (digs b.natAbs).getD 0 0))]], [pDD a b, decide (zaV (a.natAbs : Int) (b.natAbs : Int) < 0) = false, ((↑((digs b.natAbs).length) : Int) == 1) = true, true = true, decide (0 < (↑((digs b.natAbs).length) : Int)) = true, decide (0 < (digs b.natAbs).length) = true, zf7 (digs a.natAbs) ((digs b.natAbs).getD 0 0), bZ (vl (digs a.natAbs) % (digs b.natAbs).getD 0 0), c = true, decide ((↑((digs (vl (digs a.natAbs) % (digs b.natAbs).getD 0 0).natAbs).length) : Int) > 0) = true, bZ 1, false = decide (vl (digs a.natAbs) / (digs b.natAbs).getD 0 0 < 0), false = false, pDD (vl (digs a.natAbs) / (digs b.natAbs).getD 0 0) 1, bZ 1, false = decide (vl (digs a.natAbs) / (digs b.natAbs).getD 0 0 < 0), false = false, pDD (vl (digs a.natAbs) / (digs b.natAbs).getD 0 0) 1, (ov_3_s1 c d a b) = (ov_3_s1 c d a b), decide (vl (digs a.natAbs) % (digs b.natAbs).getD 0 0 < 0) = decide (vl (digs a.natAbs) % (digs b.natAbs).getD 0 0 < 0), True, false = decide (b < 0), decide (-(vl (digs a.natAbs) % (digs b.natAbs).getD 0 0) < 0) = decide (-(vl (digs a.natAbs) % (digs b.natAbs).getD 0 0) < 0), pDD b (-(vl (digs a.natAbs) % (digs b.natAbs).getD 0 0)), decide ((↑((digs (vl (digs a.natAbs) / (digs b.natAbs).getD 0 0 + 1).natAbs).length) : Int) > 0) = true, (ziQ c d a b) = (ziQ c d a b), (ziQ c d a b) = (ziQ c d a b)]) := by kernel_rfl
abbrev ov_5_v0 (a : Int) (b : Int) : AV := .agg [.lit (.bool (decide (vl (digs a.natAbs) % (digs b.natAbs).getD 0 0 < 0))), .wd (vl (digs a.natAbs) % (digs b.natAbs).getD 0 0)]
abbrev ov_5_v1 (a : Int) (b : Int) : AV := .tup [.wd (vl (digs a.natAbs) / (digs b.natAbs).getD 0 0), aI (vl (digs a.natAbs) % (digs b.natAbs).getD 0 0)]
abbrev ov_5_v2 (a : Int) (b : Int) : AV := .lit (.bool (decide ((↑((digs (vl (digs a.natAbs) % (digs b.natAbs).getD 0 0).natAbs).length) : Int) > 0)))
abbrev zk1 (a : Int) (b : Int) : AV := aI (vl (digs a.natAbs) % (digs b.natAbs).getD 0 0)
abbrev ziV (c d : Bool) (a b : Int) : St := ⟨sp 76 [(0, .agg [.lit (.bool c), .wd a]), (1, .agg [.lit (.bool d), .wd b]), (2, .ref 0 0), (3, .ref 1 0), (4, .ref 2 0), (5, .ref 3 0), (6, (zk1 a b)), (17, .lit (.bool (decide (zaV (a.natAbs : Int) (b.natAbs : Int) < 0)))), (18, .ref 0 1), (19, .wd a), (20, .ref 1 1), (21, .wd b), (22, aI (zaV (a.natAbs : Int) (b.natAbs : Int))), (23, .lit (.bool (decide (zaV (a.natAbs : Int) (b.natAbs : Int) < 0)))), (27, .lit (.bool ((↑((digs b.natAbs).length) : Int) == 1))), (28, .ref 1 1), (29, .wd b), (30, aI (↑((digs b.natAbs).length) : Int)), (31, .lit (.bool ((↑((digs b.natAbs).length) : Int) == 1))), (32, (ov_5_v1 a b)), (33, .ref 0 1), (34, .wd a), (35, .ref 1 1), (36, .wd b), (37, .qel (digs b.natAbs) 0), (38, aI ((digs b.natAbs).getD 0 0)), (39, (ov_5_v1 a b)), (40, .wd (vl (digs a.natAbs) / (digs b.natAbs).getD 0 0)), (41, (zk1 a b)), (42, .ref 2 1), (43, (zk1 a b)), (44, (ov_5_v0 a b)), (45, .ref 0 0), (46, .lit (.bool c)), (47, .tt), (48, .ref 3 1), (49, .wd (vl (digs a.natAbs) % (digs b.natAbs).getD 0 0)), (50, aI (↑((digs (vl (digs a.natAbs) % (digs b.natAbs).getD 0 0).natAbs).length) : Int)), (51, (ov_5_v2 a b)), (52, (ov_5_v2 a b)), (62, .ref 2 1), (63, .wd (vl (digs a.natAbs) / (digs b.natAbs).getD 0 0)), (64, aI (↑((digs (vl (digs a.natAbs) / (digs b.natAbs).getD 0 0).natAbs).length) : Int)), (65, .lit (.bool (decide ((↑((digs (vl (digs a.natAbs) / (digs b.natAbs).getD 0 0).natAbs).length) : Int) > 0)))), (66, .tt), (67, .ref 0 0), (68, .lit (.bool c)), (69, .ref 1 0), (70, .lit (.bool d)), (71, .lit (.bool (!(c == d)))), (72, .lit (.bool (!(c == d)))), (73, .ref 2 0), (74, .agg [.lit (.bool (!(c == d))), .wd (vl (digs a.natAbs) / (digs b.natAbs).getD 0 0)]), (75, (ov_5_v0 a b))], [.flat [.lit (.bool c), .wd a] true, .flat [.lit (.bool d), .wd b] true, .flat [.lit (.bool (!(c == d))), .wd (vl (digs a.natAbs) / (digs b.natAbs).getD 0 0)] true, .flat [.lit (.bool (decide (vl (digs a.natAbs) % (digs b.natAbs).getD 0 0 < 0))), .wd (vl (digs a.natAbs) % (digs b.natAbs).getD 0 0)] true], [3, 2, 2, 3, 2]⟩
theorem ov_5 (c d : Bool) (a b : Int) : zaf (dZ Tryz.prog zos bw) 60 133 [.agg [.lit (.bool c), .wd a], .agg [.lit (.bool d), .wd b]] [false, true, true, false, true] [] = some (.tup [.agg [.lit (.bool (!(c == d))), .wd (vl (digs a.natAbs) / (digs b.natAbs).getD 0 0)], .agg [.lit (.bool (decide (vl (digs a.natAbs) % (digs b.natAbs).getD 0 0 < 0))), .wd (vl (digs a.natAbs) % (digs b.natAbs).getD 0 0)]], [pDD a b, decide (zaV (a.natAbs : Int) (b.natAbs : Int) < 0) = false, ((↑((digs b.natAbs).length) : Int) == 1) = true, true = true, decide (0 < (↑((digs b.natAbs).length) : Int)) = true, decide (0 < (digs b.natAbs).length) = true, zf7 (digs a.natAbs) ((digs b.natAbs).getD 0 0), bZ (vl (digs a.natAbs) % (digs b.natAbs).getD 0 0), c = true, decide ((↑((digs (vl (digs a.natAbs) % (digs b.natAbs).getD 0 0).natAbs).length) : Int) > 0) = false, decide ((↑((digs (vl (digs a.natAbs) / (digs b.natAbs).getD 0 0).natAbs).length) : Int) > 0) = true, (ziV c d a b) = (ziV c d a b), (ziV c d a b) = (ziV c d a b)]) := by kernel_rfl
abbrev ov_7_v0 (a : Int) (b : Int) : AV := .agg [.lit (.bool (decide (vl (digs a.natAbs) % (digs b.natAbs).getD 0 0 < 0))), .wd (vl (digs a.natAbs) % (digs b.natAbs).getD 0 0)]
abbrev ov_7_v1 (a : Int) (b : Int) : AV := .tup [.wd (vl (digs a.natAbs) / (digs b.natAbs).getD 0 0), aI (vl (digs a.natAbs) % (digs b.natAbs).getD 0 0)]
abbrev zk2 (a : Int) (b : Int) : AV := aI (vl (digs a.natAbs) % (digs b.natAbs).getD 0 0)
abbrev ziX : AV := .lit (Value.tuple (Array.mk []))
abbrev ziW (c d : Bool) (a b : Int) : St := ⟨sp 76 [(0, .agg [.lit (.bool c), .wd a]), (1, .agg [.lit (.bool d), .wd b]), (2, .ref 0 0), (3, .ref 1 0), (4, .ref 2 0), (5, .ref 3 0), (6, (zk2 a b)), (17, .lit (.bool (decide (zaV (a.natAbs : Int) (b.natAbs : Int) < 0)))), (18, .ref 0 1), (19, .wd a), (20, .ref 1 1), (21, .wd b), (22, aI (zaV (a.natAbs : Int) (b.natAbs : Int))), (23, .lit (.bool (decide (zaV (a.natAbs : Int) (b.natAbs : Int) < 0)))), (27, .lit (.bool ((↑((digs b.natAbs).length) : Int) == 1))), (28, .ref 1 1), (29, .wd b), (30, aI (↑((digs b.natAbs).length) : Int)), (31, .lit (.bool ((↑((digs b.natAbs).length) : Int) == 1))), (32, (ov_7_v1 a b)), (33, .ref 0 1), (34, .wd a), (35, .ref 1 1), (36, .wd b), (37, .qel (digs b.natAbs) 0), (38, aI ((digs b.natAbs).getD 0 0)), (39, (ov_7_v1 a b)), (40, .wd (vl (digs a.natAbs) / (digs b.natAbs).getD 0 0)), (41, (zk2 a b)), (42, .ref 2 1), (43, (zk2 a b)), (44, (ov_7_v0 a b)), (45, .ref 0 0), (46, .lit (.bool c)), (47, .ff), (48, ziX), (49, ziX), (50, ziX), (51, ziX), (52, .ff), (62, .ref 2 1), (63, .wd (vl (digs a.natAbs) / (digs b.natAbs).getD 0 0)), (64, aI (↑((digs (vl (digs a.natAbs) / (digs b.natAbs).getD 0 0).natAbs).length) : Int)), (65, .lit (.bool (decide ((↑((digs (vl (digs a.natAbs) / (digs b.natAbs).getD 0 0).natAbs).length) : Int) > 0)))), (66, .tt), (67, .ref 0 0), (68, .lit (.bool c)), (69, .ref 1 0), (70, .lit (.bool d)), (71, .lit (.bool (!(c == d)))), (72, .lit (.bool (!(c == d)))), (73, .ref 2 0), (74, .agg [.lit (.bool (!(c == d))), .wd (vl (digs a.natAbs) / (digs b.natAbs).getD 0 0)]), (75, (ov_7_v0 a b))], [.flat [.lit (.bool c), .wd a] true, .flat [.lit (.bool d), .wd b] true, .flat [.lit (.bool (!(c == d))), .wd (vl (digs a.natAbs) / (digs b.natAbs).getD 0 0)] true, .flat [.lit (.bool (decide (vl (digs a.natAbs) % (digs b.natAbs).getD 0 0 < 0))), .wd (vl (digs a.natAbs) % (digs b.natAbs).getD 0 0)] true], [3, 2, 2, 3, 2]⟩
theorem ov_7 (c d : Bool) (a b : Int) : zaf (dZ Tryz.prog zos bw) 60 133 [.agg [.lit (.bool c), .wd a], .agg [.lit (.bool d), .wd b]] [false, true, false, true] [] = some (.tup [.agg [.lit (.bool (!(c == d))), .wd (vl (digs a.natAbs) / (digs b.natAbs).getD 0 0)], .agg [.lit (.bool (decide (vl (digs a.natAbs) % (digs b.natAbs).getD 0 0 < 0))), .wd (vl (digs a.natAbs) % (digs b.natAbs).getD 0 0)]], [pDD a b, decide (zaV (a.natAbs : Int) (b.natAbs : Int) < 0) = false, ((↑((digs b.natAbs).length) : Int) == 1) = true, true = true, decide (0 < (↑((digs b.natAbs).length) : Int)) = true, decide (0 < (digs b.natAbs).length) = true, zf7 (digs a.natAbs) ((digs b.natAbs).getD 0 0), bZ (vl (digs a.natAbs) % (digs b.natAbs).getD 0 0), c = false, decide ((↑((digs (vl (digs a.natAbs) / (digs b.natAbs).getD 0 0).natAbs).length) : Int) > 0) = true, (ziW c d a b) = (ziW c d a b), (ziW c d a b) = (ziW c d a b)]) := by kernel_rfl
abbrev ziZ (a : Int) (b : Int) : AV := .lit (.bool (decide ((↑((digs ((a.natAbs : Int) % (b.natAbs : Int)).natAbs).length) : Int) > 0)))
abbrev zi0 (a : Int) (b : Int) : AV := .tup [.wd ((a.natAbs : Int) / (b.natAbs : Int)), .wd ((a.natAbs : Int) % (b.natAbs : Int))]
abbrev zi1 (a : Int) (b : Int) : AV := .lit (.bool (decide (zaV (a.natAbs : Int) (b.natAbs : Int) < 0)))
abbrev ov_9_v3 (a : Int) (b : Int) : AV := .agg [.lit (.bool (decide (b + -((a.natAbs : Int) % (b.natAbs : Int)) < 0))), .wd (b + -((a.natAbs : Int) % (b.natAbs : Int)))]
abbrev zi2 (b : Int) : AV := .lit (.bool ((↑((digs b.natAbs).length) : Int) == 1))
abbrev zi3 (a : Int) (b : Int) : AV := .wd ((a.natAbs : Int) % (b.natAbs : Int))
abbrev ov_9_v6 (a : Int) (b : Int) : AV := aI (↑((digs ((a.natAbs : Int) % (b.natAbs : Int)).natAbs).length) : Int)
abbrev ziY (c d : Bool) (a b : Int) : St := ⟨sp 76 [(0, .agg [.lit (.bool c), .wd a]), (1, .agg [.lit (.bool d), .wd b]), (2, .ref 0 0), (3, .ref 1 0), (4, .ref 2 0), (5, .ref 3 0), (7, (zi0 a b)), (8, .ref 0 1), (9, .wd a), (10, .ref 1 1), (11, .wd b), (12, (zi0 a b)), (13, .wd ((a.natAbs : Int) / (b.natAbs : Int))), (14, (zi3 a b)), (15, .ref 2 1), (16, .ref 3 1), (17, (zi1 a b)), (18, .ref 0 1), (19, .wd a), (20, .ref 1 1), (21, .wd b), (22, aI (zaV (a.natAbs : Int) (b.natAbs : Int))), (23, (zi1 a b)), (27, (zi2 b)), (28, .ref 1 1), (29, .wd b), (30, aI (↑((digs b.natAbs).length) : Int)), (31, (zi2 b)), (45, .ref 0 0), (46, .lit (.bool c)), (47, .tt), (48, .ref 3 1), (49, (zi3 a b)), (50, (ov_9_v6 a b)), (51, (ziZ a b)), (52, (ziZ a b)), (53, .agg [aF, .wd ((a.natAbs : Int) / (b.natAbs : Int))]), (54, .agg [aF, .wd 1]), (55, .agg [aF, .wd ((a.natAbs : Int) / (b.natAbs : Int) + 1)]), (56, .ref 1 1), (57, .wd b), (58, .agg [aF, .wd b]), (59, .agg [aF, .wd ((a.natAbs : Int) % (b.natAbs : Int))]), (60, .agg [.lit (.bool (decide (-((a.natAbs : Int) % (b.natAbs : Int)) < 0))), .wd (-((a.natAbs : Int) % (b.natAbs : Int)))]), (61, (ov_9_v3 a b)), (62, .ref 2 1), (63, .wd ((a.natAbs : Int) / (b.natAbs : Int) + 1)), (64, aI (↑((digs ((a.natAbs : Int) / (b.natAbs : Int) + 1).natAbs).length) : Int)), (65, .lit (.bool (decide ((↑((digs ((a.natAbs : Int) / (b.natAbs : Int) + 1).natAbs).length) : Int) > 0)))), (66, .tt), (67, .ref 0 0), (68, .lit (.bool c)), (69, .ref 1 0), (70, .lit (.bool d)), (71, .lit (.bool (!(c == d)))), (72, .lit (.bool (!(c == d)))), (73, .ref 2 0), (74, .agg [.lit (.bool (!(c == d))), .wd ((a.natAbs : Int) / (b.natAbs : Int) + 1)]), (75, (ov_9_v3 a b))], [.flat [.lit (.bool c), .wd a] true, .flat [.lit (.bool d), .wd b] true, .flat [.lit (.bool (!(c == d))), .wd ((a.natAbs : Int) / (b.natAbs : Int) + 1)] true, .flat [.lit (.bool (decide (b + -((a.natAbs : Int) % (b.natAbs : Int)) < 0))), .wd (b + -((a.natAbs : Int) % (b.natAbs : Int)))] true], [3, 2, 2, 3, 2, 3, 2]⟩
abbrev ov_9_s1 (c d : Bool) (a b : Int) : St := ⟨sp 76 [(0, .agg [.lit (.bool c), .wd a]), (1, .agg [.lit (.bool d), .wd b]), (2, .ref 0 0), (3, .ref 1 0), (4, .ref 2 0), (5, .ref 3 0), (7, (zi0 a b)), (8, .ref 0 1), (9, .wd a), (10, .ref 1 1), (11, .wd b), (12, (zi0 a b)), (13, .wd ((a.natAbs : Int) / (b.natAbs : Int))), (14, (zi3 a b)), (15, .ref 2 1), (16, .ref 3 1), (17, (zi1 a b)), (18, .ref 0 1), (19, .wd a), (20, .ref 1 1), (21, .wd b), (22, aI (zaV (a.natAbs : Int) (b.natAbs : Int))), (23, (zi1 a b)), (27, (zi2 b)), (28, .ref 1 1), (29, .wd b), (30, aI (↑((digs b.natAbs).length) : Int)), (31, (zi2 b)), (45, .ref 0 0), (46, .lit (.bool c)), (47, .tt), (48, .ref 3 1), (49, (zi3 a b)), (50, (ov_9_v6 a b)), (51, (ziZ a b)), (52, (ziZ a b)), (53, .agg [aF, .wd ((a.natAbs : Int) / (b.natAbs : Int))]), (54, .agg [aF, .wd 1]), (55, .agg [aF, .wd ((a.natAbs : Int) / (b.natAbs : Int) + 1)])], [.flat [.lit (.bool c), .wd a] true, .flat [.lit (.bool d), .wd b] true, .flat [aF, .wd ((a.natAbs : Int) / (b.natAbs : Int) + 1)] true, .flat [aF, .wd ((a.natAbs : Int) % (b.natAbs : Int))] true], [2, 3, 2]⟩
theorem ov_9 (c d : Bool) (a b : Int) : zaf (dZ Tryz.prog zos bw) 60 133 [.agg [.lit (.bool c), .wd a], .agg [.lit (.bool d), .wd b]] [false, false, true, true, true] [] = some (.tup [.agg [.lit (.bool (!(c == d))), .wd ((a.natAbs : Int) / (b.natAbs : Int) + 1)], .agg [.lit (.bool (decide (b + -((a.natAbs : Int) % (b.natAbs : Int)) < 0))), .wd (b + -((a.natAbs : Int) % (b.natAbs : Int)))]], [pDD a b, decide (zaV (a.natAbs : Int) (b.natAbs : Int) < 0) = false, ((↑((digs b.natAbs).length) : Int) == 1) = false, zmZ a b, c = true, decide ((↑((digs ((a.natAbs : Int) % (b.natAbs : Int)).natAbs).length) : Int) > 0) = true, bZ 1, false = decide ((a.natAbs : Int) / (b.natAbs : Int) < 0), false = false, pDD ((a.natAbs : Int) / (b.natAbs : Int)) 1, bZ 1, false = decide ((a.natAbs : Int) / (b.natAbs : Int) < 0), false = false, pDD ((a.natAbs : Int) / (b.natAbs : Int)) 1, (ov_9_s1 c d a b) = (ov_9_s1 c d a b), false = decide ((a.natAbs : Int) % (b.natAbs : Int) < 0), True, false = decide (b < 0), decide (-((a.natAbs : Int) % (b.natAbs : Int)) < 0) = decide (-((a.natAbs : Int) % (b.natAbs : Int)) < 0), pDD b (-((a.natAbs : Int) % (b.natAbs : Int))), decide ((↑((digs ((a.natAbs : Int) / (b.natAbs : Int) + 1).natAbs).length) : Int) > 0) = true, (ziY c d a b) = (ziY c d a b), (ziY c d a b) = (ziY c d a b)]) := by kernel_rfl
abbrev zlN (a : Int) (b : Int) : AV := .lit (.bool (decide ((↑((digs ((a.natAbs : Int) % (b.natAbs : Int)).natAbs).length) : Int) > 0)))
abbrev zlO (a : Int) (b : Int) : AV := .tup [.wd ((a.natAbs : Int) / (b.natAbs : Int)), .wd ((a.natAbs : Int) % (b.natAbs : Int))]
abbrev zgr (c d : Bool) (a b : Int) : St := ⟨sp 76 [(0, .agg [.lit (.bool c), .wd a]), (1, .agg [.lit (.bool d), .wd b]), (2, .ref 0 0), (3, .ref 1 0), (4, .ref 2 0), (5, .ref 3 0), (7, (zlO a b)), (8, .ref 0 1), (9, .wd a), (10, .ref 1 1), (11, .wd b), (12, (zlO a b)), (13, .wd ((a.natAbs : Int) / (b.natAbs : Int))), (14, .wd ((a.natAbs : Int) % (b.natAbs : Int))), (15, .ref 2 1), (16, .ref 3 1), (17, .lit (.bool (decide (zaV (a.natAbs : Int) (b.natAbs : Int) < 0)))), (18, .ref 0 1), (19, .wd a), (20, .ref 1 1), (21, .wd b), (22, aI (zaV (a.natAbs : Int) (b.natAbs : Int))), (23, .lit (.bool (decide (zaV (a.natAbs : Int) (b.natAbs : Int) < 0)))), (27, .lit (.bool ((↑((digs b.natAbs).length) : Int) == 1))), (28, .ref 1 1), (29, .wd b), (30, aI (↑((digs b.natAbs).length) : Int)), (31, .lit (.bool ((↑((digs b.natAbs).length) : Int) == 1))), (45, .ref 0 0), (46, .lit (.bool c)), (47, .tt), (48, .ref 3 1), (49, .wd ((a.natAbs : Int) % (b.natAbs : Int))), (50, aI (↑((digs ((a.natAbs : Int) % (b.natAbs : Int)).natAbs).length) : Int)), (51, (zlN a b)), (52, (zlN a b)), (62, .ref 2 1), (63, .wd ((a.natAbs : Int) / (b.natAbs : Int))), (64, aI (↑((digs ((a.natAbs : Int) / (b.natAbs : Int)).natAbs).length) : Int)), (65, .lit (.bool (decide ((↑((digs ((a.natAbs : Int) / (b.natAbs : Int)).natAbs).length) : Int) > 0)))), (66, .tt), (67, .ref 0 0), (68, .lit (.bool c)), (69, .ref 1 0), (70, .lit (.bool d)), (71, .lit (.bool (!(c == d)))), (72, .lit (.bool (!(c == d)))), (73, .ref 2 0), (74, .agg [.lit (.bool (!(c == d))), .wd ((a.natAbs : Int) / (b.natAbs : Int))]), (75, .agg [aF, .wd ((a.natAbs : Int) % (b.natAbs : Int))])], [.flat [.lit (.bool c), .wd a] true, .flat [.lit (.bool d), .wd b] true, .flat [.lit (.bool (!(c == d))), .wd ((a.natAbs : Int) / (b.natAbs : Int))] true, .flat [aF, .wd ((a.natAbs : Int) % (b.natAbs : Int))] true], [3, 2, 2, 3, 2]⟩
theorem ov_11 (c d : Bool) (a b : Int) : zaf (dZ Tryz.prog zos bw) 60 133 [.agg [.lit (.bool c), .wd a], .agg [.lit (.bool d), .wd b]] [false, false, true, false, true] [] = some (.tup [.agg [.lit (.bool (!(c == d))), .wd ((a.natAbs : Int) / (b.natAbs : Int))], .agg [aF, .wd ((a.natAbs : Int) % (b.natAbs : Int))]], [pDD a b, decide (zaV (a.natAbs : Int) (b.natAbs : Int) < 0) = false, ((↑((digs b.natAbs).length) : Int) == 1) = false, zmZ a b, c = true, decide ((↑((digs ((a.natAbs : Int) % (b.natAbs : Int)).natAbs).length) : Int) > 0) = false, decide ((↑((digs ((a.natAbs : Int) / (b.natAbs : Int)).natAbs).length) : Int) > 0) = true, (zgr c d a b) = (zgr c d a b), (zgr c d a b) = (zgr c d a b)]) := by kernel_rfl
abbrev zlP (a : Int) (b : Int) : AV := .tup [.wd ((a.natAbs : Int) / (b.natAbs : Int)), .wd ((a.natAbs : Int) % (b.natAbs : Int))]
abbrev zgt : AV := .lit (Value.tuple (Array.mk []))
abbrev zgs (c d : Bool) (a b : Int) : St := ⟨sp 76 [(0, .agg [.lit (.bool c), .wd a]), (1, .agg [.lit (.bool d), .wd b]), (2, .ref 0 0), (3, .ref 1 0), (4, .ref 2 0), (5, .ref 3 0), (7, (zlP a b)), (8, .ref 0 1), (9, .wd a), (10, .ref 1 1), (11, .wd b), (12, (zlP a b)), (13, .wd ((a.natAbs : Int) / (b.natAbs : Int))), (14, .wd ((a.natAbs : Int) % (b.natAbs : Int))), (15, .ref 2 1), (16, .ref 3 1), (17, .lit (.bool (decide (zaV (a.natAbs : Int) (b.natAbs : Int) < 0)))), (18, .ref 0 1), (19, .wd a), (20, .ref 1 1), (21, .wd b), (22, aI (zaV (a.natAbs : Int) (b.natAbs : Int))), (23, .lit (.bool (decide (zaV (a.natAbs : Int) (b.natAbs : Int) < 0)))), (27, .lit (.bool ((↑((digs b.natAbs).length) : Int) == 1))), (28, .ref 1 1), (29, .wd b), (30, aI (↑((digs b.natAbs).length) : Int)), (31, .lit (.bool ((↑((digs b.natAbs).length) : Int) == 1))), (45, .ref 0 0), (46, .lit (.bool c)), (47, .ff), (48, zgt), (49, zgt), (50, zgt), (51, zgt), (52, .ff), (62, .ref 2 1), (63, .wd ((a.natAbs : Int) / (b.natAbs : Int))), (64, aI (↑((digs ((a.natAbs : Int) / (b.natAbs : Int)).natAbs).length) : Int)), (65, .lit (.bool (decide ((↑((digs ((a.natAbs : Int) / (b.natAbs : Int)).natAbs).length) : Int) > 0)))), (66, .tt), (67, .ref 0 0), (68, .lit (.bool c)), (69, .ref 1 0), (70, .lit (.bool d)), (71, .lit (.bool (!(c == d)))), (72, .lit (.bool (!(c == d)))), (73, .ref 2 0), (74, .agg [.lit (.bool (!(c == d))), .wd ((a.natAbs : Int) / (b.natAbs : Int))]), (75, .agg [aF, .wd ((a.natAbs : Int) % (b.natAbs : Int))])], [.flat [.lit (.bool c), .wd a] true, .flat [.lit (.bool d), .wd b] true, .flat [.lit (.bool (!(c == d))), .wd ((a.natAbs : Int) / (b.natAbs : Int))] true, .flat [aF, .wd ((a.natAbs : Int) % (b.natAbs : Int))] true], [3, 2, 2, 3, 2]⟩
theorem ov_13 (c d : Bool) (a b : Int) : zaf (dZ Tryz.prog zos bw) 60 133 [.agg [.lit (.bool c), .wd a], .agg [.lit (.bool d), .wd b]] [false, false, false, true] [] = some (.tup [.agg [.lit (.bool (!(c == d))), .wd ((a.natAbs : Int) / (b.natAbs : Int))], .agg [aF, .wd ((a.natAbs : Int) % (b.natAbs : Int))]], [pDD a b, decide (zaV (a.natAbs : Int) (b.natAbs : Int) < 0) = false, ((↑((digs b.natAbs).length) : Int) == 1) = false, zmZ a b, c = false, decide ((↑((digs ((a.natAbs : Int) / (b.natAbs : Int)).natAbs).length) : Int) > 0) = true, (zgs c d a b) = (zgs c d a b), (zgs c d a b) = (zgs c d a b)]) := by kernel_rfl
theorem cmpW_0 (a b : Int) : zaf (dZ Tryz.prog zos bw) 60 125 [W a, W b] [] [] = some (aI (a + -b).sign, [decide (b < 0) = decide (b < 0), True, decide (a < 0) = decide (a < 0), decide (-b < 0) = decide (-b < 0), pDD a (-b), decide (a + -b < 0) = decide (a + -b < 0), True]) := by kernel_rfl
theorem zcJ {a b : Int} (h : zaE b) (hab : a.natAbs ≤ b.natAbs) : zaE a := by
  unfold zaE dl at *
  have := zlI hab
  omega
theorem fits1 : zaE 1 := by unfold zaE dl; decide
theorem Rd_sgW {E : Env} {s : Bool} {m z : Int} {v : Value} (hs : s = decide (z < 0)) (hm : m.natAbs = z.natAbs) (h : Rd E (.agg [.lit (.bool s), .wd m]) v) : Rd E (W z) v :=
  h.toW (l := digs m.natAbs) rfl rfl hs (by rw [hm])
theorem over_nn (na nb : Bool) (a b : Int) (ha : 0 ≤ a) (hb : 0 < b) (hna : na = true → 0 < a) (hfa : zaE a) (hfb : zaE b) :
    FC Tryz.prog 133 [.agg [.lit (.bool na), .wd a], .agg [.lit (.bool nb), .wd b]]
      (.tup [W ((if na then -a else a) / (if nb then -b else b)), W ((if na then -a else a) % (if nb then -b else b))]) := by
  have haa : (a.natAbs : Int) = a := by omega
  have hbb : (b.natAbs : Int) = b := by omega
  have hQ0 : 0 ≤ a / b := Int.ediv_nonneg ha (by omega)
  have hR0 : 0 ≤ a % b := Int.emod_nonneg _ (by omega)
  have hR1 : a % b < b := Int.emod_lt_of_pos _ hb
  have hdm := Int.mul_ediv_add_emod a b
  have hQle : a / b ≤ a := Int.ediv_le_self _ ha
  have hfQ : zaE (a / b) := zcJ hfa (by omega)
  have hfR : zaE (a % b) := zcJ hfb (by omega)
  have hP : pDD a b := ⟨hfa, hfb⟩
  have hP1 : pDD (a / b) 1 := ⟨hfQ, fits1⟩
  have hqn : false = decide (a / b < 0) := by simp; omega
  have hrn : false = decide (a % b < 0) := by simp; omega
  have hbn : false = decide (b < 0) := by simp; omega
  have han : false = decide (a < 0) := by simp; omega
  have hpf1 : bZ 1 := by unfold bZ; decide
  have hvla : vl (digs a.natAbs) = a := by rw [zae, haa]
  have hfR2 : zaE (-(a % b)) := zcJ hfb (by omega)
  have hP3 : pDD b (-(a % b)) := ⟨hfb, hfR2⟩
  have hpos : (a / b = a / b) ∧ True := ⟨rfl, trivial⟩
  have neg1 : 0 < a % b → (-a) / b = -(a / b + 1) ∧ (-a) % b = b - a % b := fun h =>
    (Int.ediv_emod_unique hb).2 ⟨by rw [Int.mul_neg, Int.mul_add, Int.mul_one]; omega, by omega, by omega⟩
  have neg0 : a % b = 0 → (-a) / b = -(a / b) ∧ (-a) % b = 0 := fun h =>
    (Int.ediv_emod_unique hb).2 ⟨by rw [Int.mul_neg]; omega, by omega, by omega⟩
  have fin : ∀ (s : Bool) (m r : Int), 0 ≤ m → (m = 0 → s = false) → (if na then -a else a) / b = (if na then -m else m) → (if na then -a else a) % b = r → (s = (!(na == nb)) ∨ m = 0) →
      ∀ (E : Env) (v : Value) (sr : Bool), sr = decide (r < 0) → Rd E (.tup [.agg [.lit (.bool s), .wd m], .agg [.lit (.bool sr), .wd r]]) v →
        Rd E (.tup [W ((if na then -a else a) / (if nb then -b else b)), W ((if na then -a else a) % (if nb then -b else b))]) v := by
    intro s m r hm hm0 h1 h2 hs E v sr hsr hv
    refine hv.tup2 (fun u hu => Rd_sgW ?_ ?_ hu) (fun u hu => Rd_sgW ?_ ?_ hu)
    · by_cases hmz : m = 0
      · rw [hm0 hmz]
        cases nb
        · simp only [Bool.false_eq_true, if_false]
          rw [h1, hmz]; cases na <;> simp
        · simp only [if_true]
          rw [Int.ediv_neg, h1, hmz]; cases na <;> simp
      · rcases hs with hs | hs
        · rw [hs]
          cases nb
          · simp only [Bool.false_eq_true, if_false]
            rw [h1]; cases na <;> simp <;> omega
          · simp only [if_true]
            rw [Int.ediv_neg, h1]; cases na <;> simp <;> omega
        · exact absurd hs hmz
    · cases nb
      · simp only [Bool.false_eq_true, if_false]
        rw [h1]; cases na <;> simp
      · simp only [if_true]
        rw [Int.ediv_neg, h1]; cases na <;> simp
    · cases nb
      · simp only [Bool.false_eq_true, if_false]; rw [h2]; exact hsr
      · simp only [if_true]; rw [Int.emod_neg, h2]; exact hsr
    · cases nb
      · simp only [Bool.false_eq_true, if_false]; rw [h2]
      · simp only [if_true]; rw [Int.emod_neg, h2]
  have hsr0 : ∀ r : Int, 0 ≤ r → false = decide (r < 0) := fun r h => by simp; omega
  by_cases hab : a < b
  · -- the dividend is the smaller one
    have hq : a / b = 0 := Int.ediv_eq_zero_of_lt ha hab
    have hr : a % b = a := Int.emod_eq_of_lt ha hab
    have hcmp : zaV a b = -1 := by unfold zaV; rw [if_pos hab]
    cases na with
    | true =>
      have ha0 := hna rfl
      have hp := zbZ (show a ≠ 0 by omega)
      have hP0 : pDD 0 1 := ⟨zcJ fits1 (by decide), fits1⟩
      have hfa2 : zaE (-a) := zcJ hfa (by omega)
      have hP4 : pDD b (-a) := ⟨hfb, hfa2⟩
      have := jZ ok9 (ov_0 true nb a b) (by
        rw [haa, hbb, hcmp]
        exact (by (repeat' (first | exact AllC.nil | refine AllC.cons ?_ ?_)); all_goals (first | exact fZ | ((with_reducible refine inR64.2 ?_); omega) | (with_reducible refine pFl ?_ ?_ <;> omega) | ((with_reducible refine decide_eq_true ?_); omega) | ((with_reducible refine decide_eq_false ?_); omega) | omega | (simp [] <;> omega) | assumption | rfl)))
      have h1 := neg1 (by omega)
      rw [hq, hr] at h1
      refine this.res fun E v hv => fin _ 1 (b + -a) (by omega) (by omega) (by simpa using h1.1) (by simpa using (by have := h1.2; omega : (-a) % b = b + -a)) (.inl rfl) E v _ rfl hv
    | false =>
      have := jZ ok9 (ov_2 false nb a b) (by
        rw [haa, hbb, hcmp]
        exact (by (repeat' (first | exact AllC.nil | refine AllC.cons ?_ ?_)); all_goals (first | exact fZ | ((with_reducible refine inR64.2 ?_); omega) | (with_reducible refine pFl ?_ ?_ <;> omega) | ((with_reducible refine decide_eq_true ?_); omega) | ((with_reducible refine decide_eq_false ?_); omega) | omega | (simp [] <;> omega) | assumption | rfl)))
      refine this.res fun E v hv => fin false 0 a (by omega) (fun _ => rfl) (by simpa using hq) (by simpa using hr) (.inr rfl) E v false (hsr0 a ha) ?_
      exact hv.tup2 (fun u hu => hu.agg2 (fun w hw => by cases hw; exact .lit _) (fun w hw => hw.toWd (l := []) rfl rfl)) (fun u hu => hu)
  · have hcmp : decide (zaV a b < 0) = false := by unfold zaV; rw [if_neg hab]; split <;> rfl
    have hQ1 : 1 ≤ a / b := (Int.le_ediv_iff_mul_le hb).2 (by omega)
    have hQp := zbZ (show a / b ≠ 0 by omega)
    have hQp1 := zbZ (show a / b + 1 ≠ 0 by omega)
    by_cases h1 : (digs b.natAbs).length = 1
    · -- one digit
      have hd0 : (digs b.natAbs).getD 0 0 = b := by
        have hv := zae b.natAbs
        match hq : digs b.natAbs, h1 with
        | [d], _ => rw [hq] at hv; simp only [vl] at hv; show d = b; omega
      have hbd := (LZ (pZ b.natAbs) 0).2
      rw [hd0] at hbd
      have hps : zf7 (digs a.natAbs) b := ⟨pZ _, by unfold zaE dl at hfa; omega, hb, by omega⟩
      have hpf : bZ (a % b) := ⟨by omega, by omega⟩
      cases na with
      | true =>
        by_cases hr : a % b = 0
        · have hrz : (digs (a % b).natAbs).length = 0 := by rw [hr]; rfl
          have := jZ ok9 (ov_5 true nb a b) (by
            simp only [haa, hbb, hcmp, hvla, hd0]
            exact (by (repeat' (first | exact AllC.nil | refine AllC.cons ?_ ?_)); all_goals (first | exact fZ | ((with_reducible refine inR64.2 ?_); omega) | (with_reducible refine pFl ?_ ?_ <;> omega) | ((with_reducible refine decide_eq_true ?_); omega) | ((with_reducible refine decide_eq_false ?_); omega) | omega | (simp [h1] <;> omega) | assumption | rfl)))
          simp only [hvla, hd0] at this
          have h2 := neg0 hr
          refine this.res fun E v hv => fin _ (a / b) (a % b) hQ0 (by omega) (by simpa using h2.1) (by rw [hr]; simpa using h2.2) (.inl rfl) E v _ rfl hv
        · have hrp := zbZ hr
          have := jZ ok9 (ov_3 true nb a b) (by
            simp only [haa, hbb, hcmp, hvla, hd0]
            exact (by (repeat' (first | exact AllC.nil | refine AllC.cons ?_ ?_)); all_goals (first | exact fZ | ((with_reducible refine inR64.2 ?_); omega) | (with_reducible refine pFl ?_ ?_ <;> omega) | ((with_reducible refine decide_eq_true ?_); omega) | ((with_reducible refine decide_eq_false ?_); omega) | omega | (simp [h1] <;> omega) | assumption | rfl)))
          simp only [hvla, hd0] at this
          have h2 := neg1 (by omega)
          refine this.res fun E v hv => fin _ (a / b + 1) (b + -(a % b)) (by omega) (by omega) (by simpa using h2.1) (by have := h2.2; simp only [if_true]; omega) (.inl rfl) E v _ rfl hv
      | false =>
        have := jZ ok9 (ov_7 false nb a b) (by
          simp only [haa, hbb, hcmp, hvla, hd0]
          exact (by (repeat' (first | exact AllC.nil | refine AllC.cons ?_ ?_)); all_goals (first | exact fZ | ((with_reducible refine inR64.2 ?_); omega) | (with_reducible refine pFl ?_ ?_ <;> omega) | ((with_reducible refine decide_eq_true ?_); omega) | ((with_reducible refine decide_eq_false ?_); omega) | omega | (simp [h1] <;> omega) | assumption | rfl)))
        simp only [hvla, hd0] at this
        refine this.res fun E v hv => fin _ (a / b) (a % b) hQ0 (by omega) (by simp) (by simp) (.inl rfl) E v _ rfl hv
    · have hpb := zbZ (show b ≠ 0 by omega)
      have hpl : zmZ a b := ⟨by omega, hfa, hfb, by omega⟩
      cases na with
      | true =>
        by_cases hr : a % b = 0
        · have hrz : (digs (a % b).natAbs).length = 0 := by rw [hr]; rfl
          have := jZ ok9 (ov_11 true nb a b) (by
            simp only [haa, hbb, hcmp]
            exact (by (repeat' (first | exact AllC.nil | refine AllC.cons ?_ ?_)); all_goals (first | exact fZ | ((with_reducible refine inR64.2 ?_); omega) | (with_reducible refine pFl ?_ ?_ <;> omega) | ((with_reducible refine decide_eq_true ?_); omega) | ((with_reducible refine decide_eq_false ?_); omega) | omega | (simp [h1] <;> omega) | assumption | rfl)))
          simp only [haa, hbb] at this
          have h2 := neg0 hr
          refine this.res fun E v hv => fin _ (a / b) (a % b) hQ0 (by omega) (by simpa using h2.1) (by rw [hr]; simpa using h2.2) (.inl rfl) E v _ hrn hv
        · have hrp := zbZ hr
          have := jZ ok9 (ov_9 true nb a b) (by
            simp only [haa, hbb, hcmp]
            exact (by (repeat' (first | exact AllC.nil | refine AllC.cons ?_ ?_)); all_goals (first | exact fZ | ((with_reducible refine inR64.2 ?_); omega) | (with_reducible refine pFl ?_ ?_ <;> omega) | ((with_reducible refine decide_eq_true ?_); omega) | ((with_reducible refine decide_eq_false ?_); omega) | omega | (simp [h1] <;> omega) | assumption | rfl)))
          simp only [haa, hbb] at this
          have h2 := neg1 (by omega)
          refine this.res fun E v hv => fin _ (a / b + 1) (b + -(a % b)) (by omega) (by omega) (by simpa using h2.1) (by have := h2.2; simp only [if_true]; omega) (.inl rfl) E v _ rfl hv
      | false =>
        have := jZ ok9 (ov_13 false nb a b) (by
          simp only [haa, hbb, hcmp]
          exact (by (repeat' (first | exact AllC.nil | refine AllC.cons ?_ ?_)); all_goals (first | exact fZ | ((with_reducible refine inR64.2 ?_); omega) | (with_reducible refine pFl ?_ ?_ <;> omega) | ((with_reducible refine decide_eq_true ?_); omega) | ((with_reducible refine decide_eq_false ?_); omega) | omega | (simp [h1] <;> omega) | assumption | rfl)))
        simp only [haa, hbb] at this
        refine this.res fun E v hv => fin _ (a / b) (a % b) hQ0 (by omega) (by simp) (by simp) (.inl rfl) E v _ hrn hv
end Go.Proofs.YtloaeinogiplbaaGreatDoor
end
section
open Go Go.Ev
namespace Go.Proofs.YtloaeinogiplbaaGreatDoor
open Go.Proofs
abbrev GC (a b : Int) : St := ⟨sp 20 [(2, .ref 0 0), (3, .ref 1 0), (4, .ref 2 0)], [.flat [.lit (.bool (decide (a < 0))), .wd a] true, .flat [.lit (.bool (decide (b < 0))), .wd b] true, .flat [.lit (.bool false), .lit (.slice none 0 0)] true], [0, 1]⟩
def zbS (a b : Int) : Prop := b ≠ 0 ∧ zaE a ∧ zaE b
instance tstOver {a b : Int} : Tst (zbS a b) := inferInstanceAs (Tst (b ≠ 0 ∧ zaE a ∧ zaE b))
theorem hpos (x : Int) (h : decide (x < 0) = true) : 0 < (x.natAbs : Int) := by
  have : x < 0 := by simpa using h
  omega
theorem over_fc (x y : Int) (h : zbS x y) : FC Tryz.prog 133 [W x, W y] (.tup [W (x / y), W (x % y)]) := by
  obtain ⟨hy, hx, hfy⟩ := h
  have := over_nn (decide (x < 0)) (decide (y < 0)) (x.natAbs : Int) (y.natAbs : Int) (by omega) (by omega) (fun h => hpos x h) (zcJ hx (by simp)) (zcJ hfy (by simp))
  have e1 : (if decide (x < 0) = true then -(x.natAbs : Int) else (x.natAbs : Int)) = x := by
    by_cases h : x < 0
    · rw [if_pos (by simpa using h)]; omega
    · rw [if_neg (by simpa using h)]; omega
  have e2 : (if decide (y < 0) = true then -(y.natAbs : Int) else (y.natAbs : Int)) = y := by
    by_cases h : y < 0
    · rw [if_pos (by simpa using h)]; omega
    · rw [if_neg (by simpa using h)]; omega
  rw [e1, e2] at this
  exact this.arg2 (fun E v h => h.agg2 (fun _ h => h) (fun _ h => Rd.natAbs (by simp) h)) (fun E v h => h.agg2 (fun _ h => h) (fun _ h => Rd.natAbs (by simp) h))
theorem cmpW_fc (a b : Int) (h : pDD a b) : FC Tryz.prog 125 [W a, W b] (.lit (.int .i64 (a - b).sign)) := by
  have hb : pDD a (-b) := ⟨h.1, zcJ h.2 (by omega)⟩
  have := jZ ok9 (cmpW_0 a b) (by (repeat' (first | exact AllC.nil | refine AllC.cons ?_ ?_)); all_goals (first | exact fZ | ((with_reducible refine inR64.2 ?_); omega) | (with_reducible refine pFl ?_ ?_ <;> omega) | ((with_reducible refine decide_eq_true ?_); omega) | ((with_reducible refine decide_eq_false ?_); omega) | omega | (simp [] <;> omega) | assumption | rfl))
  rw [show a + -b = a - b by omega] at this
  exact this
def zmC : Ctr := (133, c2 zbS (fun a b => .tup [W (a / b), W (a % b)])) :: (125, c2 pDD (fun a b => .lit (.int .i64 (a - b).sign))) :: zos
theorem zjz : ∀ p ∈ zmC, tZ Tryz.prog p.1 p.2 := CAll.cons (c2_ok over_fc) <| CAll.cons (c2_ok cmpW_fc) zlv
theorem ok10 : (dZ Tryz.prog zmC bw).OK := QZ zjz
end Go.Proofs.YtloaeinogiplbaaGreatDoor
end
section
open Go Go.Ev Go.RowKit
namespace Go.Proofs.YtloaeinogiplbaaGreatDoor
open Go.Proofs
set_option maxRecDepth 100000
set_option maxHeartbeats 1000000
set_option linter.unusedVariables false
set_option linter.unusedSimpArgs false
theorem gcL_0 (a b : Int) : za3 (dZ Tryz.prog zmC bw) 60 (eZ Tryz.prog 165 0) 3 [] [2, 3, 4] [0, 1] (GC a b) [true] [] = some (Ex.normal, ⟨sp 20 [(2, .ref 0 0), (3, .ref 1 0), (4, .ref 2 0)], [.flat [aD b, .wd b] true, .flat [.lit (.bool (decide (a % b < 0))), .wd (a % b)] true, .flat [aF, aN] true], [0, 1]⟩, [decide (b < 0) = decide (b < 0), True, (b.sign != 0) = true, decide (a < 0) = decide (a < 0), decide (b < 0) = decide (b < 0), zbS a b]) := by kernel_rfl
theorem gcL_1 (a b : Int) : za3 (dZ Tryz.prog zmC bw) 60 (eZ Tryz.prog 165 0) 3 [] [2, 3, 4] [0, 1] (GC a b) [false] [] = some (Ex.exit 0, ⟨sp 20 [(2, .ref 0 0), (3, .ref 1 0), (4, .ref 2 0)], [.flat [aD a, .wd a] true, .flat [aD b, .wd b] true, .flat [aF, aN] true], [0, 1]⟩, [decide (b < 0) = decide (b < 0), True, (b.sign != 0) = false]) := by kernel_rfl
abbrev zgm (a b : Int) : St := ⟨sp 20 [(2, .ref 0 0), (3, .ref 1 0), (4, .ref 2 0)], [.flat [aD a, .wd a] true, .flat [aD b, .wd b] true, .flat [aF, aN] true], [0, 1]⟩
abbrev zlG (g : Int) : St := ⟨sp 20 [(2, .ref 0 0), (3, .ref 1 0), (4, .ref 2 0)], [.flat [aD g, .wd g] true, .flat [aF, .wd 0] true, .flat [aF, aN] true], [0, 1]⟩
theorem gcf_0 (a b g : Int) : zaf (dZ Tryz.prog zmC bw) 60 165 [W a, W b] [] [some (wZ Tryz.prog (eZ Tryz.prog 165 0) [] [2,3,4] [0,1] (GC a b) (.exit 0, GC g 0))] = some (.agg [.ff, .wd g], [IZ Tryz.prog (eZ Tryz.prog 165 0) (wZ Tryz.prog (eZ Tryz.prog 165 0) [] [2, 3, 4] [0, 1] (zgm a b) (Ex.exit 0, (zlG g))), (zgm a b) = (zgm a b), Loops 3 Tryz.prog (eZ Tryz.prog 165 0) (zgm a b) (Ex.exit 0, (zlG g))]) := by kernel_rfl
theorem zlF (a b : Int) : Int.gcd b (a % b) = Int.gcd a b := by
  have h := Int.mul_ediv_add_emod a b
  refine Nat.dvd_antisymm (Int.dvd_gcd ?_ ?_) (Int.dvd_gcd ?_ ?_)
  · have h1 := Int.gcd_dvd_left b (a % b)
    have h2 := Int.gcd_dvd_right b (a % b)
    have h3 := Int.dvd_add (Int.dvd_mul_of_dvd_left (c := a / b) h1) h2
    rwa [h] at h3
  · exact Int.gcd_dvd_left b (a % b)
  · exact Int.gcd_dvd_right a b
  · have h1 := Int.gcd_dvd_left a b
    have h2 := Int.gcd_dvd_right a b
    have h3 := Int.dvd_sub h1 (Int.dvd_mul_of_dvd_left (c := a / b) h2)
    have e : a - b * (a / b) = a % b := by omega
    rwa [e] at h3
theorem gcdL : ∀ (m : Nat) (a b : Int), b.natAbs ≤ m → zaE a → zaE b →
    ∃ g : Int, g.natAbs = Int.gcd a b ∧ Loops 3 Tryz.prog (eZ Tryz.prog 165 0) (GC a b) (.exit 0, GC g 0) := by
  intro m
  induction m with
  | zero =>
    intro a b hb ha hfb
    obtain rfl : b = 0 := by omega
    exact ⟨a, (Int.gcd_zero_right a).symm, Loops.fin (LS.of ok10 (gcL_1 a 0) (by (repeat' (first | exact AllC.nil | refine AllC.cons ?_ ?_)); all_goals (first | exact fZ | ((with_reducible refine inR64.2 ?_); omega) | (with_reducible refine pFl ?_ ?_ <;> omega) | ((with_reducible refine decide_eq_true ?_); omega) | ((with_reducible refine decide_eq_false ?_); omega) | omega | (simp [] <;> omega) | assumption | rfl))) (by simp [Ex.toExit])⟩
  | succ m ih =>
    intro a b hb ha hfb
    by_cases h0 : b = 0
    · subst h0
      exact ⟨a, (Int.gcd_zero_right a).symm, Loops.fin (LS.of ok10 (gcL_1 a 0) (by (repeat' (first | exact AllC.nil | refine AllC.cons ?_ ?_)); all_goals (first | exact fZ | ((with_reducible refine inR64.2 ?_); omega) | (with_reducible refine pFl ?_ ?_ <;> omega) | ((with_reducible refine decide_eq_true ?_); omega) | ((with_reducible refine decide_eq_false ?_); omega) | omega | (simp [] <;> omega) | assumption | rfl))) (by simp [Ex.toExit])⟩
    · have hs : (Int.sign b != 0) = true := by
        rw [bne_iff_ne]; intro h; exact h0 (Int.sign_eq_zero_iff_zero.1 h)
      have hp : zbS a b := ⟨h0, ha, hfb⟩
      have h := LS.of ok10 (gcL_0 a b) (by (repeat' (first | exact AllC.nil | refine AllC.cons ?_ ?_)); all_goals (first | exact fZ | ((with_reducible refine inR64.2 ?_); omega) | (with_reducible refine pFl ?_ ?_ <;> omega) | ((with_reducible refine decide_eq_true ?_); omega) | ((with_reducible refine decide_eq_false ?_); omega) | omega | (simp [] <;> omega) | assumption | rfl))
      have hr0 := Int.emod_nonneg a h0
      have hr1 : a % b < b.natAbs := Int.emod_lt a h0
      obtain ⟨g, h1, h2⟩ := ih b (a % b) (by omega) hfb (zcJ hfb (by omega))
      exact ⟨g, by rw [h1, zlF], Loops.go h h2⟩
theorem common_fc (a b : Int) (h : pDD a b) : FC Tryz.prog 165 [W a, W b] (W (Int.gcd a b : Int)) := by
  obtain ⟨g, h1, h2⟩ := gcdL b.natAbs a b (Nat.le_refl _) h.1 h.2
  have := jZ ok10 (gcf_0 a b g) (.cons fZ (.cons rfl (.cons h2 .nil)))
  exact this.res fun E v hv => hv.toW (b := false) (l := digs g.natAbs) rfl rfl (by simp) (by rw [h1]; simp)
def za9 : Ctr := (165, c2 pDD (fun a b => W (Int.gcd a b : Int))) :: zmC
theorem zez : ∀ p ∈ za9, tZ Tryz.prog p.1 p.2 := CAll.cons (c2_ok common_fc) zjz
theorem zha : (dZ Tryz.prog za9 bw).OK := QZ zez
abbrev RT (l : List Int) (n : Int) : St := ⟨sp 23 [(0, .sq l), (3, .lit (.int .i64 n))], [], []⟩
theorem rsp_0 (n : Int) : zaf (dZ Tryz.prog za9 bw) 60 182 [.lit (.int .i64 n)] [true] [] = some (.tup [aI (Int.tdiv n 100000000 - 1), aI (Int.tmod n 100000000 + 100000000)], [true = true, inR .i64 (Int.tdiv n 100000000) = true, true = true, decide (Int.tmod n 100000000 < 0) = true, inR .i64 (Int.tdiv n 100000000 - 1) = true, inR .i64 (Int.tmod n 100000000 + 100000000) = true]) := by kernel_rfl
theorem rsp_1 (n : Int) : zaf (dZ Tryz.prog za9 bw) 60 182 [.lit (.int .i64 n)] [false] [] = some (.tup [aI (Int.tdiv n 100000000), aI (Int.tmod n 100000000)], [true = true, inR .i64 (Int.tdiv n 100000000) = true, true = true, decide (Int.tmod n 100000000 < 0) = false]) := by kernel_rfl
theorem rtl_0 (l : List Int) (n : Int) : za3 (dZ Tryz.prog za9 bw) 60 (eZ Tryz.prog 183 0) 0 [] [0, 3] [] (RT l n) [true, true] [] = some (Ex.normal, ⟨sp 23 [(0, .sq l), (3, aI (n - 1))], [], []⟩, [decide (n > 0) = true, inR .i64 (n - 1) = true, decide (0 ≤ n - 1) = true, decide (n - 1 < (l.length : Int)) = true, decide ((n - 1).toNat < l.length) = true, (l.getD (n - 1).toNat 0 == 0) = true, inR .i64 (n - 1) = true]) := by kernel_rfl
theorem rtl_1 (l : List Int) (n : Int) : za3 (dZ Tryz.prog za9 bw) 60 (eZ Tryz.prog 183 0) 0 [] [0, 3] [] (RT l n) [true, false] [] = some (Ex.exit 0, ⟨sp 23 [(0, .sq l), (3, aI n)], [], []⟩, [decide (n > 0) = true, inR .i64 (n - 1) = true, decide (0 ≤ n - 1) = true, decide (n - 1 < (l.length : Int)) = true, decide ((n - 1).toNat < l.length) = true, (l.getD (n - 1).toNat 0 == 0) = false]) := by kernel_rfl
theorem rtl_2 (l : List Int) (n : Int) : za3 (dZ Tryz.prog za9 bw) 60 (eZ Tryz.prog 183 0) 0 [] [0, 3] [] (RT l n) [false] [] = some (Ex.exit 0, ⟨sp 23 [(0, .sq l), (3, aI n)], [], []⟩, [decide (n > 0) = false]) := by kernel_rfl
theorem rtf_0 (l : List Int) (n : Int) : zaf (dZ Tryz.prog za9 bw) 60 183 [.sq l] [] [some (wZ Tryz.prog (eZ Tryz.prog 183 0) [] [0,3] [] (RT l (l.length : Int)) (.exit 0, RT l n))] = some (.sq ((List.take 0 [] ++ (l.take n.toNat).drop 0).take (0 + ((l.take n.toNat).drop 0).length)), [IZ Tryz.prog (eZ Tryz.prog 183 0) (wZ Tryz.prog (eZ Tryz.prog 183 0) [] [0, 3] [] ⟨sp 23 [(0, .sq l), (3, aI (l.length : Int))], [], []⟩ (Ex.exit 0, ⟨sp 23 [(0, .sq l), (3, aI n)], [], []⟩)), (⟨sp 23 [(0, .sq l), (3, aI (l.length : Int))], [], []⟩ : St) = ⟨sp 23 [(0, .sq l), (3, aI (l.length : Int))], [], []⟩, Loops 0 Tryz.prog (eZ Tryz.prog 183 0) ⟨sp 23 [(0, .sq l), (3, aI (l.length : Int))], [], []⟩ (Ex.exit 0, ⟨sp 23 [(0, .sq l), (3, aI n)], [], []⟩), true = true, decide (0 ≤ n) = true, decide (n ≤ (l.length : Int)) = true, decide ((0 + ((l.take n.toNat).drop 0).length) * 8 ≤ 140737488355328) = true, decide (0 + ((l.take n.toNat).drop 0).length ≤ 4611686018427387904) = true, true = true, decide (((l.take n.toNat).drop 0).length = ((l.take n.toNat).drop 0).length) = true, 0 + ((l.take n.toNat).drop 0).length ≤ (List.take 0 [] ++ (l.take n.toNat).drop 0).length]) := by kernel_rfl
theorem rsplit_fc (n : Int) (h : bZ n) : FC Tryz.prog 182 [.lit (.int .i64 n)] (zgz n) := by
  obtain ⟨h1, h2⟩ := h
  have ht := Int.mul_tdiv_add_tmod n 100000000
  by_cases hn : Int.tmod n 100000000 < 0
  · have hp : n < 0 := by
      rcases Int.lt_or_le n 0 with h | h
      · exact h
      · have := Int.tmod_nonneg 100000000 h; omega
    have hb : -100000000 < Int.tmod n 100000000 := by
      have := Int.lt_tmod_of_pos n (show (0 : Int) < 100000000 by decide); omega
    have e1 : Int.tdiv n 100000000 - 1 = n / 100000000 := by omega
    have e2 : Int.tmod n 100000000 + 100000000 = n % 100000000 := by omega
    have := jZ zha (rsp_0 n) (.cons (by simp) (.cons (inR64.2 (by omega)) (.cons (by simp) (.cons (by simpa using hn) (.cons (inR64.2 (by omega)) (.cons (inR64.2 (by omega)) .nil))))))
    rw [e1, e2] at this
    exact this
  · have hb : Int.tmod n 100000000 < 100000000 := Int.tmod_lt_of_pos n (by decide)
    have e1 : Int.tdiv n 100000000 = n / 100000000 := by omega
    have e2 : Int.tmod n 100000000 = n % 100000000 := by omega
    have := jZ zha (rsp_1 n) (.cons (by simp) (.cons (inR64.2 (by omega)) (.cons (by simp) (.cons (by simpa using hn) .nil))))
    rw [e1, e2] at this
    exact this
theorem zet (l : List Int) (hs : l.length ≤ 1048576) : ∀ (n : Nat), n ≤ l.length → ∃ m : Nat, m ≤ n ∧ l.take m = trm (l.take n) ∧ Loops 0 Tryz.prog (eZ Tryz.prog 183 0) (RT l n) (.exit 0, RT l m)
  | 0, _ => ⟨0, Nat.le_refl _, by simp [trm], Loops.fin (LS.of zha (rtl_2 l 0) (.cons (by simp) .nil)) (by simp [Ex.toExit])⟩
  | n + 1, hn => by
    have hnat : Int.toNat (((n + 1 : Nat) : Int) - 1) = n := by omega
    have hc : ((n + 1 : Nat) : Int) - 1 = (n : Int) := by omega
    have hlt : n < l.length := by omega
    have hg : l.getD n 0 = l[n] := by simp [List.getD, hlt]
    by_cases hd : l.getD n 0 = 0
    · have hx : (l.getD n 0 == 0) = true := by rw [hd]; rfl
      obtain ⟨m, h1, h2, h3⟩ := zet l hs n (by omega)
      have h := LS.of zha (rtl_0 l (n + 1 : Nat)) (by rw [hnat]; (repeat' (first | exact AllC.nil | refine AllC.cons ?_ ?_)); all_goals (first | (with_reducible exact hx) | (with_reducible exact inR64.2 (by omega)) | (refine decide_eq_true ?_; omega)))
      rw [hc] at h
      refine ⟨m, by omega, ?_, Loops.go h h3⟩
      rw [List.take_succ_eq_append_getElem hlt, ← hg, hd, zgL, h2]
    · have hx : (l.getD n 0 == 0) = false := by simpa using hd
      have h := LS.of zha (rtl_1 l (n + 1 : Nat)) (by rw [hnat]; (repeat' (first | exact AllC.nil | refine AllC.cons ?_ ?_)); all_goals (first | (with_reducible exact hx) | (with_reducible exact inR64.2 (by omega)) | (refine decide_eq_true ?_; omega)))
      refine ⟨n + 1, Nat.le_refl _, ?_, Loops.fin h (by simp [Ex.toExit])⟩
      rw [List.take_succ_eq_append_getElem hlt, ← hg, zc2 _ _ hd]
def pTr (l : List Int) : Prop := l.length ≤ 1048576
theorem rtrim_fc (l : List Int) (h : pTr l) : FC Tryz.prog 183 [.sq l] (.sq (trm l)) := by
  obtain ⟨m, h1, h2, h3⟩ := zet l h l.length (Nat.le_refl _)
  rw [List.take_length] at h2
  have hn : Int.toNat (m : Int) = m := by omega
  have e := rtf_0 l m
  rw [hn] at e
  have := jZ zha e (by (repeat' (first | exact AllC.nil | refine AllC.cons ?_ ?_)); all_goals (first | (with_reducible exact fZ) | (with_reducible exact h3) | (with_reducible rfl) | (unfold pTr at h; refine decide_eq_true ?_; simp <;> omega) | (unfold pTr at h; simp <;> omega) | (simp; done)))
  have e2 : List.take (0 + List.length (List.drop 0 (List.take m l))) (List.take 0 [] ++ List.drop 0 (List.take m l)) = trm l := by simp [h2]
  rw [e2] at this
  exact this
def zkM : Ctr := (183, cL pTr (fun x => .sq (trm x))) :: (182, cI bZ zgz) :: za9
theorem zjB : ∀ p ∈ zkM, tZ Tryz.prog p.1 p.2 := CAll.cons (zhG rtrim_fc) <| CAll.cons (cI_ok rsplit_fc) zez
theorem okF1o : (dZ Tryz.prog zkM bw [183]).OK := QZ zjB
abbrev RG (b : Bool) (n : Nat) (q : List Int) (i : Int) : St := ⟨sp 27 [(1, .lit (.bool b)), (5, .own 1 0 n 1), (6, .lit (.int .i64 i))], [.dead, .ints q true], [1, 0]⟩
theorem rsl_0 (b : Bool) (n : Nat) (q : List Int) (i : Int) : za3 (dZ Tryz.prog zkM bw [183]) 60 (eZ Tryz.prog 179 0) 2 [] [1, 5, 6] [1, 0] (RG b n q i) [true, true] [] = some (Ex.normal, ⟨sp 27 [(1, .lit (.bool b)), (5, .own 1 0 n 1), (6, aI (i + 1))], [.dead, .ints (q.set (0 + i.toNat * 1) (0 - q.getD (0 + i.toNat * 1) 0)) true], [1, 0]⟩, [decide (i < (n : Int)) = true, b = true, decide (0 ≤ i) = true, decide (i < (n : Int)) = true, decide (0 + i.toNat * 1 < q.length) = true, inR .i64 (0 - q.getD (0 + i.toNat * 1) 0) = true, decide (0 ≤ i) = true, decide (i < (n : Int)) = true, decide (0 + i.toNat * 1 < q.length) = true, inR .i64 (i + 1) = true]) := by kernel_rfl
theorem rsl_1 (b : Bool) (n : Nat) (q : List Int) (i : Int) : za3 (dZ Tryz.prog zkM bw [183]) 60 (eZ Tryz.prog 179 0) 2 [] [1, 5, 6] [1, 0] (RG b n q i) [true, false] [] = some (Ex.exit 0, ⟨sp 27 [(1, .lit (.bool b)), (5, .own 1 0 n 1), (6, aI i)], [.dead, .ints q true], [1, 0]⟩, [decide (i < (n : Int)) = true, b = false]) := by kernel_rfl
theorem rsl_2 (b : Bool) (n : Nat) (q : List Int) (i : Int) : za3 (dZ Tryz.prog zkM bw [183]) 60 (eZ Tryz.prog 179 0) 2 [] [1, 5, 6] [1, 0] (RG b n q i) [false] [] = some (Ex.exit 0, ⟨sp 27 [(1, .lit (.bool b)), (5, .own 1 0 n 1), (6, aI i)], [.dead, .ints q true], [1, 0]⟩, [decide (i < (n : Int)) = false]) := by kernel_rfl
theorem rsf_0 (l : List Int) (n N : Nat) (b : Bool) (q : List Int) (i : Int) : zaf (dZ Tryz.prog zkM bw [183]) 60 179 [.sq l, .lit (.bool b)] [] [none, some (wZ Tryz.prog (eZ Tryz.prog 183 0) [] [0,3] [] (RT l (l.length : Int)) (.exit 0, RT l n)), some (wZ Tryz.prog (eZ Tryz.prog 179 0) [] [1,5,6] [1,0] (RG b N (l.take n) 0) (.exit 0, RG b N q i))] = some (.sq (q.take N), [IZ Tryz.prog (eZ Tryz.prog 183 0) (wZ Tryz.prog (eZ Tryz.prog 183 0) [] [0, 3] [] ⟨sp 23 [(0, .sq l), (3, aI (l.length : Int))], [], []⟩ (Ex.exit 0, ⟨sp 23 [(0, .sq l), (3, aI (n : Int))], [], []⟩)), (⟨sp 23 [(0, .sq l), (3, aI (l.length : Int))], [], []⟩ : St) = ⟨sp 23 [(0, .sq l), (3, aI (l.length : Int))], [], []⟩, Loops 0 Tryz.prog (eZ Tryz.prog 183 0) ⟨sp 23 [(0, .sq l), (3, aI (l.length : Int))], [], []⟩ (Ex.exit 0, ⟨sp 23 [(0, .sq l), (3, aI (n : Int))], [], []⟩), true = true, decide (0 ≤ (n : Int)) = true, decide ((n : Int) ≤ (l.length : Int)) = true, decide ((0 + ((l.take (n : Int).toNat).drop 0).length) * 8 ≤ 140737488355328) = true, decide (0 + ((l.take (n : Int).toNat).drop 0).length ≤ 4611686018427387904) = true, true = true, decide (((l.take (n : Int).toNat).drop 0).length = ((l.take (n : Int).toNat).drop 0).length) = true, IZ Tryz.prog (eZ Tryz.prog 179 0) (wZ Tryz.prog (eZ Tryz.prog 179 0) [] [1, 5, 6] [1, 0] ⟨sp 27 [(1, .lit (.bool b)), (5, .own 1 0 N 1), (6, aI 0)], [.dead, .ints (l.take n) true], [1, 0]⟩ (Ex.exit 0, ⟨sp 27 [(1, .lit (.bool b)), (5, .own 1 0 N 1), (6, aI i)], [.dead, .ints q true], [1, 0]⟩)), (⟨sp 27 [(1, .lit (.bool b)), (5, .own 1 0 (0 + ((l.take (n : Int).toNat).drop 0).length) 1), (6, aI 0)], [.dead, .ints (List.take 0 [] ++ (l.take (n : Int).toNat).drop 0) true], [1, 0]⟩ : St) = ⟨sp 27 [(1, .lit (.bool b)), (5, .own 1 0 N 1), (6, aI 0)], [.dead, .ints (l.take n) true], [1, 0]⟩, Loops 2 Tryz.prog (eZ Tryz.prog 179 0) ⟨sp 27 [(1, .lit (.bool b)), (5, .own 1 0 N 1), (6, aI 0)], [.dead, .ints (l.take n) true], [1, 0]⟩ (Ex.exit 0, ⟨sp 27 [(1, .lit (.bool b)), (5, .own 1 0 N 1), (6, aI i)], [.dead, .ints q true], [1, 0]⟩), N ≤ q.length]) := by kernel_rfl
theorem rs_loop (N : Nat) (hN : N ≤ 1048576) : ∀ (suf pre : List Int), pre.length + suf.length = N → (∀ d ∈ suf, -9223372036854775807 ≤ d ∧ d ≤ 9223372036854775807) →
    Loops 2 Tryz.prog (eZ Tryz.prog 179 0) (RG true N (pre ++ suf) pre.length) (.exit 0, RG true N (pre ++ suf.map fun d => -d) N)
  | [], pre, hl, _ => by
    have e : pre.length = N := by simpa using hl
    rw [e]
    exact Loops.fin (LS.of okF1o (rsl_2 true N (pre ++ []) N) (.cons (by simp) .nil)) (by simp [Ex.toExit])
  | d :: suf, pre, hl, hd => by
    have hl' : pre.length + (suf.length + 1) = N := by simpa using hl
    have hnat : 0 + Int.toNat (pre.length : Int) * 1 = pre.length := by omega
    have hg : (pre ++ d :: suf).getD pre.length 0 = d := by simp [List.getD]
    have hs : (pre ++ d :: suf).set pre.length (0 - d) = (pre ++ [-d]) ++ suf := by
      rw [List.set_append_right _ _ (Nat.le_refl _), Nat.sub_self, List.set_cons_zero, Int.zero_sub]; simp
    have hdd := hd d (by simp)
    have h := LS.of okF1o (rsl_0 true N (pre ++ d :: suf) pre.length) (by rw [hnat, hg]; (repeat' (first | exact AllC.nil | refine AllC.cons ?_ ?_)); all_goals (first | (with_reducible rfl) | (with_reducible exact inR64.2 (by omega)) | (refine decide_eq_true ?_; first | omega | (simp <;> omega))))
    rw [hnat, hg, hs] at h
    have k := rs_loop N hN suf (pre ++ [-d]) (by simp; omega) (fun x hx => hd x (by simp [hx]))
    have e1 : ((pre ++ [-d]).length : Int) = (pre.length : Int) + 1 := by simp
    have e2 : (pre ++ [-d]) ++ suf.map (fun d => -d) = pre ++ (d :: suf).map fun d => -d := by simp
    rw [e1, e2] at k
    exact Loops.go h k
def pSg (l : List Int) : Prop := l.length ≤ 1048576 ∧ ∀ d ∈ l, -9223372036854775807 ≤ d ∧ d ≤ 9223372036854775807
def zkn (b : Bool) (l : List Int) : List Int := match b with | true => (trm l).map fun d => -d | false => trm l
theorem zok (l : List Int) (b : Bool) (h : pSg l) : FC Tryz.prog 179 [.sq l, .lit (.bool b)] (.sq (zkn b l)) := by
  obtain ⟨h0, hd⟩ := h
  obtain ⟨m, h1, h2, h3⟩ := zet l h0 l.length (Nat.le_refl _)
  rw [List.take_length] at h2
  have hlen : (l.take m).length = m := by rw [List.length_take]; omega
  have hm : ∀ d ∈ l.take m, -9223372036854775807 ≤ d ∧ d ≤ 9223372036854775807 := fun d hx => hd d (List.mem_of_mem_take hx)
  have hn : Int.toNat (m : Int) = m := by omega
  have key : ∃ (q : List Int) (i : Int), q.take m = zkn b l ∧ Loops 2 Tryz.prog (eZ Tryz.prog 179 0) (RG b m (l.take m) 0) (.exit 0, RG b m q i) ∧ q.length = m := by
    cases b with
    | true => exact ⟨(l.take m).map fun d => -d, m, by rw [List.take_of_length_le (by simp; omega), h2]; rfl, rs_loop m (by omega) (l.take m) [] (by simpa using hlen) hm, by simp; omega⟩
    | false =>
      refine ⟨l.take m, 0, by rw [List.take_of_length_le (by omega), h2]; rfl, ?_, hlen⟩
      by_cases hz : m = 0
      · subst hz; exact Loops.fin (LS.of okF1o (rsl_2 false 0 (l.take 0) 0) (.cons (by simp) .nil)) (by simp [Ex.toExit])
      · exact Loops.fin (LS.of okF1o (rsl_1 false m (l.take m) 0) (.cons (decide_eq_true (by omega)) (.cons rfl .nil))) (by simp [Ex.toExit])
  obtain ⟨q, i, k1, k2, k3⟩ := key
  have e := rsf_0 l m m b q i
  rw [hn] at e
  have e0 : 0 + List.length (List.drop 0 (List.take m l)) = m := by simp; omega
  have e1 : List.take 0 [] ++ List.drop 0 (List.take m l) = l.take m := by simp
  rw [e0, e1] at e
  have := jZ okF1o e (by (repeat' (first | exact AllC.nil | refine AllC.cons ?_ ?_)); all_goals (first | (with_reducible exact fZ) | (with_reducible exact h3) | (with_reducible exact k2) | (with_reducible rfl) | (refine decide_eq_true ?_; simp <;> omega) | omega | (simp <;> omega) | (simp; done)))
  rw [k1] at this
  exact this
def cLB (p : List Int → Prop) [∀ l, Tst (p l)] (r : Bool → List Int → AV) (args : List AV) : M AV := match args with
  | [x, y] => do
    let l ← ofOpt 280 (ints? x)
    let b ← ofOpt 281 (asB y)
    tellD (p l) (Tst.b (p l))
    gives (r b l)
  | _ => fail 282
theorem cLB_ok {P : Program} {f : FuncId} {p : List Int → Prop} [∀ l, Tst (p l)] {r : Bool → List Int → AV} (h : ∀ l b, p l → FC P f [.sq l, .lit (.bool b)] (r b l)) : tZ P f (cLB p r) := by
  intro args _
  unfold cLB
  split
  · exact Spec.bind (Spec.ofOpt fun l hl => Spec.bind (Spec.ofOpt fun b hb => Spec.bind (Spec.tellD Tst.ok fun hp => Spec.gives ((h l b hp).le (.cons (fun E v hv => hv.toSq hl) (.cons (Le.ofBool hb) .nil)) (Le.refl _)))))
  · exact Spec.fail
def ctrF2 : Ctr := (179, cLB pSg (fun b l => .sq (zkn b l))) :: zkM
theorem zjC : ∀ p ∈ ctrF2, tZ Tryz.prog p.1 p.2 := CAll.cons (cLB_ok zok) zjB
theorem zeM : (dZ Tryz.prog ctrF2 bw).OK := QZ zjC
abbrev zer (s : St) (r : Ex × St) : Prop := Loops 0 Tryz.prog (eZ Tryz.prog 142 0) s r
abbrev zaA (a : List Int) : St := ⟨sp 92 [(0, .sq a), (3, aN), (4, aI 0), (5, aI 0)], [], []⟩
abbrev zho (a : List Int) (b : Nat) (c d : Int) (e : List Int) : St := ⟨sp 92 [(0, .sq a), (3, .own 0 0 b 1), (4, aI c), (5, aI d)], [.ints e true], []⟩
abbrev zje (a : List Int) : St := ⟨sp 92 [(0, .sq a), (3, aN), (4, aI 0), (5, aI 0)], [], []⟩
abbrev zah (a : List Int) (b : Nat) (c d : Int) (e : List Int) : St := ⟨sp 92 [(0, .sq a), (3, .own 0 0 b 1), (4, aI c), (5, aI d)], [.ints e true], []⟩
theorem rn_L0_0_0 (a : List Int) (h1 : 0 < (a.length : Int)) (h2 : 0 < a.length) (h3 : bZ (a.getD 0 0)) (h4 : r64 (a.getD 0 0 % 100000000 + 0)) (h5 : bZ (a.getD 0 0 % 100000000 + 0)) (h6 : r64 (a.getD 0 0 / 100000000 + (a.getD 0 0 % 100000000 + 0) / 100000000)) {r : Ex × St} (k : zer (zho a (1) (a.getD 0 0 / 100000000 + (a.getD 0 0 % 100000000 + 0) / 100000000) (1) ([(a.getD 0 0 % 100000000 + 0) % 100000000])) r) : zer (zaA a) r := Loops.go (LS.at zeM 60 [1] [0, 3, 4, 5] [] [(0, true)] [] (.cons (dT h1) (.tt 1 (.cons (dT h1) (.cons (dT h2) (.cons h3 (.cons (iR h4) (.cons h5 (.tt 3 (.cons (show decide ((List.take 1 [(a.getD 0 0 % 100000000 + 0) % 100000000]).length = 1) = true from decide_eq_true rfl) (.cons (iR h6) (.tt 1 .nil))))))))))) (by kernel_rfl)) k
theorem rn_L0_0_1 (a : List Int) (h1 : ¬ (0 < (a.length : Int))) : zer (zaA a) (Ex.exit 0, (zje a)) := Loops.fin (LS.at zeM 60 [] [0, 3, 4, 5] [] [(0, false)] [] (.cons (dF h1) .nil) (by kernel_rfl)) (fun h => nomatch h)
theorem rn_L0_1_0 (a : List Int) (b : Nat) (c d : Int) (e : List Int) (h1 : d < (a.length : Int)) (h2 : 0 ≤ d) (h3 : d.toNat < a.length) (h4 : bZ (a.getD d.toNat 0)) (h5 : r64 (a.getD d.toNat 0 % 100000000 + c)) (h6 : bZ (a.getD d.toNat 0 % 100000000 + c)) (h7 : (b + 1) * 8 ≤ 140737488355328) (h8 : b + 1 ≤ 4611686018427387904) (h9 : b ≤ e.length) (h10 : r64 (a.getD d.toNat 0 / 100000000 + (a.getD d.toNat 0 % 100000000 + c) / 100000000)) (h11 : r64 (d + 1)) {r : Ex × St} (k : zer (zho a (b + 1) (a.getD d.toNat 0 / 100000000 + (a.getD d.toNat 0 % 100000000 + c) / 100000000) (d + 1) (e.take b ++ List.take 1 [(a.getD d.toNat 0 % 100000000 + c) % 100000000])) r) : zer (zho a b c d e) r := Loops.go (LS.at zeM 60 [2] [0, 3, 4, 5] [] [(0, true)] [] (.cons (dT h1) (.cons (dT h2) (.cons (dT h1) (.cons (dT h3) (.cons h4 (.cons (iR h5) (.cons h6 (.cons (dT h7) (.cons (dT h8) (.cons (dT h9) (.cons (show decide ((List.take 1 [(a.getD d.toNat 0 % 100000000 + c) % 100000000]).length = 1) = true from decide_eq_true rfl) (.cons (iR h10) (.cons (iR h11) .nil))))))))))))) (by kernel_rfl)) k
theorem rn_L0_1_1 (a : List Int) (b : Nat) (c d : Int) (e : List Int) (h1 : ¬ (d < (a.length : Int))) : zer (zho a b c d e) (Ex.exit 0, (zah a b c d e)) := Loops.fin (LS.at zeM 60 [0] [0, 3, 4, 5] [] [(0, false)] [] (.cons (dF h1) .nil) (by kernel_rfl)) (fun h => nomatch h)
abbrev rn_L1 (s : St) (r : Ex × St) : Prop := Loops 0 Tryz.prog (eZ Tryz.prog 142 1) s r
abbrev zk6 : St := ⟨sp 92 [(3, aN), (4, aI 0)], [], []⟩
abbrev zjf : St := ⟨sp 92 [(3, aN), (4, aI 0)], [], []⟩
theorem rn_L1_0_0 : rn_L1 zk6 (Ex.exit 2, zjf) := Loops.fin (LS.at zeM 60 [] [3, 4] [] [] [] .nil (by kernel_rfl)) (fun h => nomatch h)
theorem rn_0 (x : List Int) (hL1 : zer (zaA x) (Ex.exit 0, (zje x))) (hL2 : rn_L1 zk6 (Ex.exit 2, zjf)) (h3 : pTr []) : FC Tryz.prog 142 [.sq x] (.sq []) := kZ zeM 60 [] [some (wZ Tryz.prog (eZ Tryz.prog 142 0) [] [0, 3, 4, 5] [] (zaA x) (Ex.exit 0, (zje x))), some (wZ Tryz.prog (eZ Tryz.prog 142 1) [] [3, 4] [] zk6 (Ex.exit 2, zjf))] (.vi [0, 3, 4, 5] [] hL1 (.vi [3, 4] [] hL2 (.cons h3 .nil))) (by kernel_rfl)
abbrev zc8 (s : St) (r : Ex × St) : Prop := Loops 1 Tryz.prog (eZ Tryz.prog 142 1) s r
abbrev zai (a : Nat) (b : Int) (c : List Int) : St := ⟨sp 92 [(3, .own 0 0 a 1), (4, aI b)], [.ints c true], [0]⟩
abbrev zfD (a : Nat) (b : Int) (c : List Int) (d : Nat) (e : Int) (f : List Int) : St := ⟨sp 92 [(3, .own 1 0 d 1), (4, aI e)], [.dead, .ints f true], [0]⟩
abbrev zbm (a : Nat) (b : Int) (c : List Int) : St := ⟨sp 92 [(3, .own 0 0 a 1), (4, aI b)], [.ints c true], [0]⟩
abbrev zbn (a : Nat) (b : Int) (c : List Int) (d : Nat) (e : Int) (f : List Int) : St := ⟨sp 92 [(3, .own 1 0 d 1), (4, aI e)], [.dead, .ints f true], [0]⟩
theorem rn_L2_0_0 (a : Nat) (b : Int) (c : List Int) (h1 : b ≠ 0) (h2 : b ≠ -1) (h3 : bZ b) (h4 : (a + 1) * 8 ≤ 140737488355328) (h5 : a + 1 ≤ 4611686018427387904) (h6 : a ≤ c.length) {r : Ex × St} (k : zc8 (zfD a b c (a + 1) (b / 100000000) (c.take a ++ List.take 1 [b % 100000000])) r) : zc8 (zai a b c) r := Loops.go (LS.at zeM 60 [2] [3, 4] [0] [(0, true), (0, true)] [] (.cons (bne_iff_ne.2 h1) (.cons (bne_iff_ne.2 h2) (.cons h3 (.cons (dT h4) (.cons (dT h5) (.cons (dT h6) (.cons (show decide ((List.take 1 [b % 100000000]).length = 1) = true from decide_eq_true rfl) .nil))))))) (by kernel_rfl)) k
theorem rn_L2_0_1 (a : Nat) (b : Int) (c : List Int) (h1 : b ≠ 0) (h2 : b = -1) : zc8 (zai a b c) (Ex.exit 2, (zbm a b c)) := Loops.fin (LS.at zeM 60 [] [3, 4] [0] [(0, true), (0, false)] [] (.cons (bne_iff_ne.2 h1) (.cons (bne_eq_false_iff_eq.2 h2) .nil)) (by kernel_rfl)) (fun h => nomatch h)
theorem rn_L2_0_2 (a : Nat) (b : Int) (c : List Int) (h1 : b = 0) : zc8 (zai a b c) (Ex.exit 2, (zbm a b c)) := Loops.fin (LS.at zeM 60 [] [3, 4] [0] [(0, false)] [] (.cons (bne_eq_false_iff_eq.2 h1) .nil) (by kernel_rfl)) (fun h => nomatch h)
theorem rn_L2_1_0 (a : Nat) (b : Int) (c : List Int) (d : Nat) (e : Int) (f : List Int) (h1 : e ≠ 0) (h2 : e ≠ -1) (h3 : bZ e) (h4 : (d + 1) * 8 ≤ 140737488355328) (h5 : d + 1 ≤ 4611686018427387904) (h6 : d ≤ f.length) {r : Ex × St} (k : zc8 (zfD a b c (d + 1) (e / 100000000) (f.take d ++ List.take 1 [e % 100000000])) r) : zc8 (zfD a b c d e f) r := Loops.go (LS.at zeM 60 [3] [3, 4] [0] [(0, true), (0, true)] [] (.cons (bne_iff_ne.2 h1) (.cons (bne_iff_ne.2 h2) (.cons h3 (.cons (dT h4) (.cons (dT h5) (.cons (dT h6) (.cons (show decide ((List.take 1 [e % 100000000]).length = 1) = true from decide_eq_true rfl) .nil))))))) (by kernel_rfl)) k
theorem rn_L2_1_1 (a : Nat) (b : Int) (c : List Int) (d : Nat) (e : Int) (f : List Int) (h1 : e ≠ 0) (h2 : e = -1) : zc8 (zfD a b c d e f) (Ex.exit 2, (zbn a b c d e f)) := Loops.fin (LS.at zeM 60 [1] [3, 4] [0] [(0, true), (0, false)] [] (.cons (bne_iff_ne.2 h1) (.cons (bne_eq_false_iff_eq.2 h2) .nil)) (by kernel_rfl)) (fun h => nomatch h)
theorem zkg (a : Nat) (b : Int) (c : List Int) (d : Nat) (e : Int) (f : List Int) (h1 : e = 0) : zc8 (zfD a b c d e f) (Ex.exit 2, (zbn a b c d e f)) := Loops.fin (LS.at zeM 60 [1] [3, 4] [0] [(0, false)] [] (.cons (bne_eq_false_iff_eq.2 h1) .nil) (by kernel_rfl)) (fun h => nomatch h)
theorem rn_1 (x : List Int) (a : Nat) (b c : Int) (d : List Int) (hL1 : zer (zaA x) (Ex.exit 0, (zah x a b c d))) (hL2 : zc8 (zai a b d) (Ex.exit 2, (zbm a b d))) (h3 : b = 0) (h4 : a ≤ d.length) (h5 : pTr (d.take a)) : FC Tryz.prog 142 [.sq x] (.sq (trm (d.take a))) := kZ zeM 60 [(0, true)] [some (wZ Tryz.prog (eZ Tryz.prog 142 0) [] [0, 3, 4, 5] [] (zaA x) (Ex.exit 0, (zah x a b c d))), some (wZ Tryz.prog (eZ Tryz.prog 142 1) [] [3, 4] [0] (zai a b d) (Ex.exit 2, (zbm a b d)))] (.vi [0, 3, 4, 5] [] hL1 (.vi [3, 4] [0] hL2 (.cons (beq_iff_eq.2 h3) (.cons h4 (.cons h5 .nil))))) (by kernel_rfl)
abbrev ze3 (s : St) (r : Ex × St) : Prop := Loops 1 Tryz.prog (eZ Tryz.prog 142 2) s r
abbrev zdx (a : Nat) (b : List Int) : St := ⟨sp 92 [(3, .own 0 0 a 1), (12, aN), (13, aI 0), (14, aI 0)], [.ints b true], [0]⟩
abbrev zdy (a : Nat) (b : List Int) (c : Nat) (d e : Int) (f : List Int) : St := ⟨sp 92 [(3, .own 0 0 a 1), (12, .own 1 0 c 1), (13, aI d), (14, aI e)], [.ints b true, .ints f true], [0]⟩
abbrev rn_L3_E0 (a : Nat) (b : List Int) : St := ⟨sp 92 [(3, .own 0 0 a 1), (12, aN), (13, aI 0), (14, aI 0)], [.ints b true], [0]⟩
abbrev zcV (a : Nat) (b : List Int) (c : Nat) (d e : Int) (f : List Int) : St := ⟨sp 92 [(3, .own 0 0 a 1), (12, .own 1 0 c 1), (13, aI d), (14, aI e)], [.ints b true, .ints f true], [0]⟩
theorem rn_L3_0_0 (a : Nat) (b : List Int) (h1 : 0 < (a : Int)) (h2 : 0 < b.length) (h3 : r64 (0 - b.getD 0 0)) (h4 : r64 (0 - b.getD 0 0 - 0)) (h5 : 0 - b.getD 0 0 - 0 < 0) (h6 : r64 (0 - b.getD 0 0 - 0 + 100000000)) {r : Ex × St} (k : ze3 (zdy a b (1) (1) (1) ([0 - b.getD 0 0 - 0 + 100000000])) r) : ze3 (zdx a b) r := Loops.go (LS.at zeM 60 [2] [3, 12, 13, 14] [0] [(0, true), (0, true)] [] (.cons (dT h1) (.tt 1 (.cons (dT h1) (.cons (dT h2) (.cons (iR h3) (.cons (iR h4) (.cons (dT h5) (.cons (iR h6) (.tt 3 (.cons (show decide ((List.take 1 [0 - b.getD 0 0 - 0 + 100000000]).length = 1) = true from decide_eq_true rfl) (.tt 1 .nil))))))))))) (by kernel_rfl)) k
theorem rn_L3_0_1 (a : Nat) (b : List Int) (h1 : 0 < (a : Int)) (h2 : 0 < b.length) (h3 : r64 (0 - b.getD 0 0)) (h4 : r64 (0 - b.getD 0 0 - 0)) (h5 : ¬ (0 - b.getD 0 0 - 0 < 0)) {r : Ex × St} (k : ze3 (zdy a b (1) (0) (1) ([0 - b.getD 0 0 - 0])) r) : ze3 (zdx a b) r := Loops.go (LS.at zeM 60 [2] [3, 12, 13, 14] [0] [(0, true), (0, false)] [] (.cons (dT h1) (.tt 1 (.cons (dT h1) (.cons (dT h2) (.cons (iR h3) (.cons (iR h4) (.cons (dF h5) (.tt 3 (.cons (show decide ((List.take 1 [0 - b.getD 0 0 - 0]).length = 1) = true from decide_eq_true rfl) (.tt 1 .nil)))))))))) (by kernel_rfl)) k
theorem rn_L3_0_2 (a : Nat) (b : List Int) (h1 : ¬ (0 < (a : Int))) : ze3 (zdx a b) (Ex.exit 4, (rn_L3_E0 a b)) := Loops.fin (LS.at zeM 60 [] [3, 12, 13, 14] [0] [(0, false)] [] (.cons (dF h1) .nil) (by kernel_rfl)) (fun h => nomatch h)
theorem rn_L3_1_0 (a : Nat) (b : List Int) (c : Nat) (d e : Int) (f : List Int) (h1 : e < (a : Int)) (h2 : 0 ≤ e) (h3 : 0 + e.toNat * 1 < b.length) (h4 : r64 (0 - b.getD (0 + e.toNat * 1) 0)) (h5 : r64 (0 - b.getD (0 + e.toNat * 1) 0 - d)) (h6 : 0 - b.getD (0 + e.toNat * 1) 0 - d < 0) (h7 : r64 (0 - b.getD (0 + e.toNat * 1) 0 - d + 100000000)) (h8 : (c + 1) * 8 ≤ 140737488355328) (h9 : c + 1 ≤ 4611686018427387904) (h10 : c ≤ f.length) (h11 : r64 (e + 1)) {r : Ex × St} (k : ze3 (zdy a b (c + 1) (1) (e + 1) (f.take c ++ List.take 1 [0 - b.getD (0 + e.toNat * 1) 0 - d + 100000000])) r) : ze3 (zdy a b c d e f) r := Loops.go (LS.at zeM 60 [3] [3, 12, 13, 14] [0] [(0, true), (0, true)] [] (.cons (dT h1) (.cons (dT h2) (.cons (dT h1) (.cons (dT h3) (.cons (iR h4) (.cons (iR h5) (.cons (dT h6) (.cons (iR h7) (.cons (dT h8) (.cons (dT h9) (.cons (dT h10) (.cons (show decide ((List.take 1 [0 - b.getD (0 + e.toNat * 1) 0 - d + 100000000]).length = 1) = true from decide_eq_true rfl) (.cons (iR h11) .nil))))))))))))) (by kernel_rfl)) k
theorem rn_L3_1_1 (a : Nat) (b : List Int) (c : Nat) (d e : Int) (f : List Int) (h1 : e < (a : Int)) (h2 : 0 ≤ e) (h3 : 0 + e.toNat * 1 < b.length) (h4 : r64 (0 - b.getD (0 + e.toNat * 1) 0)) (h5 : r64 (0 - b.getD (0 + e.toNat * 1) 0 - d)) (h6 : ¬ (0 - b.getD (0 + e.toNat * 1) 0 - d < 0)) (h7 : (c + 1) * 8 ≤ 140737488355328) (h8 : c + 1 ≤ 4611686018427387904) (h9 : c ≤ f.length) (h10 : r64 (e + 1)) {r : Ex × St} (k : ze3 (zdy a b (c + 1) (0) (e + 1) (f.take c ++ List.take 1 [0 - b.getD (0 + e.toNat * 1) 0 - d])) r) : ze3 (zdy a b c d e f) r := Loops.go (LS.at zeM 60 [3] [3, 12, 13, 14] [0] [(0, true), (0, false)] [] (.cons (dT h1) (.cons (dT h2) (.cons (dT h1) (.cons (dT h3) (.cons (iR h4) (.cons (iR h5) (.cons (dF h6) (.cons (dT h7) (.cons (dT h8) (.cons (dT h9) (.cons (show decide ((List.take 1 [0 - b.getD (0 + e.toNat * 1) 0 - d]).length = 1) = true from decide_eq_true rfl) (.cons (iR h10) .nil)))))))))))) (by kernel_rfl)) k
theorem rn_L3_1_2 (a : Nat) (b : List Int) (c : Nat) (d e : Int) (f : List Int) (h1 : ¬ (e < (a : Int))) : ze3 (zdy a b c d e f) (Ex.exit 4, (zcV a b c d e f)) := Loops.fin (LS.at zeM 60 [1] [3, 12, 13, 14] [0] [(0, false)] [] (.cons (dF h1) .nil) (by kernel_rfl)) (fun h => nomatch h)
theorem rn_3 (x : List Int) (a : Nat) (b c : Int) (d : List Int) (e : Nat) (f g : Int) (i : List Int) (hL1 : zer (zaA x) (Ex.exit 0, (zah x a b c d))) (hL2 : zc8 (zai a b d) (Ex.exit 2, (zbm a b d))) (h3 : b ≠ 0) (hL3 : ze3 (zdx a d) (Ex.exit 4, (zcV a d e f g i))) (h5 : f = 0) (h6 : (e + 1) * 8 ≤ 140737488355328) (h7 : e + 1 ≤ 4611686018427387904) (h8 : e ≤ i.length) (h9 : e + 1 ≤ (i.take e ++ List.take 1 [1]).length) (h10 : pSg ((i.take e ++ List.take 1 [1]).take (e + 1))) : FC Tryz.prog 142 [.sq x] (.sq (zkn true ((i.take e ++ List.take 1 [1]).take (e + 1)))) := kZ zeM 60 [(0, false), (0, true)] [some (wZ Tryz.prog (eZ Tryz.prog 142 0) [] [0, 3, 4, 5] [] (zaA x) (Ex.exit 0, (zah x a b c d))), some (wZ Tryz.prog (eZ Tryz.prog 142 1) [] [3, 4] [0] (zai a b d) (Ex.exit 2, (zbm a b d))), some (wZ Tryz.prog (eZ Tryz.prog 142 2) [] [3, 12, 13, 14] [0] (zdx a d) (Ex.exit 4, (zcV a d e f g i)))] (.vi [0, 3, 4, 5] [] hL1 (.vi [3, 4] [0] hL2 (.cons (beq_false_of_ne h3) (.vi [3, 12, 13, 14] [0] hL3 (.cons (beq_iff_eq.2 h5) (.cons (dT h6) (.cons (dT h7) (.cons (dT h8) (.tt 1 (.cons h9 (.cons h10 .nil))))))))))) (by kernel_rfl)
theorem rn_4 (x : List Int) (a : Nat) (b c : Int) (d : List Int) (e : Nat) (f g : Int) (i : List Int) (hL1 : zer (zaA x) (Ex.exit 0, (zah x a b c d))) (hL2 : zc8 (zai a b d) (Ex.exit 2, (zbm a b d))) (h3 : b ≠ 0) (hL3 : ze3 (zdx a d) (Ex.exit 4, (zcV a d e f g i))) (h5 : f ≠ 0) (h6 : e ≤ i.length) (h7 : pSg (i.take e)) : FC Tryz.prog 142 [.sq x] (.sq (zkn true (i.take e))) := kZ zeM 60 [(0, false), (0, false)] [some (wZ Tryz.prog (eZ Tryz.prog 142 0) [] [0, 3, 4, 5] [] (zaA x) (Ex.exit 0, (zah x a b c d))), some (wZ Tryz.prog (eZ Tryz.prog 142 1) [] [3, 4] [0] (zai a b d) (Ex.exit 2, (zbm a b d))), some (wZ Tryz.prog (eZ Tryz.prog 142 2) [] [3, 12, 13, 14] [0] (zdx a d) (Ex.exit 4, (zcV a d e f g i)))] (.vi [0, 3, 4, 5] [] hL1 (.vi [3, 4] [0] hL2 (.cons (beq_false_of_ne h3) (.vi [3, 12, 13, 14] [0] hL3 (.cons (beq_false_of_ne h5) (.cons h6 (.cons h7 .nil))))))) (by kernel_rfl)
theorem rn_5 (x : List Int) (a : Nat) (b c : Int) (d : List Int) (e : Nat) (f : Int) (g : List Int) (hL1 : zer (zaA x) (Ex.exit 0, (zah x a b c d))) (hL2 : zc8 (zai a b d) (Ex.exit 2, (zbn a b d e f g))) (h3 : f = 0) (h4 : e ≤ g.length) (h5 : pTr (g.take e)) : FC Tryz.prog 142 [.sq x] (.sq (trm (g.take e))) := kZ zeM 60 [(0, true)] [some (wZ Tryz.prog (eZ Tryz.prog 142 0) [] [0, 3, 4, 5] [] (zaA x) (Ex.exit 0, (zah x a b c d))), some (wZ Tryz.prog (eZ Tryz.prog 142 1) [] [3, 4] [0] (zai a b d) (Ex.exit 2, (zbn a b d e f g)))] (.vi [0, 3, 4, 5] [] hL1 (.vi [3, 4] [0] hL2 (.cons (beq_iff_eq.2 h3) (.cons h4 (.cons h5 .nil))))) (by kernel_rfl)
abbrev zfE (s : St) (r : Ex × St) : Prop := Loops 2 Tryz.prog (eZ Tryz.prog 142 2) s r
abbrev zes (a : Nat) (b : List Int) : St := ⟨sp 92 [(3, .own 1 0 a 1), (12, aN), (13, aI 0), (14, aI 0)], [.dead, .ints b true], [0]⟩
abbrev zdz (a : Nat) (b : List Int) (c : Nat) (d e : Int) (f : List Int) : St := ⟨sp 92 [(3, .own 1 0 a 1), (12, .own 2 0 c 1), (13, aI d), (14, aI e)], [.dead, .ints b true, .ints f true], [0]⟩
abbrev zcW (a : Nat) (b : List Int) (c : Nat) (d e : Int) (f : List Int) : St := ⟨sp 92 [(3, .own 1 0 a 1), (12, .own 2 0 c 1), (13, aI d), (14, aI e)], [.dead, .ints b true, .ints f true], [0]⟩
theorem rn_L4_0_0 (a : Nat) (b : List Int) (h1 : 0 < (a : Int)) (h2 : 0 < b.length) (h3 : r64 (0 - b.getD 0 0)) (h4 : r64 (0 - b.getD 0 0 - 0)) (h5 : 0 - b.getD 0 0 - 0 < 0) (h6 : r64 (0 - b.getD 0 0 - 0 + 100000000)) {r : Ex × St} (k : zfE (zdz a b (1) (1) (1) ([0 - b.getD 0 0 - 0 + 100000000])) r) : zfE (zes a b) r := Loops.go (LS.at zeM 60 [3] [3, 12, 13, 14] [0] [(0, true), (0, true)] [] (.cons (dT h1) (.tt 1 (.cons (dT h1) (.cons (dT h2) (.cons (iR h3) (.cons (iR h4) (.cons (dT h5) (.cons (iR h6) (.tt 3 (.cons (show decide ((List.take 1 [0 - b.getD 0 0 - 0 + 100000000]).length = 1) = true from decide_eq_true rfl) (.tt 1 .nil))))))))))) (by kernel_rfl)) k
theorem rn_L4_0_1 (a : Nat) (b : List Int) (h1 : 0 < (a : Int)) (h2 : 0 < b.length) (h3 : r64 (0 - b.getD 0 0)) (h4 : r64 (0 - b.getD 0 0 - 0)) (h5 : ¬ (0 - b.getD 0 0 - 0 < 0)) {r : Ex × St} (k : zfE (zdz a b (1) (0) (1) ([0 - b.getD 0 0 - 0])) r) : zfE (zes a b) r := Loops.go (LS.at zeM 60 [3] [3, 12, 13, 14] [0] [(0, true), (0, false)] [] (.cons (dT h1) (.tt 1 (.cons (dT h1) (.cons (dT h2) (.cons (iR h3) (.cons (iR h4) (.cons (dF h5) (.tt 3 (.cons (show decide ((List.take 1 [0 - b.getD 0 0 - 0]).length = 1) = true from decide_eq_true rfl) (.tt 1 .nil)))))))))) (by kernel_rfl)) k
theorem rn_L4_1_0 (a : Nat) (b : List Int) (c : Nat) (d e : Int) (f : List Int) (h1 : e < (a : Int)) (h2 : 0 ≤ e) (h3 : 0 + e.toNat * 1 < b.length) (h4 : r64 (0 - b.getD (0 + e.toNat * 1) 0)) (h5 : r64 (0 - b.getD (0 + e.toNat * 1) 0 - d)) (h6 : 0 - b.getD (0 + e.toNat * 1) 0 - d < 0) (h7 : r64 (0 - b.getD (0 + e.toNat * 1) 0 - d + 100000000)) (h8 : (c + 1) * 8 ≤ 140737488355328) (h9 : c + 1 ≤ 4611686018427387904) (h10 : c ≤ f.length) (h11 : r64 (e + 1)) {r : Ex × St} (k : zfE (zdz a b (c + 1) (1) (e + 1) (f.take c ++ List.take 1 [0 - b.getD (0 + e.toNat * 1) 0 - d + 100000000])) r) : zfE (zdz a b c d e f) r := Loops.go (LS.at zeM 60 [4] [3, 12, 13, 14] [0] [(0, true), (0, true)] [] (.cons (dT h1) (.cons (dT h2) (.cons (dT h1) (.cons (dT h3) (.cons (iR h4) (.cons (iR h5) (.cons (dT h6) (.cons (iR h7) (.cons (dT h8) (.cons (dT h9) (.cons (dT h10) (.cons (show decide ((List.take 1 [0 - b.getD (0 + e.toNat * 1) 0 - d + 100000000]).length = 1) = true from decide_eq_true rfl) (.cons (iR h11) .nil))))))))))))) (by kernel_rfl)) k
theorem rn_L4_1_1 (a : Nat) (b : List Int) (c : Nat) (d e : Int) (f : List Int) (h1 : e < (a : Int)) (h2 : 0 ≤ e) (h3 : 0 + e.toNat * 1 < b.length) (h4 : r64 (0 - b.getD (0 + e.toNat * 1) 0)) (h5 : r64 (0 - b.getD (0 + e.toNat * 1) 0 - d)) (h6 : ¬ (0 - b.getD (0 + e.toNat * 1) 0 - d < 0)) (h7 : (c + 1) * 8 ≤ 140737488355328) (h8 : c + 1 ≤ 4611686018427387904) (h9 : c ≤ f.length) (h10 : r64 (e + 1)) {r : Ex × St} (k : zfE (zdz a b (c + 1) (0) (e + 1) (f.take c ++ List.take 1 [0 - b.getD (0 + e.toNat * 1) 0 - d])) r) : zfE (zdz a b c d e f) r := Loops.go (LS.at zeM 60 [4] [3, 12, 13, 14] [0] [(0, true), (0, false)] [] (.cons (dT h1) (.cons (dT h2) (.cons (dT h1) (.cons (dT h3) (.cons (iR h4) (.cons (iR h5) (.cons (dF h6) (.cons (dT h7) (.cons (dT h8) (.cons (dT h9) (.cons (show decide ((List.take 1 [0 - b.getD (0 + e.toNat * 1) 0 - d]).length = 1) = true from decide_eq_true rfl) (.cons (iR h10) .nil)))))))))))) (by kernel_rfl)) k
theorem rn_L4_1_2 (a : Nat) (b : List Int) (c : Nat) (d e : Int) (f : List Int) (h1 : ¬ (e < (a : Int))) : zfE (zdz a b c d e f) (Ex.exit 4, (zcW a b c d e f)) := Loops.fin (LS.at zeM 60 [2] [3, 12, 13, 14] [0] [(0, false)] [] (.cons (dF h1) .nil) (by kernel_rfl)) (fun h => nomatch h)
theorem rn_7 (x : List Int) (a : Nat) (b c : Int) (d : List Int) (e : Nat) (f : Int) (g : List Int) (i : Nat) (j l : Int) (m : List Int) (hL1 : zer (zaA x) (Ex.exit 0, (zah x a b c d))) (hL2 : zc8 (zai a b d) (Ex.exit 2, (zbn a b d e f g))) (h3 : f ≠ 0) (hL3 : zfE (zes e g) (Ex.exit 4, (zcW e g i j l m))) (h5 : j = 0) (h6 : (i + 1) * 8 ≤ 140737488355328) (h7 : i + 1 ≤ 4611686018427387904) (h8 : i ≤ m.length) (h9 : i + 1 ≤ (m.take i ++ List.take 1 [1]).length) (h10 : pSg ((m.take i ++ List.take 1 [1]).take (i + 1))) : FC Tryz.prog 142 [.sq x] (.sq (zkn true ((m.take i ++ List.take 1 [1]).take (i + 1)))) := kZ zeM 60 [(0, false), (0, true)] [some (wZ Tryz.prog (eZ Tryz.prog 142 0) [] [0, 3, 4, 5] [] (zaA x) (Ex.exit 0, (zah x a b c d))), some (wZ Tryz.prog (eZ Tryz.prog 142 1) [] [3, 4] [0] (zai a b d) (Ex.exit 2, (zbn a b d e f g))), some (wZ Tryz.prog (eZ Tryz.prog 142 2) [] [3, 12, 13, 14] [0] (zes e g) (Ex.exit 4, (zcW e g i j l m)))] (.vi [0, 3, 4, 5] [] hL1 (.vi [3, 4] [0] hL2 (.cons (beq_false_of_ne h3) (.vi [3, 12, 13, 14] [0] hL3 (.cons (beq_iff_eq.2 h5) (.cons (dT h6) (.cons (dT h7) (.cons (dT h8) (.tt 1 (.cons h9 (.cons h10 .nil))))))))))) (by kernel_rfl)
theorem rn_8 (x : List Int) (a : Nat) (b c : Int) (d : List Int) (e : Nat) (f : Int) (g : List Int) (i : Nat) (j l : Int) (m : List Int) (hL1 : zer (zaA x) (Ex.exit 0, (zah x a b c d))) (hL2 : zc8 (zai a b d) (Ex.exit 2, (zbn a b d e f g))) (h3 : f ≠ 0) (hL3 : zfE (zes e g) (Ex.exit 4, (zcW e g i j l m))) (h5 : j ≠ 0) (h6 : i ≤ m.length) (h7 : pSg (m.take i)) : FC Tryz.prog 142 [.sq x] (.sq (zkn true (m.take i))) := kZ zeM 60 [(0, false), (0, false)] [some (wZ Tryz.prog (eZ Tryz.prog 142 0) [] [0, 3, 4, 5] [] (zaA x) (Ex.exit 0, (zah x a b c d))), some (wZ Tryz.prog (eZ Tryz.prog 142 1) [] [3, 4] [0] (zai a b d) (Ex.exit 2, (zbn a b d e f g))), some (wZ Tryz.prog (eZ Tryz.prog 142 2) [] [3, 12, 13, 14] [0] (zes e g) (Ex.exit 4, (zcW e g i j l m)))] (.vi [0, 3, 4, 5] [] hL1 (.vi [3, 4] [0] hL2 (.cons (beq_false_of_ne h3) (.vi [3, 12, 13, 14] [0] hL3 (.cons (beq_false_of_ne h5) (.cons h6 (.cons h7 .nil))))))) (by kernel_rfl)
theorem zfI (out : List Int) (d : Int) : List.take out.length out ++ List.take 1 [d] = out ++ [d] := by simp
theorem zbc {out : List Int} {d : Int} (h : Digs out) (h0 : 0 ≤ d) (h1 : d < 100000000) : Digs (out ++ [d]) := by
  intro e he
  rcases List.mem_append.1 he with h2 | h2
  · exact h e h2
  · simp at h2; subst h2; exact ⟨h0, h1⟩
theorem rnA : ∀ (m : Nat) (x : List Int) (i : Nat) (c : Int) (out : List Int), i + m = x.length → x.length ≤ 1000000000 → (∀ d ∈ x, bZ d) → Digs out → out.length + m ≤ 1000000000 → -1000000000000 ≤ c → c ≤ 1000000000000 →
    ∃ c' out', Digs out' ∧ out'.length = out.length + m ∧ vl out' + 100000000 ^ out'.length * c' = vl out + 100000000 ^ out.length * (c + vl (x.drop i)) ∧ -1000000000000 ≤ c' ∧ c' ≤ 1000000000000 ∧
      zer (zho x out.length c i out) (.exit 0, zah x out'.length c' x.length out') := by
  intro m
  induction m with
  | zero =>
    intro x i c out hi hxl hx hd hl h1 h2
    have hi' : i = x.length := by omega
    subst hi'
    exact ⟨c, out, hd, rfl, by simp [vl], h1, h2, rn_L0_1_1 x out.length c x.length out (by omega)⟩
  | succ m ih =>
    intro x i c out hi hxl hx hd hl h1 h2
    have hlt : i < x.length := by omega
    have hxi := hx (x.getD i 0) (by simp [List.getD, hlt])
    have hdr : x.drop i = x.getD i 0 :: x.drop (i + 1) := by rw [List.drop_eq_getElem_cons hlt]; simp [List.getD, hlt]
    have hxi' := hxi
    unfold bZ at hxi'
    obtain ⟨c', out', k1, k2, k3, k4, k5, k6⟩ := ih x (i + 1) (x.getD i 0 / 100000000 + (x.getD i 0 % 100000000 + c) / 100000000) (out ++ [(x.getD i 0 % 100000000 + c) % 100000000]) (by omega) hxl hx
      (zbc hd (by omega) (by omega)) (by simp; omega) (by omega) (by omega)
    refine ⟨c', out', k1, by simp at k2; omega, ?_, k4, k5, ?_⟩
    · rw [k3, hdr]
      exact zfL _ _ _ _ _ _ (by omega)
    · have hn : Int.toNat (i : Int) = i := by omega
      refine rn_L0_1_0 x out.length c i out (by omega) (by omega) (by omega) ?_ ?_ ?_ (by omega) (by omega) (by omega) ?_ (by omega) ?_ <;> (try rw [hn])
      · exact hxi
      · omega
      · unfold bZ; omega
      · omega
      · rw [zfI]
        simpa using k6
theorem rnB : ∀ (m : Nat) (p : Nat) (q : Int) (l : List Int) (c : Int) (out : List Int), c.natAbs ≤ m → -1000000000000 ≤ c → c ≤ 1000000000000 → Digs out → out.length + m ≤ 10000000000000 →
    ∃ c' out', (c' = 0 ∨ c' = -1) ∧ Digs out' ∧ (out.length ≤ out'.length ∧ out'.length ≤ out.length + m) ∧ vl out' + 100000000 ^ out'.length * c' = vl out + 100000000 ^ out.length * c ∧
      zc8 (zfD p q l out.length c out) (.exit 2, zbn p q l out'.length c' out') := by
  intro m
  induction m with
  | zero =>
    intro p q l c out hm h1 h2 hd hl
    have : c = 0 := by omega
    subst this
    exact ⟨0, out, .inl rfl, hd, ⟨Nat.le_refl _, by omega⟩, rfl, zkg p q l out.length 0 out rfl⟩
  | succ m ih =>
    intro p q l c out hm h1 h2 hd hl
    by_cases h0 : c = 0
    · subst h0; exact ⟨0, out, .inl rfl, hd, ⟨Nat.le_refl _, by omega⟩, rfl, zkg p q l out.length 0 out rfl⟩
    by_cases h3 : c = -1
    · subst h3; exact ⟨-1, out, .inr rfl, hd, ⟨Nat.le_refl _, by omega⟩, rfl, rn_L2_1_1 p q l out.length (-1) out (by omega) rfl⟩
    obtain ⟨c', out', k1, k2, k3, k4, k5⟩ := ih p q l (c / 100000000) (out ++ [c % 100000000]) (by omega) (by omega) (by omega) (zbc hd (by omega) (by omega)) (by simp; omega)
    refine ⟨c', out', k1, k2, ⟨by have := k3.1; simp at this; omega, by have := k3.2; simp at this; omega⟩, ?_, ?_⟩
    · rw [k4]
      have := zfL out 0 c (c % 100000000) (c / 100000000) 0 (by omega)
      simpa using this
    · refine rn_L2_1_0 p q l out.length c out h0 h3 (by unfold bZ; omega) (by omega) (by omega) (by omega) ?_
      rw [zfI]
      simpa using k5
theorem rnC (LP : St → Ex × St → Prop) (F : Nat → Int → Int → List Int → St) (G : Nat → Int → Int → List Int → Ex × St) (out : List Int)
    (hs0 : ∀ (k : Nat) (b : Int) (sz : List Int) (r : Ex × St), k < out.length → sz.length = k → (b = 0 ∨ b = 1) → 0 - out.getD k 0 - b < 0 → LP (F (k + 1) 1 (k + 1) (sz ++ [0 - out.getD k 0 - b + 100000000])) r → LP (F k b k sz) r)
    (hs1 : ∀ (k : Nat) (b : Int) (sz : List Int) (r : Ex × St), k < out.length → sz.length = k → (b = 0 ∨ b = 1) → ¬ (0 - out.getD k 0 - b < 0) → LP (F (k + 1) 0 (k + 1) (sz ++ [0 - out.getD k 0 - b])) r → LP (F k b k sz) r)
    (hx : ∀ (b : Int) (sz : List Int), LP (F out.length b out.length sz) (G out.length b out.length sz)) (hd : Digs out) :
    ∀ (m k : Nat) (b : Int) (sz : List Int), k + m = out.length → sz.length = k → (b = 0 ∨ b = 1) → Digs sz → vl sz = 100000000 ^ k * b - vl (out.take k) →
      ∃ b' sz', (b' = 0 ∨ b' = 1) ∧ Digs sz' ∧ sz'.length = out.length ∧ vl sz' = 100000000 ^ out.length * b' - vl out ∧ LP (F k b k sz) (G out.length b' out.length sz') := by
  intro m
  induction m with
  | zero =>
    intro k b sz hk hl hb hs hv
    have : k = out.length := by omega
    subst this
    rw [List.take_length] at hv
    exact ⟨b, sz, hb, hs, hl, hv, hx b sz⟩
  | succ m ih =>
    intro k b sz hk hl hb hs hv
    have hlt : k < out.length := by omega
    have hg : out[k] = out.getD k 0 := by simp [List.getD, hlt]
    have hdk := hd (out.getD k 0) (by simp [List.getD, hlt])
    have htk : out.take (k + 1) = out.take k ++ [out.getD k 0] := by rw [List.take_succ_eq_append_getElem hlt, hg]
    have hlk : (out.take k).length = k := by simp; omega
    have a0 := hs0 k b sz
    have a1 := hs1 k b sz
    clear hg
    generalize out.getD k 0 = d at *
    have val : ∀ (e b' : Int), 0 - d - b = e - 100000000 * b' → vl (sz ++ [e]) = 100000000 ^ (k + 1) * b' - vl (out.take (k + 1)) := by
      intro e b' he
      rw [htk, zbU, zbU, hl, hlk, hv, Int.pow_succ]
      have : e = 100000000 * b' - d - b := by omega
      rw [this, Int.mul_sub, Int.mul_sub, ← Int.mul_assoc]
      omega
    by_cases h : 0 - d - b < 0
    · obtain ⟨b', sz', k1, k2, k3, k4, k5⟩ := ih (k + 1) 1 (sz ++ [0 - d - b + 100000000]) (by omega) (by simp [hl]) (.inr rfl) (zbc hs (by omega) (by omega)) (val _ _ (by omega))
      exact ⟨b', sz', k1, k2, k3, k4, a0 _ hlt hl hb h (by simpa using k5)⟩
    · obtain ⟨b', sz', k1, k2, k3, k4, k5⟩ := ih (k + 1) 0 (sz ++ [0 - d - b]) (by omega) (by simp [hl]) (.inl rfl) (zbc hs (by omega) (by omega)) (val _ _ (by omega))
      exact ⟨b', sz', k1, k2, k3, k4, a1 _ hlt hl hb h (by simpa using k5)⟩
theorem rnL3 (out : List Int) (hd : Digs out) (hne : out ≠ []) (hl : out.length ≤ 10000000000000) :
    ∃ b' sz', (b' = 0 ∨ b' = 1) ∧ Digs sz' ∧ sz'.length = out.length ∧ vl sz' = 100000000 ^ out.length * b' - vl out ∧ ze3 (zdx out.length out) (.exit 4, zcV out.length out out.length b' out.length sz') := by
  have h0 : 0 < out.length := List.length_pos_iff.2 hne
  have hd0 := hd (out.getD 0 0) (by simp [List.getD, h0])
  have hg : out[0] = out.getD 0 0 := by simp [List.getD, h0]
  have ht : out.take 1 = [out.getD 0 0] := by rw [List.take_succ_eq_append_getElem h0, hg]; rfl
  have key := rnC ze3 (fun n b k sz => zdy out.length out n b k sz) (fun n b k sz => (.exit 4, zcV out.length out n b k sz)) out
    (fun k b sz r hk hs hb h kk => by
      have hdk := hd (out.getD k 0) (by simp [List.getD, hk])
      have hn : 0 + Int.toNat (k : Int) * 1 = k := by omega
      refine rn_L3_1_0 out.length out k b k sz (by omega) (by omega) ?_ ?_ ?_ ?_ ?_ (by omega) (by omega) (by omega) (by omega) ?_ <;> rw [hn]
      · omega
      · omega
      · rcases hb with rfl | rfl <;> omega
      · exact h
      · rcases hb with rfl | rfl <;> omega
      · have := zfI sz (0 - out.getD k 0 - b + 100000000)
        rw [hs] at this
        rw [this]; exact kk)
    (fun k b sz r hk hs hb h kk => by
      have hdk := hd (out.getD k 0) (by simp [List.getD, hk])
      have hn : 0 + Int.toNat (k : Int) * 1 = k := by omega
      refine rn_L3_1_1 out.length out k b k sz (by omega) (by omega) ?_ ?_ ?_ ?_ (by omega) (by omega) (by omega) (by omega) ?_ <;> rw [hn]
      · omega
      · omega
      · rcases hb with rfl | rfl <;> omega
      · exact h
      · have := zfI sz (0 - out.getD k 0 - b)
        rw [hs] at this
        rw [this]; exact kk)
    (fun b sz => rn_L3_1_2 out.length out out.length b out.length sz (by omega)) hd
  by_cases h : 0 - out.getD 0 0 - 0 < 0
  · obtain ⟨b', sz', k1, k2, k3, k4, k5⟩ := key (out.length - 1) 1 1 [0 - out.getD 0 0 - 0 + 100000000] (by omega) rfl (.inr rfl) (zbc (out := []) (fun d hd => by cases hd) (by omega) (by omega)) (by rw [ht]; simp only [vl]; omega)
    exact ⟨b', sz', k1, k2, k3, k4, rn_L3_0_0 out.length out (by omega) (by omega) (by omega) (by omega) h (by omega) k5⟩
  · obtain ⟨b', sz', k1, k2, k3, k4, k5⟩ := key (out.length - 1) 1 0 [0 - out.getD 0 0 - 0] (by omega) rfl (.inl rfl) (zbc (out := []) (fun d hd => by cases hd) (by omega) (by omega)) (by rw [ht]; simp only [vl]; omega)
    exact ⟨b', sz', k1, k2, k3, k4, rn_L3_0_1 out.length out (by omega) (by omega) (by omega) (by omega) h k5⟩
theorem rnL4 (out : List Int) (hd : Digs out) (hne : out ≠ []) (hl : out.length ≤ 10000000000000) :
    ∃ b' sz', (b' = 0 ∨ b' = 1) ∧ Digs sz' ∧ sz'.length = out.length ∧ vl sz' = 100000000 ^ out.length * b' - vl out ∧ zfE (zes out.length out) (.exit 4, zcW out.length out out.length b' out.length sz') := by
  have h0 : 0 < out.length := List.length_pos_iff.2 hne
  have hd0 := hd (out.getD 0 0) (by simp [List.getD, h0])
  have hg : out[0] = out.getD 0 0 := by simp [List.getD, h0]
  have ht : out.take 1 = [out.getD 0 0] := by rw [List.take_succ_eq_append_getElem h0, hg]; rfl
  have key := rnC zfE (fun n b k sz => zdz out.length out n b k sz) (fun n b k sz => (.exit 4, zcW out.length out n b k sz)) out
    (fun k b sz r hk hs hb h kk => by
      have hdk := hd (out.getD k 0) (by simp [List.getD, hk])
      have hn : 0 + Int.toNat (k : Int) * 1 = k := by omega
      refine rn_L4_1_0 out.length out k b k sz (by omega) (by omega) ?_ ?_ ?_ ?_ ?_ (by omega) (by omega) (by omega) (by omega) ?_ <;> rw [hn]
      · omega
      · omega
      · rcases hb with rfl | rfl <;> omega
      · exact h
      · rcases hb with rfl | rfl <;> omega
      · have := zfI sz (0 - out.getD k 0 - b + 100000000)
        rw [hs] at this
        rw [this]; exact kk)
    (fun k b sz r hk hs hb h kk => by
      have hdk := hd (out.getD k 0) (by simp [List.getD, hk])
      have hn : 0 + Int.toNat (k : Int) * 1 = k := by omega
      refine rn_L4_1_1 out.length out k b k sz (by omega) (by omega) ?_ ?_ ?_ ?_ (by omega) (by omega) (by omega) (by omega) ?_ <;> rw [hn]
      · omega
      · omega
      · rcases hb with rfl | rfl <;> omega
      · exact h
      · have := zfI sz (0 - out.getD k 0 - b)
        rw [hs] at this
        rw [this]; exact kk)
    (fun b sz => rn_L4_1_2 out.length out out.length b out.length sz (by omega)) hd
  by_cases h : 0 - out.getD 0 0 - 0 < 0
  · obtain ⟨b', sz', k1, k2, k3, k4, k5⟩ := key (out.length - 1) 1 1 [0 - out.getD 0 0 - 0 + 100000000] (by omega) rfl (.inr rfl) (zbc (out := []) (fun d hd => by cases hd) (by omega) (by omega)) (by rw [ht]; simp only [vl]; omega)
    exact ⟨b', sz', k1, k2, k3, k4, rn_L4_0_0 out.length out (by omega) (by omega) (by omega) (by omega) h (by omega) k5⟩
  · obtain ⟨b', sz', k1, k2, k3, k4, k5⟩ := key (out.length - 1) 1 0 [0 - out.getD 0 0 - 0] (by omega) rfl (.inl rfl) (zbc (out := []) (fun d hd => by cases hd) (by omega) (by omega)) (by rw [ht]; simp only [vl]; omega)
    exact ⟨b', sz', k1, k2, k3, k4, rn_L4_0_1 out.length out (by omega) (by omega) (by omega) (by omega) h k5⟩
theorem zlL {out : List Int} (hd : Digs out) : trm out = aZ (vl out) := by
  rw [zaO hd]
  have := KZ hd
  unfold aZ
  rw [if_neg (by omega)]
  congr 1; omega
theorem nf_neg {sz : List Int} (hd : Digs sz) (h : 0 < vl sz) : zkn true sz = aZ (-vl sz) := by
  unfold zkn aZ
  rw [if_pos (by omega), zaO hd, show (-vl sz).natAbs = (vl sz).toNat by omega]
theorem nf_cpl {out sz : List Int} {b v : Int} (ho : Digs out) (hs : Digs sz) (hl : sz.length = out.length) (hb : b = 0 ∨ b = 1) (hv : vl out - 100000000 ^ out.length = v) (hz : vl sz = 100000000 ^ out.length * b - vl out) :
    (b = 0 → zkn true (sz ++ [1]) = aZ v) ∧ (b ≠ 0 → zkn true sz = aZ v) := by
  have h1 := zfK ho
  have h2 := KZ hs
  have h3 := KZ ho
  constructor
  · rintro rfl
    have e : vl (sz ++ [1]) = -v := by rw [zbU, hl]; omega
    rw [nf_neg (zbc hs (by decide) (by decide)) (by omega), e, Int.neg_neg]
  · intro h0
    have hb1 : b = 1 := by omega
    subst hb1
    have e : vl sz = -v := by omega
    rw [nf_neg hs (by omega), e, Int.neg_neg]
theorem zit {l : List Int} (hd : Digs l) (hl : l.length ≤ 1048576) : pSg l := ⟨hl, fun d h => by have := hd d h; omega⟩
def pNm (x : List Int) : Prop := x.length ≤ 1000000 ∧ ∀ d ∈ x, bZ d
theorem zm1 (x : List Int) (h : pNm x) : FC Tryz.prog 142 [.sq x] (.ni (vl x)) := by
  obtain ⟨hx, hp⟩ := h
  have toNi : ∀ {l : List Int}, l = aZ (vl x) → FC Tryz.prog 142 [.sq x] (.sq l) → FC Tryz.prog 142 [.sq x] (.ni (vl x)) := fun hl hf => hf.res fun E v hr => hr.toNi rfl hl
  cases x with
  | nil => exact toNi rfl (rn_0 [] (rn_L0_0_1 [] (by simp)) rn_L1_0_0 (by unfold pTr; simp))
  | cons d x =>
    have hd := hp d (by simp)
    have hd' := hd
    unfold bZ at hd'
    obtain ⟨c, out, a1, a2, a3, a4, a5, a6⟩ := rnA x.length (d :: x) 1 (d / 100000000 + (d % 100000000 + 0) / 100000000) [(d % 100000000 + 0) % 100000000] (by simp; omega) (by simp at hx ⊢; omega) hp
      (zbc (out := []) (fun d hd => by cases hd) (by omega) (by omega)) (by simp at hx ⊢; omega) (by omega) (by omega)
    have hL0 : zer (zaA (d :: x)) (.exit 0, zah (d :: x) out.length c (d :: x).length out) :=
      rn_L0_0_0 (d :: x) (by simp <;> omega) (by simp) hd (by simp only [List.getD_cons_zero]; omega) (by simp only [List.getD_cons_zero]; unfold bZ; omega) (by simp only [List.getD_cons_zero]; omega) a6
    have hv : vl out + 100000000 ^ out.length * c = vl (d :: x) := by
      rw [a3]
      simp only [vl, List.length_singleton, List.drop_succ_cons, List.drop_zero, Int.pow_succ, Int.pow_zero]
      omega
    have hol : out.length ≤ 1000000 := by simp at a2 hx; omega
    have hone : out ≠ [] := by intro h; rw [h] at a2; simp at a2; omega
    have take_all2 : ∀ l : List Int, l.take l.length = l := fun l => List.take_length
    by_cases c0 : c = 0
    · have hL2 : zc8 (zai out.length c out) (.exit 2, zbm out.length c out) := rn_L2_0_2 _ _ _ c0
      have := rn_1 (d :: x) out.length c (d :: x).length out hL0 hL2 c0 (Nat.le_refl _) (by rw [take_all2]; unfold pTr; omega)
      rw [take_all2] at this
      refine toNi ?_ this
      rw [zlL a1, ← hv, c0, Int.mul_zero, Int.add_zero]
    by_cases c1 : c = -1
    · have hL2 : zc8 (zai out.length c out) (.exit 2, zbm out.length c out) := rn_L2_0_1 _ _ _ c0 c1
      obtain ⟨b, sz, k1, k2, k3, k4, k5⟩ := rnL3 out a1 hone (by omega)
      have hcp := nf_cpl (v := vl (d :: x)) a1 k2 k3 k1 (by rw [← hv, c1]; omega) k4
      by_cases hb : b = 0
      · have es := zfI sz 1
        rw [k3] at es
        have ea : List.take (out.length + 1) (sz ++ [1]) = sz ++ [1] := List.take_of_length_le (by simp [k3])
        have hres := rn_3 (d :: x) out.length c (d :: x).length out out.length b out.length sz hL0 hL2 c0 k5 hb (by omega) (by omega) (by omega) (by rw [es]; simp [k3]) (by rw [es, ea]; exact zit (zbc k2 (by decide) (by decide)) (by simp; omega))
        rw [es, ea] at hres
        exact toNi (hcp.1 hb) hres
      · have ea : List.take out.length sz = sz := by rw [← k3]; exact List.take_length
        have hres := rn_4 (d :: x) out.length c (d :: x).length out out.length b out.length sz hL0 hL2 c0 k5 hb (by omega) (by rw [ea]; exact zit k2 (by omega))
        rw [ea] at hres
        exact toNi (hcp.2 hb) hres
    · obtain ⟨c', out', e1, e2, e3, e4, e5⟩ := rnB (c / 100000000).natAbs out.length c out (c / 100000000) (out ++ [c % 100000000]) (Nat.le_refl _) (by omega) (by omega) (zbc a1 (by omega) (by omega)) (by simp; omega)
      have hL2 : zc8 (zai out.length c out) (.exit 2, zbn out.length c out out'.length c' out') := by
        refine rn_L2_0_0 _ _ _ c0 c1 (by unfold bZ; omega) (by omega) (by omega) (by omega) ?_
        rw [zfI]; simpa using e5
      have hv' : vl out' + 100000000 ^ out'.length * c' = vl (d :: x) := by
        rw [e4, ← hv]
        have := zfL out 0 c (c % 100000000) (c / 100000000) 0 (by omega)
        simpa using this
      have hol' : out'.length ≤ 1048000 := by have := e3.2; simp at this; omega
      have hone' : out' ≠ [] := by intro h; have := e3.1; rw [h] at this; simp at this
      rcases e1 with rfl | rfl
      · have := rn_5 (d :: x) out.length c (d :: x).length out out'.length 0 out' hL0 hL2 rfl (Nat.le_refl _) (by rw [take_all2]; unfold pTr; omega)
        rw [take_all2] at this
        refine toNi ?_ this
        rw [zlL e2, ← hv', Int.mul_zero, Int.add_zero]
      · obtain ⟨b, sz, k1, k2, k3, k4, k5⟩ := rnL4 out' e2 hone' (by omega)
        have hcp := nf_cpl (v := vl (d :: x)) e2 k2 k3 k1 (by rw [← hv']; omega) k4
        by_cases hb : b = 0
        · have es := zfI sz 1
          rw [k3] at es
          have ea : List.take (out'.length + 1) (sz ++ [1]) = sz ++ [1] := List.take_of_length_le (by simp [k3])
          have hres := rn_7 (d :: x) out.length c (d :: x).length out out'.length (-1) out' out'.length b out'.length sz hL0 hL2 (by decide) k5 hb (by omega) (by omega) (by omega) (by rw [es]; simp [k3]) (by rw [es, ea]; exact zit (zbc k2 (by decide) (by decide)) (by simp; omega))
          rw [es, ea] at hres
          exact toNi (hcp.1 hb) hres
        · have ea : List.take out'.length sz = sz := by rw [← k3]; exact List.take_length
          have hres := rn_8 (d :: x) out.length c (d :: x).length out out'.length (-1) out' out'.length b out'.length sz hL0 hL2 (by decide) k5 hb (by omega) (by rw [ea]; exact zit k2 (by omega))
          rw [ea] at hres
          exact toNi (hcp.2 hb) hres
abbrev IN (a b : List Int) (i : Int) : St := ⟨sp 26 [(0, .sq a), (1, .sq b), (4, .ff), (5, .lit (.int .i64 i))], [], []⟩
theorem xA_0 (x y : List Int) : zaf (dZ Tryz.prog za9 bw) 60 65 [.sq x, .sq y] [] [] = some (.ni (vl x + vl y), [zcP x, zcP y, decide (vl x < 0) = decide (vl x < 0), decide (vl y < 0) = decide (vl y < 0), pDD (vl x) (vl y), decide (vl x + vl y < 0) = decide (vl x + vl y < 0), dl (vl x + vl y) ≤ 1048576]) := by kernel_rfl
theorem xS_0 (x y : List Int) : zaf (dZ Tryz.prog za9 bw) 60 64 [.sq x, .sq y] [] [] = some (.ni (vl x + -vl y), [zcP x, zcP y, decide (vl y < 0) = decide (vl y < 0), True, decide (vl x < 0) = decide (vl x < 0), decide (-vl y < 0) = decide (-vl y < 0), pDD (vl x) (-vl y), decide (vl x + -vl y < 0) = decide (vl x + -vl y < 0), dl (vl x + -vl y) ≤ 1048576]) := by kernel_rfl
theorem xC_0 (x y : List Int) : zaf (dZ Tryz.prog za9 bw) 60 66 [.sq x, .sq y] [] [] = some (aI (vl x - vl y).sign, [zcP x, zcP y, decide (vl x < 0) = decide (vl x < 0), decide (vl y < 0) = decide (vl y < 0), pDD (vl x) (vl y)]) := by kernel_rfl
theorem xD_0 (x y : List Int) : zaf (dZ Tryz.prog za9 bw) 60 79 [.sq x, .sq y] [true] [] = some (.tup [aN, aN, aI 12], [zcP y, decide (vl y < 0) = decide (vl y < 0), True, ((vl y).sign == 0) = true]) := by kernel_rfl
abbrev zfO (x : List Int) (y : List Int) : AV := .tup [.agg [.lit (.bool (decide (vl x / vl y < 0))), .wd (vl x / vl y)], .agg [.lit (.bool (decide (vl x % vl y < 0))), .wd (vl x % vl y)]]
abbrev zc4 (y : List Int) : AV := .agg [.lit (.bool (decide (vl y < 0))), .wd (vl y)]
abbrev zlb (x : List Int) (y : List Int) : Row := .flat [.lit (.bool (decide (vl x / vl y < 0))), .wd (vl x / vl y)] true
abbrev zlc (x : List Int) (y : List Int) : Row := .flat [.lit (.bool (decide (vl x % vl y < 0))), .wd (vl x % vl y)] true
abbrev zld (x : List Int) (y : List Int) : AV := .agg [.lit (.bool (decide (vl x / vl y < 0))), .wd (vl x / vl y)]
abbrev zle (x : List Int) (y : List Int) : AV := .agg [.lit (.bool (decide (vl x % vl y < 0))), .wd (vl x % vl y)]
abbrev zlf (y : List Int) : Row := .flat [.lit (.bool (decide (vl y < 0))), .wd (vl y)] true
abbrev zlg (x : List Int) : AV := .agg [.lit (.bool (decide (vl x < 0))), .wd (vl x)]
abbrev zfM (x y : List Int) : St := ⟨sp 26 [(0, .sq x), (1, .sq y), (4, aN), (5, aN), (6, aI 0), (7, .ref 0 0), (8, .ref 1 0), (9, .ref 2 0), (10, .sq y), (11, (zc4 y)), (12, (zc4 y)), (13, aI (vl y).sign), (14, .lit (.bool ((vl y).sign == 0))), (15, (zfO x y)), (16, .sq x), (17, (zlg x)), (18, (zc4 y)), (19, (zfO x y)), (20, (zld x y)), (21, (zle x y))], [(zlf y), (zlb x y), (zlc x y)], [0, 1]⟩
abbrev zfN (x y : List Int) : St := ⟨sp 26 [(0, .sq x), (1, .sq y), (4, aN), (5, aN), (6, aI 0), (7, .ref 0 0), (8, .ref 2 0), (9, .ref 1 0), (10, .sq y), (11, (zc4 y)), (12, (zc4 y)), (13, aI (vl y).sign), (14, .lit (.bool ((vl y).sign == 0))), (15, (zfO x y)), (16, .sq x), (17, (zlg x)), (18, (zc4 y)), (19, (zfO x y)), (20, (zld x y)), (21, (zle x y))], [(zlf y), (zlc x y), (zlb x y)], [0, 1]⟩
abbrev zcp (x y : List Int) : St := ⟨sp 26 [(0, .sq x), (1, .sq y), (4, aN), (5, aN), (6, aI 0), (7, .ref 0 0), (8, .ref 1 0), (9, .ref 2 0), (10, .sq y), (11, (zc4 y)), (12, (zc4 y)), (13, aI (vl y).sign), (14, .lit (.bool ((vl y).sign == 0))), (15, (zfO x y)), (16, .sq x), (17, (zlg x)), (18, (zc4 y)), (19, (zfO x y)), (20, (zld x y)), (21, (zle x y))], [(zlf y), (zlb x y), (zlc x y)], [0]⟩
theorem xD_1 (x y : List Int) : zaf (dZ Tryz.prog za9 bw) 60 79 [.sq x, .sq y] [false] [] = some (.tup [.ni (vl x / vl y), .ni (vl x % vl y), aI 0], [zcP y, decide (vl y < 0) = decide (vl y < 0), True, ((vl y).sign == 0) = false, zcP x, decide (vl x < 0) = decide (vl x < 0), decide (vl y < 0) = decide (vl y < 0), zbS (vl x) (vl y), (zcp x y) = (zcp x y), decide (vl x < 0) = decide (vl x < 0), decide (vl y < 0) = decide (vl y < 0), zbS (vl x) (vl y), decide (vl x < 0) = decide (vl x < 0), decide (vl y < 0) = decide (vl y < 0), zbS (vl x) (vl y), (zfM x y) = (zfM x y), decide (vl x < 0) = decide (vl x < 0), decide (vl y < 0) = decide (vl y < 0), zbS (vl x) (vl y), decide (vl x < 0) = decide (vl x < 0), decide (vl y < 0) = decide (vl y < 0), zbS (vl x) (vl y), (zfN x y) = (zfN x y), (zcp x y) = (zcp x y), (zcp x y) = (zcp x y), zcP x, decide (vl x < 0) = decide (vl x < 0), decide (vl y < 0) = decide (vl y < 0), zbS (vl x) (vl y), decide (vl x < 0) = decide (vl x < 0), decide (vl y < 0) = decide (vl y < 0), zbS (vl x) (vl y), (zfM x y) = (zfM x y), zcP x, decide (vl x < 0) = decide (vl x < 0), decide (vl y < 0) = decide (vl y < 0), zbS (vl x) (vl y), (zfM x y) = (zfM x y), zcP x, decide (vl x < 0) = decide (vl x < 0), decide (vl y < 0) = decide (vl y < 0), zbS (vl x) (vl y), decide (vl x < 0) = decide (vl x < 0), decide (vl y < 0) = decide (vl y < 0), zbS (vl x) (vl y), (zfN x y) = (zfN x y), zcP x, decide (vl x < 0) = decide (vl x < 0), decide (vl y < 0) = decide (vl y < 0), zbS (vl x) (vl y), (zfN x y) = (zfN x y), (zcp x y) = (zcp x y), (zcp x y) = (zcp x y), decide (vl x / vl y < 0) = decide (vl x / vl y < 0), dl (vl x / vl y) ≤ 1048576, decide (vl x % vl y < 0) = decide (vl x % vl y < 0), dl (vl x % vl y) ≤ 1048576]) := by kernel_rfl
theorem inL_0 (a b : List Int) (i : Int) : za3 (dZ Tryz.prog za9 bw) 60 (eZ Tryz.prog 58 0) 0 [] [0, 1, 4, 5] [] (IN a b i) [true, true] [] = some (Ex.ret, ⟨sp 26 [(0, .sq a), (1, .sq b), (4, .ff), (5, aI i)], [], []⟩, [decide (i < (a.length : Int)) = true, decide (0 ≤ i) = true, decide (i < (a.length : Int)) = true, decide (i.toNat < a.length) = true, decide (0 ≤ i) = true, decide (i < (b.length : Int)) = true, decide (i.toNat < b.length) = true, (a.getD i.toNat 0 != b.getD i.toNat 0) = true]) := by kernel_rfl
theorem inL_1 (a b : List Int) (i : Int) : za3 (dZ Tryz.prog za9 bw) 60 (eZ Tryz.prog 58 0) 0 [] [0, 1, 4, 5] [] (IN a b i) [true, false] [] = some (Ex.normal, ⟨sp 26 [(0, .sq a), (1, .sq b), (4, .ff), (5, aI (i + 1))], [], []⟩, [decide (i < (a.length : Int)) = true, decide (0 ≤ i) = true, decide (i < (a.length : Int)) = true, decide (i.toNat < a.length) = true, decide (0 ≤ i) = true, decide (i < (b.length : Int)) = true, decide (i.toNat < b.length) = true, (a.getD i.toNat 0 != b.getD i.toNat 0) = false, inR .i64 (i + 1) = true]) := by kernel_rfl
theorem inL_2 (a b : List Int) (i : Int) : za3 (dZ Tryz.prog za9 bw) 60 (eZ Tryz.prog 58 0) 0 [] [0, 1, 4, 5] [] (IN a b i) [false] [] = some (Ex.exit 0, ⟨sp 26 [(0, .sq a), (1, .sq b), (4, .ff), (5, aI i)], [], []⟩, [decide (i < (a.length : Int)) = false]) := by kernel_rfl
theorem inE_1 (a b : List Int) (i : Int) : zaf (dZ Tryz.prog za9 bw) 60 58 [.sq a, .sq b] [false] [some (wZ Tryz.prog (eZ Tryz.prog 58 0) [] [0,1,4,5] [] (IN a b 0) (.exit 0, IN a b i))] = some (.tt, [((a.length : Int) != (b.length : Int)) = false, IZ Tryz.prog (eZ Tryz.prog 58 0) (wZ Tryz.prog (eZ Tryz.prog 58 0) [] [0, 1, 4, 5] [] ⟨sp 26 [(0, .sq a), (1, .sq b), (4, .ff), (5, aI 0)], [], []⟩ (Ex.exit 0, ⟨sp 26 [(0, .sq a), (1, .sq b), (4, .ff), (5, aI i)], [], []⟩)), (⟨sp 26 [(0, .sq a), (1, .sq b), (4, .ff), (5, aI 0)], [], []⟩ : St) = ⟨sp 26 [(0, .sq a), (1, .sq b), (4, .ff), (5, aI 0)], [], []⟩, Loops 0 Tryz.prog (eZ Tryz.prog 58 0) ⟨sp 26 [(0, .sq a), (1, .sq b), (4, .ff), (5, aI 0)], [], []⟩ (Ex.exit 0, ⟨sp 26 [(0, .sq a), (1, .sq b), (4, .ff), (5, aI i)], [], []⟩)]) := by kernel_rfl
theorem inR_1 (a b : List Int) (i : Int) : zaf (dZ Tryz.prog za9 bw) 60 58 [.sq a, .sq b] [false] [some (wZ Tryz.prog (eZ Tryz.prog 58 0) [] [0,1,4,5] [] (IN a b 0) (.ret, IN a b i))] = some (.ff, [((a.length : Int) != (b.length : Int)) = false, IZ Tryz.prog (eZ Tryz.prog 58 0) (wZ Tryz.prog (eZ Tryz.prog 58 0) [] [0, 1, 4, 5] [] ⟨sp 26 [(0, .sq a), (1, .sq b), (4, .ff), (5, aI 0)], [], []⟩ (Ex.ret, ⟨sp 26 [(0, .sq a), (1, .sq b), (4, .ff), (5, aI i)], [], []⟩)), (⟨sp 26 [(0, .sq a), (1, .sq b), (4, .ff), (5, aI 0)], [], []⟩ : St) = ⟨sp 26 [(0, .sq a), (1, .sq b), (4, .ff), (5, aI 0)], [], []⟩, Loops 0 Tryz.prog (eZ Tryz.prog 58 0) ⟨sp 26 [(0, .sq a), (1, .sq b), (4, .ff), (5, aI 0)], [], []⟩ (Ex.ret, ⟨sp 26 [(0, .sq a), (1, .sq b), (4, .ff), (5, aI i)], [], []⟩)]) := by kernel_rfl
theorem inN_0 (a b : List Int) : zaf (dZ Tryz.prog za9 bw) 60 58 [.sq a, .sq b] [true] [] = some (.ff, [((a.length : Int) != (b.length : Int)) = true]) := by kernel_rfl
def pLs (x : List Int) : Prop := x.length ≤ 1000 ∧ ∀ d ∈ x, bZ d
theorem vl_le : ∀ (x : List Int), (∀ d ∈ x, bZ d) → (vl x).natAbs + 10000000000000000000 ≤ 10000000000000000000 * 100000000 ^ x.length
  | [], _ => by simp [vl]
  | d :: l, h => by
    have h1 := h d (by simp)
    have h2 := vl_le l fun e he => h e (by simp [he])
    unfold bZ at h1
    simp only [vl, List.length_cons, Nat.pow_succ]
    have h3 : (d + 100000000 * vl l).natAbs ≤ d.natAbs + 100000000 * (vl l).natAbs := by
      have := Int.natAbs_add_le d (100000000 * vl l)
      rw [Int.natAbs_mul] at this
      simpa using this
    have h4 : d.natAbs ≤ 9223372036854775808 := by omega
    generalize (vl l).natAbs = v at h2 h3
    generalize 100000000 ^ l.length = P at h2 ⊢
    omega
theorem vl_sz {x : List Int} (h : ∀ d ∈ x, bZ d) : Sz (x.length + 3) (vl x) := by
  have h1 := vl_le x h
  unfold Sz
  rw [Nat.pow_add]
  have : (100000000 : Nat) ^ 3 = 1000000000000000000000000 := by decide
  rw [this]
  have h2 : 0 < 100000000 ^ x.length := Nat.pow_pos (by decide)
  generalize 100000000 ^ x.length = P at h1 h2 ⊢
  omega
theorem zf5 {x : List Int} (h : pLs x) : Sz 1003 (vl x) := (vl_sz h.2).mono (by have := h.1; omega)
theorem zbD {x : List Int} (h : pLs x) : zcP x := ⟨by have := h.1; omega, h.2⟩
theorem szdl {k : Nat} {z : Int} (h : Sz k z) (hk : k ≤ 1048576) : List.length (digs (Int.natAbs z)) ≤ 1048576 := Nat.le_trans (zaz z.natAbs k h) hk
def pXY (x y : List Int) : Prop := pLs x ∧ pLs y
section
variable {x y : List Int}
theorem add_fc (x y : List Int) (h : pXY x y) : FC Tryz.prog 65 [.sq x, .sq y] (.ni (vl x + vl y)) := by
  have a := zf5 h.1; have b := zf5 h.2; have rx := zbD h.1; have ry := zbD h.2
  have ix : SzC (vl x) 1003 := ⟨a⟩
  have iy : SzC (vl y) 1003 := ⟨b⟩
  exact jZ zha (xA_0 x y) (.cons rx (.cons ry (.cons rfl (.cons rfl (.cons ⟨zdH (by decide), zdH (by decide)⟩ (.cons rfl (.cons (szdl (SzC.ok (z := vl x + vl y)) (by decide)) .nil)))))))
theorem sub_fc (x y : List Int) (h : pXY x y) : FC Tryz.prog 64 [.sq x, .sq y] (.ni (vl x - vl y)) := by
  have a := zf5 h.1; have b := zf5 h.2; have rx := zbD h.1; have ry := zbD h.2
  have ix : SzC (vl x) 1003 := ⟨a⟩
  have iy : SzC (vl y) 1003 := ⟨b⟩
  exact jZ zha (xS_0 x y) (.cons rx (.cons ry (.cons rfl (.cons trivial (.cons rfl (.cons rfl (.cons ⟨zdH (by decide), zdH (by decide)⟩ (.cons rfl (.cons (szdl (SzC.ok (z := vl x + -vl y)) (by decide)) .nil)))))))))
theorem cmp_fc (x y : List Int) (h : pXY x y) : FC Tryz.prog 66 [.sq x, .sq y] (.lit (.int .i64 (vl x - vl y).sign)) := by
  have a := zf5 h.1; have b := zf5 h.2; have rx := zbD h.1; have ry := zbD h.2
  exact jZ zha (xC_0 x y) (.cons rx (.cons ry (.cons rfl (.cons rfl (.cons ⟨CZ a (by decide), CZ b (by decide)⟩ .nil)))))
end
theorem zmj (z : Int) : (z.sign == 0) = decide (z = 0) := by
  by_cases h : z = 0
  · subst h; rfl
  · have : z.sign ≠ 0 := fun h1 => h (Int.sign_eq_zero_iff_zero.1 h1)
    simp [h, this]
def pD0 (x y : List Int) : Prop := pXY x y ∧ vl y = 0
def pD1 (x y : List Int) : Prop := pXY x y ∧ vl y ≠ 0
theorem div0_fc (x y : List Int) (h : pD0 x y) : FC Tryz.prog 79 [.sq x, .sq y] (.tup [.lit (.slice none 0 0), .lit (.slice none 0 0), .lit (.int .i64 12)]) :=
  jZ zha (xD_0 x y) (.cons (zbD h.1.2) (.cons rfl (.cons trivial (.cons (by rw [zmj]; exact decide_eq_true h.2) .nil))))
theorem div_sz {x y : Int} {k : Nat} (hx : Sz k x) : Sz k (x / y) := hx.le (Int.natAbs_ediv_le_natAbs x y)
theorem mod_sz {x y : Int} {k : Nat} (hy : Sz k y) (h0 : y ≠ 0) : Sz k (x % y) := by
  refine hy.le ?_
  have h1 := Int.emod_nonneg x h0
  have h2 := Int.emod_lt x h0
  omega
theorem div1_fc (x y : List Int) (h : pD1 x y) : FC Tryz.prog 79 [.sq x, .sq y] (.tup [.ni (vl x / vl y), .ni (vl x % vl y), .lit (.int .i64 0)]) := by
  obtain ⟨h, h0⟩ := h
  have a := zf5 h.1; have b := zf5 h.2; have rx := zbD h.1; have ry := zbD h.2
  have hov : zbS (vl x) (vl y) := ⟨h0, CZ a (by decide), CZ b (by decide)⟩
  have h1 : (Int.sign (vl y) == 0) = false := by rw [zmj]; exact decide_eq_false h0
  have d1 := szdl (div_sz (y := vl y) a) (by decide)
  have d2 := szdl (mod_sz (x := vl x) b h0) (by decide)
  exact jZ zha (xD_1 x y) (by (repeat' (first | exact AllC.nil | refine AllC.cons ?_ ?_)); all_goals (first | (with_reducible rfl) | assumption | trivial | rfl))
theorem zjZ (a b : List Int) (hl : a.length = b.length) (hs : a.length ≤ 4611686018427387904) : ∀ (k : Nat) (i : Nat), i + k = a.length →
    (a.drop i = b.drop i ∧ Loops 0 Tryz.prog (eZ Tryz.prog 58 0) (IN a b i) (.exit 0, IN a b a.length)) ∨
    (a.drop i ≠ b.drop i ∧ ∃ j : Int, Loops 0 Tryz.prog (eZ Tryz.prog 58 0) (IN a b i) (.ret, IN a b j))
  | 0, i, hi => by
    obtain rfl : i = a.length := by omega
    refine .inl ⟨?_, Loops.fin (LS.of zha (inL_2 a b a.length) (.cons (decide_eq_false (by omega)) .nil)) (by simp [Ex.toExit])⟩
    rw [List.drop_length, hl, List.drop_length]
  | k + 1, i, hi => by
    have hia : i < a.length := by omega
    have hib : i < b.length := by omega
    have ea : a.drop i = a.getD i 0 :: a.drop (i + 1) := by rw [List.drop_eq_getElem_cons hia]; simp [List.getD, hia]
    have eb : b.drop i = b.getD i 0 :: b.drop (i + 1) := by rw [List.drop_eq_getElem_cons hib]; simp [List.getD, hib]
    have hn : Int.toNat (i : Int) = i := by omega
    by_cases h : a.getD i 0 = b.getD i 0
    · have hx : (a.getD i 0 != b.getD i 0) = false := by simpa using h
      have hgo := LS.of zha (inL_1 a b i) (by rw [hn]; (repeat' (first | exact AllC.nil | refine AllC.cons ?_ ?_)); all_goals (first | (with_reducible exact hx) | (with_reducible exact inR64.2 (by omega)) | (refine decide_eq_true ?_; omega)))
      rcases zjZ a b hl hs k (i + 1) (by omega) with ⟨h1, h2⟩ | ⟨h1, j, h2⟩
      · exact .inl ⟨by rw [ea, eb, h, h1], Loops.go hgo h2⟩
      · exact .inr ⟨by rw [ea, eb]; intro hh; exact h1 (List.cons.inj hh).2, j, Loops.go hgo h2⟩
    · have hx : (a.getD i 0 != b.getD i 0) = true := by simpa using h
      have hgo := LS.of zha (inL_0 a b i) (by rw [hn]; (repeat' (first | exact AllC.nil | refine AllC.cons ?_ ?_)); all_goals (first | (with_reducible exact hx) | (refine decide_eq_true ?_; omega)))
      exact .inr ⟨by rw [ea, eb]; intro hh; exact h (List.cons.inj hh).1, i, Loops.fin hgo (by simp [Ex.toExit])⟩
def pIn (a b : List Int) : Prop := a.length ≤ 1048576 ∧ b.length ≤ 1048576
theorem ints_fc (a b : List Int) (h : pIn a b) : FC Tryz.prog 58 [.sq a, .sq b] (.lit (.bool (decide (a = b)))) := by
  by_cases hl : a.length = b.length
  · have hne : ((a.length : Int) != (b.length : Int)) = false := by rw [hl]; simp
    rcases zjZ a b hl (by have := h.1; omega) a.length 0 (by omega) with ⟨h1, h2⟩ | ⟨h1, j, h2⟩
    · have e : a = b := by simpa using h1
      have := jZ zha (inE_1 a b a.length) (.cons hne (.cons fZ (.cons rfl (.cons h2 .nil))))
      refine this.res fun E v hv => ?_
      cases hv
      rw [decide_eq_true e]; exact .lit _
    · have e : a ≠ b := by simpa using h1
      have := jZ zha (inR_1 a b j) (.cons hne (.cons fZ (.cons rfl (.cons h2 .nil))))
      refine this.res fun E v hv => ?_
      rw [decide_eq_false e]
      first | exact hv | (cases hv; exact .lit _)
  · have hne : ((a.length : Int) != (b.length : Int)) = true := by simp; omega
    have := jZ zha (inN_0 a b) (.cons hne .nil)
    refine this.res fun E v hv => ?_
    have e : a ≠ b := fun h => hl (by rw [h])
    cases hv
    rw [decide_eq_false e]; exact .lit _
def twoC (t : List AV → M Bool) (a b : List AV → M AV) (args : List AV) : M AV := do
  let d ← t args
  match d with
  | true => a args
  | false => b args
theorem twoC_ok {P : Program} {f : FuncId} {t : List AV → M Bool} {a b : List AV → M AV} (ha : tZ P f a) (hb : tZ P f b) : tZ P f (twoC t a b) := by
  intro args hd
  unfold twoC
  refine Spec.bind ?_
  intro c s x s' cs _ _
  cases x
  · exact hb args hd
  · exact ha args hd
def tZero (args : List AV) : M Bool := match args with
  | [_, y] => do
    let q ← ofOpt 270 (ints? y)
    dec (decide (vl q = 0))
  | _ => fail 271
def ctrX : Ctr :=
  (65, cLL pXY (fun x y => .ni (vl x + vl y))) :: (64, cLL pXY (fun x y => .ni (vl x - vl y))) ::
  (66, cLL pXY (fun x y => .lit (.int .i64 (vl x - vl y).sign))) ::
  (79, twoC tZero (cLL pD0 (fun _ _ => .tup [.lit (.slice none 0 0), .lit (.slice none 0 0), .lit (.int .i64 12)])) (cLL pD1 (fun x y => .tup [.ni (vl x / vl y), .ni (vl x % vl y), .lit (.int .i64 0)]))) ::
  (58, cLL pIn (fun a b => .lit (.bool (decide (a = b))))) :: za9
theorem ctrX_all : ∀ p ∈ ctrX, tZ Tryz.prog p.1 p.2 :=
  CAll.cons (zbM add_fc) <| CAll.cons (zbM sub_fc) <| CAll.cons (zbM cmp_fc) <|
  CAll.cons (twoC_ok (zbM div0_fc) (zbM div1_fc)) <| CAll.cons (zbM ints_fc) zez
def ctrF3 : Ctr := (142, cL pNm (fun x => .ni (vl x))) :: ctrF2
theorem zjD : ∀ p ∈ ctrF3, tZ Tryz.prog p.1 p.2 := CAll.cons (zhG zm1) zjC
theorem zjo : (dZ Tryz.prog ctrF3 bw).OK := QZ zjD
theorem rne_0 (z : Int) (h1 : (↑((aZ z).length) : Int) > 0) (h2 : r64 ((↑((aZ z).length) : Int) - 1)) (h3 : 0 ≤ (↑((aZ z).length) : Int) - 1) (h4 : (↑((aZ z).length) : Int) - 1 < (↑((aZ z).length) : Int)) (h5 : ((↑((aZ z).length) : Int) - 1).toNat < (aZ z).length) : FC Tryz.prog 161 [.ni z] (.lit (.bool (decide ((aZ z).getD ((↑((aZ z).length) : Int) - 1).toNat 0 < 0)))) := kZ zjo 60 [(0, true)] [] (.cons (dT h1) (.cons (iR h2) (.cons (dT h3) (.cons (dT h4) (.cons (dT h5) .nil))))) (by kernel_rfl)
theorem rne_1 (z : Int) (h1 : ¬ ((↑((aZ z).length) : Int) > 0)) : FC Tryz.prog 161 [.ni z] (.ff) := kZ zjo 60 [(0, false)] [] (.cons (dF h1) .nil) (by kernel_rfl)
theorem rle_0 (a b : Int) (h1 : (↑((aZ a).length) : Int) ≠ (↑((aZ b).length) : Int)) : FC Tryz.prog 213 [.ni a, .ni b] (.lit (.bool (decide ((↑((aZ a).length) : Int) < (↑((aZ b).length) : Int))))) := kZ zjo 60 [(0, true)] [] (.cons (bne_iff_ne.2 h1) .nil) (by kernel_rfl)
abbrev zf9 (s : St) (r : Ex × St) : Prop := Loops 0 Tryz.prog (eZ Tryz.prog 213 0) s r
abbrev zbl (a b c : Int) : St := ⟨sp 41 [(0, .ni a), (1, .ni b), (5, aI c)], [], []⟩
abbrev zeX (a b : Int) (c : Bool) : St := ⟨sp 41 [(4, .lit (.bool c))], [], []⟩
abbrev zeY (a b c : Int) : St := ⟨sp 41 [(0, .ni a), (1, .ni b), (5, aI c)], [], []⟩
theorem zny (a b c : Int) (h1 : c ≥ 0) (h2 : 0 ≤ c) (h3 : c < (↑((aZ a).length) : Int)) (h4 : c.toNat < (aZ a).length) (h5 : c < (↑((aZ b).length) : Int)) (h6 : c.toNat < (aZ b).length) (h7 : (aZ a).getD c.toNat 0 ≠ (aZ b).getD c.toNat 0) : zf9 (zbl a b c) (Ex.ret, (zeX a b (decide ((aZ a).getD c.toNat 0 < (aZ b).getD c.toNat 0)))) := Loops.fin (LS.at zjo 60 [] [4] [] [(0, true), (0, true)] [] (.cons (dT h1) (.cons (dT h2) (.cons (dT h3) (.cons (dT h4) (.cons (dT h2) (.cons (dT h5) (.cons (dT h6) (.cons (bne_iff_ne.2 h7) (.cons (dT h2) (.cons (dT h3) (.cons (dT h4) (.cons (dT h2) (.cons (dT h5) (.cons (dT h6) .nil)))))))))))))) (by kernel_rfl)) (fun h => nomatch h)
theorem zh7 (a b c : Int) (h1 : c ≥ 0) (h2 : 0 ≤ c) (h3 : c < (↑((aZ a).length) : Int)) (h4 : c.toNat < (aZ a).length) (h5 : c < (↑((aZ b).length) : Int)) (h6 : c.toNat < (aZ b).length) (h7 : (aZ a).getD c.toNat 0 = (aZ b).getD c.toNat 0) (h8 : r64 (c - 1)) {r : Ex × St} (k : zf9 (zbl a b (c - 1)) r) : zf9 (zbl a b c) r := Loops.go (LS.at zjo 60 [] [0, 1, 5] [] [(0, true), (0, false)] [] (.cons (dT h1) (.cons (dT h2) (.cons (dT h3) (.cons (dT h4) (.cons (dT h2) (.cons (dT h5) (.cons (dT h6) (.cons (bne_eq_false_iff_eq.2 h7) (.cons (iR h8) .nil))))))))) (by kernel_rfl)) k
theorem znz (a b c : Int) (h1 : ¬ (c ≥ 0)) : zf9 (zbl a b c) (Ex.exit 0, (zeY a b c)) := Loops.fin (LS.at zjo 60 [] [0, 1, 5] [] [(0, false)] [] (.cons (dF h1) .nil) (by kernel_rfl)) (fun h => nomatch h)
theorem rle_1 (a b : Int) (c : Bool) (h1 : (↑((aZ a).length) : Int) = (↑((aZ b).length) : Int)) (h2 : r64 ((↑((aZ a).length) : Int) - 1)) (hL1 : zf9 (zbl a b ((↑((aZ a).length) : Int) - 1)) (Ex.ret, (zeX a b c))) : FC Tryz.prog 213 [.ni a, .ni b] (.lit (.bool c)) := kZ zjo 60 [(0, false)] [some (wZ Tryz.prog (eZ Tryz.prog 213 0) [] [0, 1, 5] [] (zbl a b ((↑((aZ a).length) : Int) - 1)) (Ex.ret, (zeX a b c)))] (.cons (bne_eq_false_iff_eq.2 h1) (.cons (iR h2) (.vi [0, 1, 5] [] hL1 .nil))) (by kernel_rfl)
theorem rle_2 (a b c : Int) (h1 : (↑((aZ a).length) : Int) = (↑((aZ b).length) : Int)) (h2 : r64 ((↑((aZ a).length) : Int) - 1)) (hL1 : zf9 (zbl a b ((↑((aZ a).length) : Int) - 1)) (Ex.exit 0, (zeY a b c))) : FC Tryz.prog 213 [.ni a, .ni b] (.ff) := kZ zjo 60 [(0, false)] [some (wZ Tryz.prog (eZ Tryz.prog 213 0) [] [0, 1, 5] [] (zbl a b ((↑((aZ a).length) : Int) - 1)) (Ex.exit 0, (zeY a b c)))] (.cons (bne_eq_false_iff_eq.2 h1) (.cons (iR h2) (.vi [0, 1, 5] [] hL1 .nil))) (by kernel_rfl)
abbrev zbb (s : St) (r : Ex × St) : Prop := Loops 0 Tryz.prog (eZ Tryz.prog 93 0) s r
abbrev zbE (a b : Int) : St := ⟨sp 48 [(0, .ni a), (1, .ni b), (5, aN), (6, aI 0)], [], []⟩
abbrev za1 (a b : Int) (c : Nat) (d : Int) (e : List Int) : St := ⟨sp 48 [(0, .ni a), (1, .ni b), (5, .own 0 0 c 1), (6, aI d)], [.ints e true], []⟩
abbrev zhg (a b : Int) : St := ⟨sp 48 [(0, .ni a), (1, .ni b), (5, aN), (6, aI 0)], [], []⟩
abbrev zdr (a b : Int) (c : Nat) (d : Int) (e : List Int) : St := ⟨sp 48 [(0, .ni a), (1, .ni b), (5, .own 0 0 c 1), (6, aI d)], [.ints e true], []⟩
theorem zm2 (a b : Int) (h1 : 0 < (↑((aZ a).length) : Int)) (h2 : 0 < (aZ a).length) (h3 : 0 < (↑((aZ b).length) : Int)) (h4 : 0 < (aZ b).length) (h5 : r64 ((aZ a).getD 0 0 + (aZ b).getD 0 0)) {r : Ex × St} (k : zbb (za1 a b (1) (1) ([(aZ a).getD 0 0 + (aZ b).getD 0 0])) r) : zbb (zbE a b) r := Loops.go (LS.at zjo 60 [1] [0, 1, 5, 6] [] [(0, true), (0, true), (0, true)] [] (.cons (dT h1) (.cons (dT h1) (.tt 1 (.cons (dT h1) (.cons (dT h2) (.cons (dT h3) (.tt 1 (.cons (dT h3) (.cons (dT h4) (.cons (iR h5) (.tt 3 (.cons (show decide ((List.take 1 [(aZ a).getD 0 0 + (aZ b).getD 0 0]).length = 1) = true from decide_eq_true rfl) (.tt 1 .nil))))))))))))) (by kernel_rfl)) k
theorem zm3 (a b : Int) (h1 : 0 < (↑((aZ a).length) : Int)) (h2 : 0 < (aZ a).length) (h3 : ¬ (0 < (↑((aZ b).length) : Int))) {r : Ex × St} (k : zbb (za1 a b (1) (1) ([(aZ a).getD 0 0])) r) : zbb (zbE a b) r := Loops.go (LS.at zjo 60 [1] [0, 1, 5, 6] [] [(0, true), (0, true), (0, false)] [] (.cons (dT h1) (.cons (dT h1) (.tt 1 (.cons (dT h1) (.cons (dT h2) (.cons (dF h3) (.tt 3 (.cons (show decide ((List.take 1 [(aZ a).getD 0 0]).length = 1) = true from decide_eq_true rfl) (.tt 1 .nil))))))))) (by kernel_rfl)) k
theorem zm4 (a b : Int) (h1 : ¬ (0 < (↑((aZ a).length) : Int))) (h2 : 0 < (↑((aZ b).length) : Int)) (h3 : 0 < (aZ b).length) (h4 : r64 (0 + (aZ b).getD 0 0)) {r : Ex × St} (k : zbb (za1 a b (1) (1) ([0 + (aZ b).getD 0 0])) r) : zbb (zbE a b) r := Loops.go (LS.at zjo 60 [1] [0, 1, 5, 6] [] [(0, false), (0, true), (0, false), (0, true)] [] (.cons (dF h1) (.cons (dT h2) (.cons (dF h1) (.cons (dT h2) (.tt 1 (.cons (dT h2) (.cons (dT h3) (.cons (iR h4) (.tt 3 (.cons (show decide ((List.take 1 [0 + (aZ b).getD 0 0]).length = 1) = true from decide_eq_true rfl) (.tt 1 .nil))))))))))) (by kernel_rfl)) k
theorem zm5 (a b : Int) (h1 : ¬ (0 < (↑((aZ a).length) : Int))) (h2 : ¬ (0 < (↑((aZ b).length) : Int))) : zbb (zbE a b) (Ex.exit 0, (zhg a b)) := Loops.fin (LS.at zjo 60 [] [0, 1, 5, 6] [] [(0, false), (0, false)] [] (.cons (dF h1) (.cons (dF h2) .nil)) (by kernel_rfl)) (fun h => nomatch h)
theorem zm6 (a b : Int) (c : Nat) (d : Int) (e : List Int) (h1 : d < (↑((aZ a).length) : Int)) (h2 : 0 ≤ d) (h3 : d.toNat < (aZ a).length) (h4 : d < (↑((aZ b).length) : Int)) (h5 : d.toNat < (aZ b).length) (h6 : r64 ((aZ a).getD d.toNat 0 + (aZ b).getD d.toNat 0)) (h7 : (c + 1) * 8 ≤ 140737488355328) (h8 : c + 1 ≤ 4611686018427387904) (h9 : c ≤ e.length) (h10 : r64 (d + 1)) {r : Ex × St} (k : zbb (za1 a b (c + 1) (d + 1) (e.take c ++ List.take 1 [(aZ a).getD d.toNat 0 + (aZ b).getD d.toNat 0])) r) : zbb (za1 a b c d e) r := Loops.go (LS.at zjo 60 [2] [0, 1, 5, 6] [] [(0, true), (0, true), (0, true)] [] (.cons (dT h1) (.cons (dT h1) (.cons (dT h2) (.cons (dT h1) (.cons (dT h3) (.cons (dT h4) (.cons (dT h2) (.cons (dT h4) (.cons (dT h5) (.cons (iR h6) (.cons (dT h7) (.cons (dT h8) (.cons (dT h9) (.cons (show decide ((List.take 1 [(aZ a).getD d.toNat 0 + (aZ b).getD d.toNat 0]).length = 1) = true from decide_eq_true rfl) (.cons (iR h10) .nil))))))))))))))) (by kernel_rfl)) k
theorem zm7 (a b : Int) (c : Nat) (d : Int) (e : List Int) (h1 : d < (↑((aZ a).length) : Int)) (h2 : 0 ≤ d) (h3 : d.toNat < (aZ a).length) (h4 : ¬ (d < (↑((aZ b).length) : Int))) (h5 : (c + 1) * 8 ≤ 140737488355328) (h6 : c + 1 ≤ 4611686018427387904) (h7 : c ≤ e.length) (h8 : r64 (d + 1)) {r : Ex × St} (k : zbb (za1 a b (c + 1) (d + 1) (e.take c ++ List.take 1 [(aZ a).getD d.toNat 0])) r) : zbb (za1 a b c d e) r := Loops.go (LS.at zjo 60 [2] [0, 1, 5, 6] [] [(0, true), (0, true), (0, false)] [] (.cons (dT h1) (.cons (dT h1) (.cons (dT h2) (.cons (dT h1) (.cons (dT h3) (.cons (dF h4) (.cons (dT h5) (.cons (dT h6) (.cons (dT h7) (.cons (show decide ((List.take 1 [(aZ a).getD d.toNat 0]).length = 1) = true from decide_eq_true rfl) (.cons (iR h8) .nil))))))))))) (by kernel_rfl)) k
theorem zm8 (a b : Int) (c : Nat) (d : Int) (e : List Int) (h1 : ¬ (d < (↑((aZ a).length) : Int))) (h2 : d < (↑((aZ b).length) : Int)) (h3 : 0 ≤ d) (h4 : d.toNat < (aZ b).length) (h5 : r64 (0 + (aZ b).getD d.toNat 0)) (h6 : (c + 1) * 8 ≤ 140737488355328) (h7 : c + 1 ≤ 4611686018427387904) (h8 : c ≤ e.length) (h9 : r64 (d + 1)) {r : Ex × St} (k : zbb (za1 a b (c + 1) (d + 1) (e.take c ++ List.take 1 [0 + (aZ b).getD d.toNat 0])) r) : zbb (za1 a b c d e) r := Loops.go (LS.at zjo 60 [2] [0, 1, 5, 6] [] [(0, false), (0, true), (0, false), (0, true)] [] (.cons (dF h1) (.cons (dT h2) (.cons (dF h1) (.cons (dT h2) (.cons (dT h3) (.cons (dT h2) (.cons (dT h4) (.cons (iR h5) (.cons (dT h6) (.cons (dT h7) (.cons (dT h8) (.cons (show decide ((List.take 1 [0 + (aZ b).getD d.toNat 0]).length = 1) = true from decide_eq_true rfl) (.cons (iR h9) .nil))))))))))))) (by kernel_rfl)) k
theorem zm9 (a b : Int) (c : Nat) (d : Int) (e : List Int) (h1 : ¬ (d < (↑((aZ a).length) : Int))) (h2 : ¬ (d < (↑((aZ b).length) : Int))) : zbb (za1 a b c d e) (Ex.exit 0, (zdr a b c d e)) := Loops.fin (LS.at zjo 60 [0] [0, 1, 5, 6] [] [(0, false), (0, false)] [] (.cons (dF h1) (.cons (dF h2) .nil)) (by kernel_rfl)) (fun h => nomatch h)
theorem rad_0 (x y : List Int) (h1 : pNm x) (h2 : pNm y) (hL1 : zbb (zbE (vl x) (vl y)) (Ex.exit 0, (zhg (vl x) (vl y)))) (h4 : pNm []) : FC Tryz.prog 93 [.sq x, .sq y] (.ni 0) := kZ zjo 60 [] [some (wZ Tryz.prog (eZ Tryz.prog 93 0) [] [0, 1, 5, 6] [] (zbE (vl x) (vl y)) (Ex.exit 0, (zhg (vl x) (vl y))))] (.cons h1 (.cons h2 (.vi [0, 1, 5, 6] [] hL1 (.cons h4 .nil)))) (by kernel_rfl)
theorem rad_1 (x y : List Int) (a : Nat) (b : Int) (c : List Int) (h1 : pNm x) (h2 : pNm y) (hL1 : zbb (zbE (vl x) (vl y)) (Ex.exit 0, (zdr (vl x) (vl y) a b c))) (h4 : a ≤ c.length) (h5 : pNm (c.take a)) : FC Tryz.prog 93 [.sq x, .sq y] (.ni (vl (c.take a))) := kZ zjo 60 [] [some (wZ Tryz.prog (eZ Tryz.prog 93 0) [] [0, 1, 5, 6] [] (zbE (vl x) (vl y)) (Ex.exit 0, (zdr (vl x) (vl y) a b c)))] (.cons h1 (.cons h2 (.vi [0, 1, 5, 6] [] hL1 (.cons h4 (.cons h5 .nil))))) (by kernel_rfl)
theorem gZ (z : Int) : (aZ z).length = dl z := by
  unfold aZ dl
  split <;> simp
theorem zgY {k : Nat} {z : Int} (h : Sz k z) : dl z ≤ k := zaz _ _ h
theorem zeL (z : Int) : ∀ d ∈ aZ z, -100000000 < d ∧ d < 100000000 := by
  intro d hd
  have h := pZ z.natAbs
  unfold aZ at hd
  split at hd
  · obtain ⟨e, he, rfl⟩ := List.mem_map.1 hd
    have := h e he; omega
  · have := h d hd; omega
theorem HZ (z : Int) (i : Nat) : -100000000 < (aZ z).getD i 0 ∧ (aZ z).getD i 0 < 100000000 := by
  by_cases h : i < (aZ z).length
  · exact zeL z _ (by simp [List.getD, h])
  · have : (aZ z).getD i 0 = 0 := by simp [List.getD, Nat.le_of_not_lt h]
    rw [this]; omega
theorem dl_zero {z : Int} : dl z = 0 ↔ z = 0 := by
  unfold dl
  rw [List.length_eq_zero_iff, zbY]; omega
theorem digs_last {n : Nat} (h : n ≠ 0) : 0 < (digs n).getD ((digs n).length - 1) 0 := by
  induction n using Nat.strongRecOn with
  | _ n ih =>
    rw [zbP n h]
    by_cases h1 : n / 100000000 = 0
    · rw [h1, TZ]; simp; omega
    · have := ih (n / 100000000) (by omega) h1
      have hl : (digs (n / 100000000)).length ≠ 0 := by rw [ne_eq, List.length_eq_zero_iff, zbY]; exact h1
      have e : (((n % 100000000 : Nat) : Int) :: digs (n / 100000000)).length - 1 = (digs (n / 100000000)).length - 1 + 1 := by simp; omega
      rw [e, List.getD_cons_succ]; exact this
theorem zmT {z : Int} (h : z ≠ 0) : (decide ((aZ z).getD ((aZ z).length - 1) 0 < 0)) = decide (z < 0) := by
  have h1 := digs_last (n := z.natAbs) (by omega)
  unfold aZ
  by_cases hz : z < 0
  · rw [if_pos hz, decide_eq_true hz, List.length_map]
    have hlt : (digs z.natAbs).length - 1 < (digs z.natAbs).length := by
      have : (digs z.natAbs).length ≠ 0 := by rw [ne_eq, List.length_eq_zero_iff, zbY]; omega
      omega
    have : ((digs z.natAbs).map fun d => -d).getD ((digs z.natAbs).length - 1) 0 = -((digs z.natAbs).getD ((digs z.natAbs).length - 1) 0) := by
      simp [List.getD, hlt]
    rw [this]
    exact decide_eq_true (by omega)
  · rw [if_neg hz, decide_eq_false hz]
    exact decide_eq_false (by omega)
def pNg (z : Int) : Prop := Sz 1000000 z
instance tNg {z : Int} : Tst (pNg z) := inferInstanceAs (Tst (Sz 1000000 z))
theorem zkd (z : Int) (h : pNg z) : FC Tryz.prog 161 [.ni z] (.lit (.bool (decide (z < 0)))) := by
  have hl := zgY h
  by_cases hz : z = 0
  · subst hz
    have := rne_1 0 (by rw [gZ]; simp [dl, TZ])
    exact this.res fun E v hv => by cases hv; exact .lit _
  · have hd : dl z ≠ 0 := fun h => hz (dl_zero.1 h)
    have := rne_0 z (by rw [gZ]; omega) (by rw [gZ]; omega) (by rw [gZ]; omega) (by omega) (by rw [gZ]; omega)
    have e : Int.toNat (((aZ z).length : Int) - 1) = (aZ z).length - 1 := by rw [gZ]; omega
    rw [e, zmT hz] at this
    exact this
theorem rl_loop (a b : Int) (ha : 0 ≤ a) (hb : 0 ≤ b) (hl : dl a = dl b) (hs : dl a ≤ 1000000) : ∀ (i : Nat), i ≤ dl a → (aZ a).drop i = (aZ b).drop i →
    (a = b ∧ zf9 (zbl a b ((i : Int) - 1)) (.exit 0, zeY a b (-1))) ∨ (a ≠ b ∧ zf9 (zbl a b ((i : Int) - 1)) (.ret, zeX a b (decide (a < b))))
  | 0, _, hd => .inl ⟨by rw [← cZ a, ← cZ b]; simpa using congrArg vl hd, znz a b _ (by omega)⟩
  | i + 1, hi, hd => by
    have la := gZ a
    have lb := gZ b
    have hn : Int.toNat (((i + 1 : Nat) : Int) - 1) = i := by omega
    have hc : ((i + 1 : Nat) : Int) - 1 = (i : Int) := by omega
    have hia : i < (aZ a).length := by omega
    have hib : i < (aZ b).length := by omega
    have ea : (aZ a).drop i = (aZ a).getD i 0 :: (aZ a).drop (i + 1) := by rw [List.drop_eq_getElem_cons hia]; simp [List.getD, hia]
    have eb : (aZ b).drop i = (aZ b).getD i 0 :: (aZ b).drop (i + 1) := by rw [List.drop_eq_getElem_cons hib]; simp [List.getD, hib]
    rw [hc]
    have hn' : Int.toNat (i : Int) = i := by omega
    by_cases h : (aZ a).getD i 0 = (aZ b).getD i 0
    · rcases rl_loop a b ha hb hl hs i (by omega) (by rw [ea, eb, h, hd]) with ⟨h1, h2⟩ | ⟨h1, h2⟩
      · exact .inl ⟨h1, zh7 a b i (by omega) (by omega) (by omega) (by omega) (by omega) (by omega) (by rw [hn']; exact h) (by omega) h2⟩
      · exact .inr ⟨h1, zh7 a b i (by omega) (by omega) (by omega) (by omega) (by omega) (by omega) (by rw [hn']; exact h) (by omega) h2⟩
    · have key : a ≠ b ∧ decide ((aZ a).getD i 0 < (aZ b).getD i 0) = decide (a < b) := by
        have ha' : aZ a = digs a.natAbs := by unfold aZ; rw [if_neg (by omega)]
        have hb' : aZ b = digs b.natAbs := by unfold aZ; rw [if_neg (by omega)]
        have hda : Digs (aZ a) := by rw [ha']; exact pZ _
        have hdb : Digs (aZ b) := by rw [hb']; exact pZ _
        have va : a = vl ((aZ a).take i) + 100000000 ^ i * ((aZ a).getD i 0 + 100000000 * vl ((aZ a).drop (i + 1))) := by
          conv => lhs; rw [← cZ a, ← List.take_append_drop i (aZ a), za7, ea]
          rw [List.length_take, Nat.min_eq_left (by omega)]; rfl
        have vb : b = vl ((aZ b).take i) + 100000000 ^ i * ((aZ b).getD i 0 + 100000000 * vl ((aZ a).drop (i + 1))) := by
          conv => lhs; rw [← cZ b, ← List.take_append_drop i (aZ b), za7, eb]
          rw [List.length_take, Nat.min_eq_left (by omega), hd]; rfl
        have t1 : Digs ((aZ a).take i) := fun d h => hda d (List.mem_of_mem_take h)
        have t2 : Digs ((aZ b).take i) := fun d h => hdb d (List.mem_of_mem_take h)
        have u1 := zfK t1
        have u2 := zfK t2
        have w1 := KZ t1
        have w2 := KZ t2
        rw [List.length_take, Nat.min_eq_left (by omega)] at u1 u2
        generalize vl ((aZ a).drop (i + 1)) = V at va vb
        generalize (aZ a).getD i 0 = p at va h ⊢
        generalize (aZ b).getD i 0 = q at vb h ⊢
        generalize vl ((aZ a).take i) = s at va u1 w1
        generalize vl ((aZ b).take i) = t at vb u2 w2
        have pp := pow_pos i
        generalize (100000000 : Int) ^ i = P at *
        have hab : a - b = (s - t) + P * (p - q) := by rw [va, vb]; grind
        rcases Int.lt_or_gt_of_ne h with h1 | h1
        · have : P * (p - q) ≤ -P := by
            have := Int.mul_le_mul_of_nonneg_left (show p - q ≤ -1 by omega) (Int.le_of_lt pp)
            omega
          exact ⟨by omega, by rw [decide_eq_true h1]; exact (decide_eq_true (by omega)).symm⟩
        · have : P ≤ P * (p - q) := by
            have := Int.mul_le_mul_of_nonneg_left (show 1 ≤ p - q by omega) (Int.le_of_lt pp)
            omega
          exact ⟨by omega, by rw [decide_eq_false (by omega)]; exact (decide_eq_false (by omega)).symm⟩
      have := zny a b i (by omega) (by omega) (by omega) (by omega) (by omega) (by omega) (by rw [hn']; exact h)
      rw [hn', key.2] at this
      exact .inr ⟨key.1, this⟩
def pLes (a b : Int) : Prop := (0 ≤ a ∧ 0 ≤ b) ∧ Sz 1000000 a ∧ Sz 1000000 b
theorem zlK {a b : Int} (ha : 0 ≤ a) (hb : 0 ≤ b) (h : dl a < dl b) : a < b := by
  rcases Int.lt_or_le a b with h1 | h1
  · exact h1
  · exfalso
    have h2 := zis a.natAbs
    have h3 : Sz (dl a) b := by
      unfold Sz
      have : b.natAbs ≤ a.natAbs := by omega
      exact Nat.lt_of_le_of_lt this h2
    have := zgY h3
    omega
theorem rless_fc (a b : Int) (h : pLes a b) : FC Tryz.prog 213 [.ni a, .ni b] (.lit (.bool (decide (a < b)))) := by
  obtain ⟨⟨ha, hb⟩, sa, sb⟩ := h
  have la := gZ a
  have lb := gZ b
  have da := zgY sa
  by_cases hl : dl a = dl b
  · have e : ((aZ a).length : Int) - 1 = ((dl a : Nat) : Int) - 1 := by rw [la]
    rcases rl_loop a b ha hb hl da (dl a) (Nat.le_refl _) (by rw [List.drop_of_length_le (by omega), List.drop_of_length_le (by omega)]) with ⟨h1, h2⟩ | ⟨h1, h2⟩
    · rw [← e] at h2
      have := rle_2 a b _ (by omega) (by omega) h2
      refine this.res fun E v hv => ?_
      cases hv
      rw [decide_eq_false (by omega)]; exact .lit _
    · rw [← e] at h2
      exact rle_1 a b _ (by omega) (by omega) h2
  · have := rle_0 a b (by omega)
    refine this.res fun E v hv => ?_
    have e : decide (((aZ a).length : Int) < ((aZ b).length : Int)) = decide (a < b) := by
      rw [la, lb]
      rcases Nat.lt_or_gt_of_ne hl with h1 | h1
      · rw [decide_eq_true (by omega), decide_eq_true (zlK ha hb h1)]
      · have := zlK hb ha h1
        rw [decide_eq_false (by omega), decide_eq_false (by omega)]
    rw [← e]; exact hv
def zkr (X Y : List Int) (n : Nat) : List Int := (List.range n).map fun k => X.getD k 0 + Y.getD k 0
theorem sums_succ (X Y : List Int) (n : Nat) : zkr X Y (n + 1) = zkr X Y n ++ [X.getD n 0 + Y.getD n 0] := by
  simp [zkr, List.range_succ]
theorem zhv (X Y : List Int) (n : Nat) : (zkr X Y n).length = n := by simp [zkr]
theorem zgM : ∀ (n : Nat) (X : List Int), X.length ≤ n → vl ((List.range n).map fun k => X.getD k 0) = vl X
  | 0, X, h => by
    have : X = [] := List.eq_nil_of_length_eq_zero (by omega)
    subst this; rfl
  | n + 1, [], _ => by
    rw [List.range_succ_eq_map]
    have := zgM n [] (by simp)
    simp only [List.map_cons, List.map_map, vl]
    have e : ((fun k => ([] : List Int).getD k 0) ∘ Nat.succ) = fun k => ([] : List Int).getD k 0 := by funext k; simp
    rw [e, this]; rfl
  | n + 1, x :: X, h => by
    rw [List.range_succ_eq_map]
    have := zgM n X (by simpa using h)
    simp only [List.map_cons, List.map_map, vl, List.getD_cons_zero]
    have e : ((fun k => (x :: X).getD k 0) ∘ Nat.succ) = fun k => X.getD k 0 := by funext k; simp
    rw [e, this]
theorem vl_sums (X Y : List Int) (n : Nat) (hx : X.length ≤ n) (hy : Y.length ≤ n) : vl (zkr X Y n) = vl X + vl Y := by
  rw [← zgM n X hx, ← zgM n Y hy]
  unfold zkr
  generalize List.range n = l
  induction l with
  | nil => rfl
  | cons k l ih => simp only [List.map_cons, vl, ih, Int.mul_add]; omega
theorem ra_loop (a b : Int) (ha : dl a ≤ 500000) (hb : dl b ≤ 500000) : ∀ (m i : Nat), i + m = max (dl a) (dl b) →
    zbb (za1 a b i i (zkr (aZ a) (aZ b) i)) (.exit 0, zdr a b (max (dl a) (dl b)) (max (dl a) (dl b) : Nat) (zkr (aZ a) (aZ b) (max (dl a) (dl b))))
  | 0, i, hi => by
    have : i = max (dl a) (dl b) := by omega
    subst this
    have la := gZ a
    have lb := gZ b
    exact zm9 a b _ _ _ (by omega) (by omega)
  | m + 1, i, hi => by
    have la := gZ a
    have lb := gZ b
    have ih := ra_loop a b ha hb m (i + 1) (by omega)
    have hn : Int.toNat (i : Int) = i := by omega
    have ga := HZ a i
    have gb := HZ b i
    have hs := zhv (aZ a) (aZ b) i
    have e0 := sums_succ (aZ a) (aZ b) i
    have tk : ∀ d, List.take i (zkr (aZ a) (aZ b) i) ++ List.take 1 [d] = zkr (aZ a) (aZ b) i ++ [d] := fun d => by
      have := zfI (zkr (aZ a) (aZ b) i) d
      rwa [hs] at this
    have hc : ((i + 1 : Nat) : Int) = (i : Int) + 1 := by omega
    rw [e0, hc] at ih
    by_cases h1 : i < dl a
    · by_cases h2 : i < dl b
      · refine zm6 a b i i _ (by omega) (by omega) (by omega) (by omega) (by omega) (by rw [hn]; omega) (by omega) (by omega) (by omega) (by omega) ?_
        rw [hn, tk]; exact ih
      · refine zm7 a b i i _ (by omega) (by omega) (by omega) (by omega) (by omega) (by omega) (by omega) (by omega) ?_
        have : (aZ b).getD i 0 = 0 := by simp [List.getD, List.getElem?_eq_none (show (aZ b).length ≤ i by omega)]
        rw [this, Int.add_zero] at ih
        rw [hn, tk]; exact ih
    · refine zm8 a b i i _ (by omega) (by omega) (by omega) (by omega) (by rw [hn]; omega) (by omega) (by omega) (by omega) (by omega) ?_
      have : (aZ a).getD i 0 = 0 := by simp [List.getD, List.getElem?_eq_none (show (aZ a).length ≤ i by omega)]
      rw [this] at ih
      rw [hn, tk]; exact ih
def pQ (N : Nat) (x : List Int) : Prop := x.length ≤ N ∧ ∀ d ∈ x, bZ d
theorem pQ.mono {M N : Nat} {x : List Int} (h : pQ M x) (hn : M ≤ N) : pQ N x := ⟨Nat.le_trans h.1 hn, h.2⟩
theorem pQ.sz {N : Nat} {x : List Int} (h : pQ N x) : Sz (N + 3) (vl x) := (vl_sz h.2).mono (by have := h.1; omega)
theorem mZ {k N : Nat} {z : Int} (h : Sz k z) (hk : k ≤ N) : pQ N (aZ z) :=
  ⟨by rw [gZ]; exact Nat.le_trans (zgY h) hk, fun d hd => by have := zeL z d hd; unfold bZ; omega⟩
def pAd (x y : List Int) : Prop := pQ 400000 x ∧ pQ 400000 y
theorem rAdd_fc (x y : List Int) (h : pAd x y) : FC Tryz.prog 93 [.sq x, .sq y] (.ni (vl x + vl y)) := by
  obtain ⟨hx, hy⟩ := h
  have px : pNm x := hx.mono (by decide)
  have py : pNm y := hy.mono (by decide)
  have da := zgY hx.sz
  have db := zgY hy.sz
  have la := gZ (vl x)
  have lb := gZ (vl y)
  by_cases h0 : max (dl (vl x)) (dl (vl y)) = 0
  · have zx : vl x = 0 := dl_zero.1 (by omega)
    have zy : vl y = 0 := dl_zero.1 (by omega)
    have := rad_0 x y px py (zm5 _ _ (by omega) (by omega)) ⟨by simp, fun d hd => by cases hd⟩
    rw [zx, zy]; exact this
  · have hl := ra_loop (vl x) (vl y) (by omega) (by omega) (max (dl (vl x)) (dl (vl y)) - 1) 1 (by omega)
    have ga := HZ (vl x) 0
    have gb := HZ (vl y) 0
    have e1 : zkr (aZ (vl x)) (aZ (vl y)) 1 = [(aZ (vl x)).getD 0 0 + (aZ (vl y)).getD 0 0] := by simp [zkr]
    have hL : zbb (zbE (vl x) (vl y)) (.exit 0, zdr (vl x) (vl y) (max (dl (vl x)) (dl (vl y))) (max (dl (vl x)) (dl (vl y)) : Nat) (zkr (aZ (vl x)) (aZ (vl y)) (max (dl (vl x)) (dl (vl y))))) := by
      rw [e1] at hl
      by_cases h1 : 0 < dl (vl x)
      · by_cases h2 : 0 < dl (vl y)
        · exact zm2 _ _ (by omega) (by omega) (by omega) (by omega) (by omega) hl
        · have : (aZ (vl y)).getD 0 0 = 0 := by simp [List.getD, List.getElem?_eq_none (show (aZ (vl y)).length ≤ 0 by omega)]
          rw [this, Int.add_zero] at hl
          exact zm3 _ _ (by omega) (by omega) (by omega) hl
      · have : (aZ (vl x)).getD 0 0 = 0 := by simp [List.getD, List.getElem?_eq_none (show (aZ (vl x)).length ≤ 0 by omega)]
        rw [this] at hl
        exact zm4 _ _ (by omega) (by omega) (by omega) (by omega) hl
    have hs := zhv (aZ (vl x)) (aZ (vl y)) (max (dl (vl x)) (dl (vl y)))
    have htk : List.take (max (dl (vl x)) (dl (vl y))) (zkr (aZ (vl x)) (aZ (vl y)) (max (dl (vl x)) (dl (vl y)))) = zkr (aZ (vl x)) (aZ (vl y)) (max (dl (vl x)) (dl (vl y))) := List.take_of_length_le (by omega)
    have := rad_1 x y _ _ _ px py hL (by omega) (by
      rw [htk]
      refine ⟨by omega, fun d hd => ?_⟩
      obtain ⟨k, _, rfl⟩ := List.mem_map.1 hd
      have := HZ (vl x) k
      have := HZ (vl y) k
      unfold bZ; omega)
    rw [htk, vl_sums _ _ _ (by omega) (by omega), cZ, cZ] at this
    exact this
theorem Le.sqNi {x : List Int} (h : x = aZ (vl x)) : Le (.sq x) (.ni (vl x)) := fun E v hv => hv.toNi rfl h
def zmY (x y : List Int) : Prop := (x = aZ (vl x) ∧ y = aZ (vl y)) ∧ pLes (vl x) (vl y)
instance tLesL {x y : List Int} : Tst (zmY x y) := ⟨false, fun h => by cases h⟩
theorem rlessL_fc (x y : List Int) (h : zmY x y) : FC Tryz.prog 213 [.sq x, .sq y] (.lit (.bool (decide (vl x < vl y)))) :=
  (rless_fc _ _ h.2).le (.cons (Le.sqNi h.1.1) (.cons (Le.sqNi h.1.2) .nil)) (Le.refl _)
def ctrF4 : Ctr := (161, n1 pNg (fun z => .lit (.bool (decide (z < 0))))) :: (213, cLL zmY (fun x y => .lit (.bool (decide (vl x < vl y))))) :: (93, cLL pAd (fun x y => .ni (vl x + vl y))) :: ctrF3
theorem zjE : ∀ p ∈ ctrF4, tZ Tryz.prog p.1 p.2 := CAll.cons (n1_ok zkd) <| CAll.cons (zbM rlessL_fc) <| CAll.cons (zbM rAdd_fc) zjD
theorem zhL : (dZ Tryz.prog ctrF4 bw).OK := QZ zjE
theorem rsz_0 (z : Int) (h1 : pNg z) (h2 : pSg (aZ z)) : FC Tryz.prog 180 [.ni z] (.sq (zkn (decide (z < 0)) (aZ z))) := kZ zhL 60 [] [] (.cons h1 (.cons h2 .nil)) (by kernel_rfl)
theorem rng_0 (x : List Int) (h1 : pNm x) (h2 : pSg (aZ (vl x))) : FC Tryz.prog 138 [.sq x] (.sq (zkn true (aZ (vl x)))) := kZ zhL 60 [] [] (.cons h1 (.cons h2 .nil)) (by kernel_rfl)
theorem rsg_0 (x : List Int) (h1 : pNm x) (h2 : (↑((aZ (vl x)).length) : Int) = 0) : FC Tryz.prog 121 [.sq x] (aI 0) := kZ zhL 60 [(0, true)] [] (.cons h1 (.cons (beq_iff_eq.2 h2) .nil)) (by kernel_rfl)
theorem rsg_1 (x : List Int) (h1 : pNm x) (h2 : (↑((aZ (vl x)).length) : Int) ≠ 0) (h3 : pNg (vl x)) (h4 : vl x < 0) : FC Tryz.prog 121 [.sq x] (aI (-1)) := kZ zhL 60 [(0, false), (0, true)] [] (.cons h1 (.cons (beq_false_of_ne h2) (.cons h3 (.cons (dT h4) .nil)))) (by kernel_rfl)
theorem rsg_2 (x : List Int) (h1 : pNm x) (h2 : (↑((aZ (vl x)).length) : Int) ≠ 0) (h3 : pNg (vl x)) (h4 : ¬ (vl x < 0)) : FC Tryz.prog 121 [.sq x] (aI 1) := kZ zhL 60 [(0, false), (0, false)] [] (.cons h1 (.cons (beq_false_of_ne h2) (.cons h3 (.cons (dF h4) .nil)))) (by kernel_rfl)
abbrev zce (s : St) (r : Ex × St) : Prop := Loops 0 Tryz.prog (eZ Tryz.prog 94 0) s r
abbrev zcf (a b : Int) : St := ⟨sp 44 [(0, .ni a), (1, .ni b), (5, aN), (6, aI 0)], [], []⟩
abbrev zcg (a b c d : Int) : St := ⟨sp 44 [(0, .ni a), (1, .ni b), (5, .ni c), (6, aI d)], [], []⟩
abbrev zhn (a b : Int) : St := ⟨sp 44 [(0, .ni a), (1, .ni b), (5, aN), (6, aI 0)], [], []⟩
abbrev zdw (a b c d : Int) : St := ⟨sp 44 [(0, .ni a), (1, .ni b), (5, .ni c), (6, aI d)], [], []⟩
abbrev zeZ (s : St) (r : Ex × St) : Prop := Loops 1 Tryz.prog (eZ Tryz.prog 94 1) s r
abbrev zdX (a b : Int) : St := ⟨sp 44 [(0, .ni a), (1, .ni b), (5, aN), (6, aI 0), (7, .own 0 0 0 1), (8, aI 0)], [.ints [] true], [0]⟩
abbrev ze0 (a b : Int) (c : Nat) (d : Int) (e : List Int) : St := ⟨sp 44 [(0, .ni a), (1, .ni b), (5, aN), (6, aI 0), (7, .own 1 0 c 1), (8, aI d)], [.dead, .ints e true], [0]⟩
abbrev zhl (a b : Int) : St := ⟨sp 44 [(0, .ni a), (1, .ni b), (5, aN), (6, aI 0), (7, .own 0 0 0 1), (8, aI 0)], [.ints [] true], [0]⟩
abbrev ze1 (a b : Int) (c : Nat) (d : Int) (e : List Int) : St := ⟨sp 44 [(0, .ni a), (1, .ni b), (5, aN), (6, aI 0), (7, .own 1 0 c 1), (8, aI d)], [.dead, .ints e true], [0]⟩
theorem znA (a b : Int) (h1 : 0 < (↑((aZ b).length) : Int)) (h2 : 0 < (↑((aZ a).length) : Int)) (h3 : 0 < (aZ a).length) (h4 : 0 < (aZ b).length) (h5 : r64 ((aZ a).getD 0 0 * (aZ b).getD 0 0)) {r : Ex × St} (k : zeZ (ze0 a b (1) (1) ([(aZ a).getD 0 0 * (aZ b).getD 0 0])) r) : zeZ (zdX a b) r := Loops.go (LS.at zhL 60 [2] [0, 1, 5, 6, 7, 8] [0] [(0, true)] [] (.cons (dT h1) (.tt 1 (.cons (dT h2) (.cons (dT h3) (.tt 1 (.cons (dT h1) (.cons (dT h4) (.cons (iR h5) (.tt 3 (.cons (show decide ((List.take 1 [(aZ a).getD 0 0 * (aZ b).getD 0 0]).length = 1) = true from decide_eq_true rfl) (.tt 1 .nil))))))))))) (by kernel_rfl)) k
theorem znB (a b : Int) (h1 : ¬ (0 < (↑((aZ b).length) : Int))) : zeZ (zdX a b) (Ex.exit 2, (zhl a b)) := Loops.fin (LS.at zhL 60 [] [0, 1, 5, 6, 7, 8] [0] [(0, false)] [] (.cons (dF h1) .nil) (by kernel_rfl)) (fun h => nomatch h)
theorem znC (a b : Int) (c : Nat) (d : Int) (e : List Int) (h1 : d < (↑((aZ b).length) : Int)) (h2 : 0 < (↑((aZ a).length) : Int)) (h3 : 0 < (aZ a).length) (h4 : 0 ≤ d) (h5 : d.toNat < (aZ b).length) (h6 : r64 ((aZ a).getD 0 0 * (aZ b).getD d.toNat 0)) (h7 : (c + 1) * 8 ≤ 140737488355328) (h8 : c + 1 ≤ 4611686018427387904) (h9 : c ≤ e.length) (h10 : r64 (d + 1)) {r : Ex × St} (k : zeZ (ze0 a b (c + 1) (d + 1) (e.take c ++ List.take 1 [(aZ a).getD 0 0 * (aZ b).getD d.toNat 0])) r) : zeZ (ze0 a b c d e) r := Loops.go (LS.at zhL 60 [3] [0, 1, 5, 6, 7, 8] [0] [(0, true)] [] (.cons (dT h1) (.tt 1 (.cons (dT h2) (.cons (dT h3) (.cons (dT h4) (.cons (dT h1) (.cons (dT h5) (.cons (iR h6) (.cons (dT h7) (.cons (dT h8) (.cons (dT h9) (.cons (show decide ((List.take 1 [(aZ a).getD 0 0 * (aZ b).getD d.toNat 0]).length = 1) = true from decide_eq_true rfl) (.cons (iR h10) .nil))))))))))))) (by kernel_rfl)) k
theorem znD (a b : Int) (c : Nat) (d : Int) (e : List Int) (h1 : ¬ (d < (↑((aZ b).length) : Int))) : zeZ (ze0 a b c d e) (Ex.exit 2, (ze1 a b c d e)) := Loops.fin (LS.at zhL 60 [1] [0, 1, 5, 6, 7, 8] [0] [(0, false)] [] (.cons (dF h1) .nil) (by kernel_rfl)) (fun h => nomatch h)
theorem znI (a b : Int) (h1 : 0 < (↑((aZ a).length) : Int)) (hL1 : zeZ (zdX a b) (Ex.exit 2, (zhl a b))) (h3 : 0 ≤ 0) (h4 : pAd [] (List.take 0 [])) {r : Ex × St} (k : zce (zcg a b (0) (1)) r) : zce (zcf a b) r := Loops.go (LS.at zhL 60 [] [0, 1, 5, 6] [] [(0, true)] [some (wZ Tryz.prog (eZ Tryz.prog 94 1) [] [0, 1, 5, 6, 7, 8] [0] (zdX a b) (Ex.exit 2, (zhl a b)))] (.cons (dT h1) (.tt 4 (.vi [0, 1, 5, 6, 7, 8] [0] hL1 (.cons h3 (.cons h4 (.tt 1 .nil)))))) (by kernel_rfl)) k
theorem znJ (a b : Int) (c : Nat) (d : Int) (e : List Int) (h1 : 0 < (↑((aZ a).length) : Int)) (hL1 : zeZ (zdX a b) (Ex.exit 2, (ze1 a b c d e))) (h3 : c ≤ e.length) (h4 : pAd [] (e.take c)) {r : Ex × St} (k : zce (zcg a b (0 + vl (e.take c)) (1)) r) : zce (zcf a b) r := Loops.go (LS.at zhL 60 [] [0, 1, 5, 6] [] [(0, true)] [some (wZ Tryz.prog (eZ Tryz.prog 94 1) [] [0, 1, 5, 6, 7, 8] [0] (zdX a b) (Ex.exit 2, (ze1 a b c d e)))] (.cons (dT h1) (.tt 4 (.vi [0, 1, 5, 6, 7, 8] [0] hL1 (.cons h3 (.cons h4 (.tt 1 .nil)))))) (by kernel_rfl)) k
theorem znK (a b : Int) (h1 : ¬ (0 < (↑((aZ a).length) : Int))) : zce (zcf a b) (Ex.exit 0, (zhn a b)) := Loops.fin (LS.at zhL 60 [] [0, 1, 5, 6] [] [(0, false)] [] (.cons (dF h1) .nil) (by kernel_rfl)) (fun h => nomatch h)
abbrev zef (s : St) (r : Ex × St) : Prop := Loops 1 Tryz.prog (eZ Tryz.prog 94 1) s r
abbrev zcU (a b c d : Int) (e : Nat) (f : List Int) : St := ⟨sp 44 [(0, .ni a), (1, .ni b), (5, .ni c), (6, aI d), (7, .own 0 0 e 1), (8, aI 0)], [.ints f true], [0]⟩
abbrev ze2 (a b c d : Int) (e : Nat) (f : List Int) (g : Nat) (i : Int) (j : List Int) : St := ⟨sp 44 [(0, .ni a), (1, .ni b), (5, .ni c), (6, aI d), (7, .own 1 0 g 1), (8, aI i)], [.dead, .ints j true], [0]⟩
abbrev zhm (a b c d : Int) (e : Nat) (f : List Int) : St := ⟨sp 44 [(0, .ni a), (1, .ni b), (5, .ni c), (6, aI d), (7, .own 0 0 e 1), (8, aI 0)], [.ints f true], [0]⟩
abbrev zdv (a b c d : Int) (e : Nat) (f : List Int) (g : Nat) (i : Int) (j : List Int) : St := ⟨sp 44 [(0, .ni a), (1, .ni b), (5, .ni c), (6, aI d), (7, .own 1 0 g 1), (8, aI i)], [.dead, .ints j true], [0]⟩
theorem znE (a b c d : Int) (e : Nat) (f : List Int) (h1 : 0 < (↑((aZ b).length) : Int)) (h2 : 0 ≤ d) (h3 : d < (↑((aZ a).length) : Int)) (h4 : d.toNat < (aZ a).length) (h5 : 0 < (aZ b).length) (h6 : r64 ((aZ a).getD d.toNat 0 * (aZ b).getD 0 0)) (h7 : (e + 1) * 8 ≤ 140737488355328) (h8 : e + 1 ≤ 4611686018427387904) (h9 : e ≤ f.length) {r : Ex × St} (k : zef (ze2 a b c d e f (e + 1) (1) (f.take e ++ List.take 1 [(aZ a).getD d.toNat 0 * (aZ b).getD 0 0])) r) : zef (zcU a b c d e f) r := Loops.go (LS.at zhL 60 [2] [0, 1, 5, 6, 7, 8] [0] [(0, true)] [] (.cons (dT h1) (.cons (dT h2) (.cons (dT h3) (.cons (dT h4) (.tt 1 (.cons (dT h1) (.cons (dT h5) (.cons (iR h6) (.cons (dT h7) (.cons (dT h8) (.cons (dT h9) (.cons (show decide ((List.take 1 [(aZ a).getD d.toNat 0 * (aZ b).getD 0 0]).length = 1) = true from decide_eq_true rfl) (.tt 1 .nil))))))))))))) (by kernel_rfl)) k
theorem znF (a b c d : Int) (e : Nat) (f : List Int) (h1 : ¬ (0 < (↑((aZ b).length) : Int))) : zef (zcU a b c d e f) (Ex.exit 2, (zhm a b c d e f)) := Loops.fin (LS.at zhL 60 [] [0, 1, 5, 6, 7, 8] [0] [(0, false)] [] (.cons (dF h1) .nil) (by kernel_rfl)) (fun h => nomatch h)
theorem znG (a b c d : Int) (e : Nat) (f : List Int) (g : Nat) (i : Int) (j : List Int) (h1 : i < (↑((aZ b).length) : Int)) (h2 : 0 ≤ d) (h3 : d < (↑((aZ a).length) : Int)) (h4 : d.toNat < (aZ a).length) (h5 : 0 ≤ i) (h6 : i.toNat < (aZ b).length) (h7 : r64 ((aZ a).getD d.toNat 0 * (aZ b).getD i.toNat 0)) (h8 : (g + 1) * 8 ≤ 140737488355328) (h9 : g + 1 ≤ 4611686018427387904) (h10 : g ≤ j.length) (h11 : r64 (i + 1)) {r : Ex × St} (k : zef (ze2 a b c d e f (g + 1) (i + 1) (j.take g ++ List.take 1 [(aZ a).getD d.toNat 0 * (aZ b).getD i.toNat 0])) r) : zef (ze2 a b c d e f g i j) r := Loops.go (LS.at zhL 60 [3] [0, 1, 5, 6, 7, 8] [0] [(0, true)] [] (.cons (dT h1) (.cons (dT h2) (.cons (dT h3) (.cons (dT h4) (.cons (dT h5) (.cons (dT h1) (.cons (dT h6) (.cons (iR h7) (.cons (dT h8) (.cons (dT h9) (.cons (dT h10) (.cons (show decide ((List.take 1 [(aZ a).getD d.toNat 0 * (aZ b).getD i.toNat 0]).length = 1) = true from decide_eq_true rfl) (.cons (iR h11) .nil))))))))))))) (by kernel_rfl)) k
theorem znH (a b c d : Int) (e : Nat) (f : List Int) (g : Nat) (i : Int) (j : List Int) (h1 : ¬ (i < (↑((aZ b).length) : Int))) : zef (ze2 a b c d e f g i j) (Ex.exit 2, (zdv a b c d e f g i j)) := Loops.fin (LS.at zhL 60 [1] [0, 1, 5, 6, 7, 8] [0] [(0, false)] [] (.cons (dF h1) .nil) (by kernel_rfl)) (fun h => nomatch h)
theorem znL (a b c d : Int) (h1 : d < (↑((aZ a).length) : Int)) (h2 : 0 ≤ d) (h3 : d ≤ d) (h4 : 8 * d ≤ 281474976710656) (h5 : d ≤ 9223372036854775807) (hL1 : zef (zcU a b c d d.toNat (OZ d.toNat)) (Ex.exit 2, (zhm a b c d d.toNat (OZ d.toNat)))) (h7 : d.toNat ≤ (OZ d.toNat).length) (h8 : pAd (aZ c) ((OZ d.toNat).take d.toNat)) (h9 : r64 (d + 1)) {r : Ex × St} (k : zce (zcg a b (vl (aZ c) + vl ((OZ d.toNat).take d.toNat)) (d + 1)) r) : zce (zcg a b c d) r := Loops.go (LS.at zhL 60 [] [0, 1, 5, 6] [] [(0, true)] [some (wZ Tryz.prog (eZ Tryz.prog 94 1) [] [0, 1, 5, 6, 7, 8] [0] (zcU a b c d d.toNat (OZ d.toNat)) (Ex.exit 2, (zhm a b c d d.toNat (OZ d.toNat))))] (.cons (dT h1) (.cons (dT h2) (.cons (dT h3) (.cons (dT h4) (.cons (dT h5) (.vi [0, 1, 5, 6, 7, 8] [0] hL1 (.cons h7 (.cons h8 (.cons (iR h9) .nil))))))))) (by kernel_rfl)) k
theorem znM (a b c d : Int) (e : Nat) (f : Int) (g : List Int) (h1 : d < (↑((aZ a).length) : Int)) (h2 : 0 ≤ d) (h3 : d ≤ d) (h4 : 8 * d ≤ 281474976710656) (h5 : d ≤ 9223372036854775807) (hL1 : zef (zcU a b c d d.toNat (OZ d.toNat)) (Ex.exit 2, (zdv a b c d d.toNat (OZ d.toNat) e f g))) (h7 : e ≤ g.length) (h8 : pAd (aZ c) (g.take e)) (h9 : r64 (d + 1)) {r : Ex × St} (k : zce (zcg a b (vl (aZ c) + vl (g.take e)) (d + 1)) r) : zce (zcg a b c d) r := Loops.go (LS.at zhL 60 [] [0, 1, 5, 6] [] [(0, true)] [some (wZ Tryz.prog (eZ Tryz.prog 94 1) [] [0, 1, 5, 6, 7, 8] [0] (zcU a b c d d.toNat (OZ d.toNat)) (Ex.exit 2, (zdv a b c d d.toNat (OZ d.toNat) e f g)))] (.cons (dT h1) (.cons (dT h2) (.cons (dT h3) (.cons (dT h4) (.cons (dT h5) (.vi [0, 1, 5, 6, 7, 8] [0] hL1 (.cons h7 (.cons h8 (.cons (iR h9) .nil))))))))) (by kernel_rfl)) k
theorem znN (a b c d : Int) (h1 : ¬ (d < (↑((aZ a).length) : Int))) : zce (zcg a b c d) (Ex.exit 0, (zdw a b c d)) := Loops.fin (LS.at zhL 60 [] [0, 1, 5, 6] [] [(0, false)] [] (.cons (dF h1) .nil) (by kernel_rfl)) (fun h => nomatch h)
theorem rml_0 (x y : List Int) (h1 : pNm x) (h2 : pNm y) (hL1 : zce (zcf (vl x) (vl y)) (Ex.exit 0, (zhn (vl x) (vl y)))) (h4 : pNm []) : FC Tryz.prog 94 [.sq x, .sq y] (.ni 0) := kZ zhL 60 [] [some (wZ Tryz.prog (eZ Tryz.prog 94 0) [] [0, 1, 5, 6] [] (zcf (vl x) (vl y)) (Ex.exit 0, (zhn (vl x) (vl y))))] (.cons h1 (.cons h2 (.vi [0, 1, 5, 6] [] hL1 (.cons h4 .nil)))) (by kernel_rfl)
theorem rml_1 (x y : List Int) (a b : Int) (h1 : pNm x) (h2 : pNm y) (hL1 : zce (zcf (vl x) (vl y)) (Ex.exit 0, (zdw (vl x) (vl y) a b))) (h4 : pNm (aZ a)) : FC Tryz.prog 94 [.sq x, .sq y] (.ni (vl (aZ a))) := kZ zhL 60 [] [some (wZ Tryz.prog (eZ Tryz.prog 94 0) [] [0, 1, 5, 6] [] (zcf (vl x) (vl y)) (Ex.exit 0, (zdw (vl x) (vl y) a b)))] (.cons h1 (.cons h2 (.vi [0, 1, 5, 6] [] hL1 (.cons h4 .nil)))) (by kernel_rfl)
theorem zla (l : List Int) : trm (l.map fun d => -d) = (trm l).map fun d => -d := by
  induction l with
  | nil => rfl
  | cons d l ih =>
    simp only [List.map_cons, trm, ih, List.map_eq_nil_iff]
    by_cases h : trm l = [] ∧ d = 0
    · rw [if_pos h, if_pos ⟨h.1, by omega⟩]; rfl
    · rw [if_neg h, if_neg (fun hh => h ⟨hh.1, by omega⟩)]; rfl
theorem zkt (z : Int) : trm (aZ z) = aZ z := by
  unfold aZ
  split
  · rw [zla, zc1]
  · exact zc1 _
theorem nform_neg (z : Int) : (aZ z).map (fun d => -d) = aZ (-z) := by
  unfold aZ
  by_cases h : z < 0
  · rw [if_pos h, if_neg (by omega), Int.natAbs_neg]
    generalize digs z.natAbs = l
    induction l with
    | nil => rfl
    | cons d l ih => simp only [List.map_cons, Int.neg_neg, ih]
  · by_cases h0 : z = 0
    · subst h0; simp [TZ]
    · rw [if_neg h, if_pos (by omega), Int.natAbs_neg]
theorem zko (z : Int) : zkn true (aZ z) = aZ (-z) := by unfold zkn; simp only [zkt, nform_neg]
theorem zol (z : Int) : zkn false (aZ z) = aZ z := by unfold zkn; simp only [zkt]
theorem zka {z : Int} (h : Sz 1000000 z) : pSg (aZ z) := ⟨by rw [gZ]; have := zgY h; omega, fun d hd => by have := zeL z d hd; omega⟩
theorem FC.sqNi {P : Program} {f : FuncId} {args : List AV} {l : List Int} {z : Int} (h : FC P f args (.sq l)) (e : l = aZ z) : FC P f args (.ni z) := h.res fun E v hr => hr.toNi rfl e
theorem rsize_fc (z : Int) (h : pNg z) : FC Tryz.prog 180 [.ni z] (.ni (z.natAbs : Int)) := by
  refine FC.sqNi (rsz_0 z h (zka h)) ?_
  by_cases hz : z < 0
  · rw [decide_eq_true hz, zko]; congr 1; omega
  · rw [decide_eq_false hz, zol]; congr 1; omega
def pX (x : List Int) : Prop := pQ 400000 x
theorem pX.nm {x : List Int} (h : pX x) : pNm x := pQ.mono h (by decide)
theorem pX.s {x : List Int} (h : pX x) : Sz 1000000 (vl x) := (pQ.sz h).mono (by decide)
theorem rNeg_fc (x : List Int) (h : pX x) : FC Tryz.prog 138 [.sq x] (.ni (-vl x)) :=
  FC.sqNi (rng_0 x h.nm (zka h.s)) (zko _)
theorem rSign_fc (x : List Int) (h : pX x) : FC Tryz.prog 121 [.sq x] (.lit (.int .i64 (vl x).sign)) := by
  have hl := gZ (vl x)
  by_cases h0 : vl x = 0
  · rw [h0]; exact rsg_0 x h.nm (by rw [hl, h0]; rfl)
  · have hd : dl (vl x) ≠ 0 := fun h => h0 (dl_zero.1 h)
    by_cases h1 : vl x < 0
    · rw [Int.sign_eq_neg_one_of_neg h1]; exact rsg_1 x h.nm (by omega) h.s h1
    · rw [Int.sign_eq_one_of_pos (by omega)]; exact rsg_2 x h.nm (by omega) h.s h1
def ze6 (i : Nat) (d : Int) (Y : List Int) (j : Nat) : List Int := List.replicate i 0 ++ (Y.take j).map fun e => d * e
theorem ze7 {i : Nat} {d : Int} {Y : List Int} {j : Nat} (h : j < Y.length) : ze6 i d Y (j + 1) = ze6 i d Y j ++ [d * Y.getD j 0] := by
  unfold ze6
  rw [List.take_succ_eq_append_getElem h, List.map_append, ← List.append_assoc]
  simp [List.getD, h]
theorem zbT {i : Nat} {d : Int} {Y : List Int} {j : Nat} (h : j ≤ Y.length) : (ze6 i d Y j).length = i + j := by
  unfold ze6; simp; omega
theorem vl_rep (i : Nat) : vl (List.replicate i (0 : Int)) = 0 := by
  induction i with
  | zero => rfl
  | succ i ih => simp only [List.replicate_succ, vl, ih]; rfl
theorem vl_scale (d : Int) (Y : List Int) : vl (Y.map fun e => d * e) = d * vl Y := by
  induction Y with
  | nil => simp [vl]
  | cons y Y ih => simp only [List.map_cons, vl, ih]; grind
theorem vl_rowM (i : Nat) (d : Int) (Y : List Int) : vl (ze6 i d Y Y.length) = 100000000 ^ i * (d * vl Y) := by
  unfold ze6
  rw [za7, vl_rep, List.length_replicate, List.take_length, vl_scale]; omega
theorem zg8 {p q : Int} (hp : -100000000 < p ∧ p < 100000000) (hq : -100000000 < q ∧ q < 100000000) : -10000000000000000 ≤ p * q ∧ p * q ≤ 10000000000000000 := by
  have h : (p * q).natAbs ≤ 100000000 * 100000000 := by rw [Int.natAbs_mul]; exact Nat.mul_le_mul (by omega) (by omega)
  omega
theorem rm_in (a b c : Int) (i : Nat) (n7 : Nat) (lr0 : List Int) (hi : i < dl a) (ha : dl a ≤ 200000) (hb : dl b ≤ 200000) : ∀ (m j : Nat), j + m = dl b →
    zef (ze2 a b c i n7 lr0 (i + j) j (ze6 i ((aZ a).getD i 0) (aZ b) j)) (.exit 2, zdv a b c i n7 lr0 (i + dl b) (dl b : Nat) (ze6 i ((aZ a).getD i 0) (aZ b) (dl b)))
  | 0, j, hj => by
    have : j = dl b := by omega
    subst this
    have lb := gZ b
    exact znH a b c i n7 lr0 _ _ _ (by omega)
  | m + 1, j, hj => by
    have la := gZ a
    have lb := gZ b
    have ih := rm_in a b c i n7 lr0 hi ha hb m (j + 1) (by omega)
    have h1 : Int.toNat (i : Int) = i := by omega
    have h2 : Int.toNat (j : Int) = j := by omega
    have hm := zg8 (HZ a i) (HZ b j)
    have hl := zbT (i := i) (d := (aZ a).getD i 0) (Y := aZ b) (j := j) (by omega)
    have hc : ((j + 1 : Nat) : Int) = (j : Int) + 1 := by omega
    rw [ze7 (by omega), hc, ← Nat.add_assoc] at ih
    refine znG a b c i n7 lr0 (i + j) j _ (by omega) (by omega) (by omega) (by omega) (by omega) (by omega) (by rw [h1, h2]; omega) (by omega) (by omega) (by omega) (by omega) ?_
    rw [h1, h2]
    have := zfI (ze6 i ((aZ a).getD i 0) (aZ b) j) ((aZ a).getD i 0 * (aZ b).getD j 0)
    rw [hl] at this
    rw [this]; exact ih
theorem rm_in0 (a b : Int) (h0 : 0 < dl a) (ha : dl a ≤ 200000) (hb : dl b ≤ 200000) : ∀ (m j : Nat), j + m = dl b →
    zeZ (ze0 a b j j (ze6 0 ((aZ a).getD 0 0) (aZ b) j)) (.exit 2, ze1 a b (dl b) (dl b : Nat) (ze6 0 ((aZ a).getD 0 0) (aZ b) (dl b)))
  | 0, j, hj => by
    have : j = dl b := by omega
    subst this
    have lb := gZ b
    exact znD a b _ _ _ (by omega)
  | m + 1, j, hj => by
    have la := gZ a
    have lb := gZ b
    have ih := rm_in0 a b h0 ha hb m (j + 1) (by omega)
    have h2 : Int.toNat (j : Int) = j := by omega
    have hm := zg8 (HZ a 0) (HZ b j)
    have hl := zbT (i := 0) (d := (aZ a).getD 0 0) (Y := aZ b) (j := j) (by omega)
    have hc : ((j + 1 : Nat) : Int) = (j : Int) + 1 := by omega
    rw [ze7 (by omega), hc] at ih
    refine znC a b j j _ (by omega) (by omega) (by omega) (by omega) (by omega) (by rw [h2]; omega) (by omega) (by omega) (by omega) (by omega) ?_
    rw [h2]
    have := zfI (ze6 0 ((aZ a).getD 0 0) (aZ b) j) ((aZ a).getD 0 0 * (aZ b).getD j 0)
    rw [hl, Nat.zero_add] at this
    rw [this]; exact ih
theorem take_sz (a : Int) (i : Nat) : Sz i (vl ((aZ a).take i)) := by
  have key : ∀ l : List Int, Digs l → (vl (l.take i)).natAbs < 100000000 ^ i := by
    intro l hl
    have t : Digs (l.take i) := fun d h => hl d (List.mem_of_mem_take h)
    have h1 := zfK t
    have h2 := KZ t
    have h3 : (100000000 : Nat) ^ (l.take i).length ≤ 100000000 ^ i := Nat.pow_le_pow_right (by decide) (by simp; omega)
    have h4 : ((100000000 ^ (l.take i).length : Nat) : Int) = (100000000 : Int) ^ (l.take i).length := Int.natCast_pow 100000000 _
    omega
  unfold Sz aZ
  split
  · rw [← List.map_take, vl_neg, Int.natAbs_neg]
    exact key _ (pZ _)
  · exact key _ (pZ _)
theorem row_pQ (i : Nat) (d : Int) (b : Int) (j : Nat) (hd : -100000000 < d ∧ d < 100000000) (hj : j ≤ dl b) (h : i + j ≤ 400000) : pQ 400000 (ze6 i d (aZ b) j) := by
  refine ⟨by rw [zbT (by rw [gZ]; exact hj)]; exact h, fun e he => ?_⟩
  unfold ze6 at he
  rcases List.mem_append.1 he with h1 | h1
  · have := List.eq_of_mem_replicate h1
    unfold bZ; omega
  · obtain ⟨q, hq, rfl⟩ := List.mem_map.1 h1
    have := zg8 hd (zeL b q (List.mem_of_mem_take hq))
    unfold bZ; omega
theorem rm_out (a b : Int) (ha : dl a ≤ 150000) (hb : dl b ≤ 150000) : ∀ (m i : Nat), i + m = dl a →
    zce (zcg a b (vl ((aZ a).take i) * b) i) (.exit 0, zdw a b (a * b) (dl a : Nat))
  | 0, i, hi => by
    have : i = dl a := by omega
    subst this
    have la := gZ a
    rw [List.take_of_length_le (by omega), cZ]
    exact znN a b _ _ (by omega)
  | m + 1, i, hi => by
    have la := gZ a
    have lb := gZ b
    have ih := rm_out a b ha hb m (i + 1) (by omega)
    have h1 : Int.toNat (i : Int) = i := by omega
    have hlt : i < (aZ a).length := by omega
    have hg : (aZ a)[i] = (aZ a).getD i 0 := by simp [List.getD, hlt]
    have hlen : ((aZ a).take i).length = i := by simp; omega
    have hsz : Sz 400000 (vl ((aZ a).take i) * b) := ((take_sz a i).mul (show Sz (dl b) b from zis b.natAbs)).mono (by omega)
    have hpq : pQ 400000 (aZ (vl ((aZ a).take i) * b)) := mZ hsz (Nat.le_refl _)
    have hc : ((i + 1 : Nat) : Int) = (i : Int) + 1 := by omega
    rw [List.take_succ_eq_append_getElem hlt, hg, zbU, hlen, hc] at ih
    have hd := HZ a i
    by_cases h0 : dl b = 0
    · have hb0 : b = 0 := dl_zero.1 h0
      have hrow : List.take i (List.replicate i (0 : Int)) = List.replicate i 0 := List.take_of_length_le (by simp)
      refine znL a b _ i (by omega) (by omega) (by omega) (by omega) (by omega) (znF a b _ i _ _ (by omega)) (by simp) ?_ (by omega) ?_ <;> rw [h1, hrow]
      · exact ⟨hpq, ⟨by simp; omega, fun d hd => by have := List.eq_of_mem_replicate hd; unfold bZ; omega⟩⟩
      · rw [cZ, vl_rep, hb0]
        rw [hb0] at ih
        simpa using ih
    · have hL2 : zef (zcU a b (vl ((aZ a).take i) * b) i i (List.replicate i 0)) (.exit 2, zdv a b (vl ((aZ a).take i) * b) i i (List.replicate i 0) (i + dl b) (dl b : Nat) (ze6 i ((aZ a).getD i 0) (aZ b) (dl b))) := by
        have hk := rm_in a b (vl ((aZ a).take i) * b) i i (List.replicate i 0) (by omega) (by omega) (by omega) (dl b - 1) 1 (by omega)
        rw [ze7 (by omega)] at hk
        have hm := zg8 (HZ a i) (HZ b 0)
        have e0 : ze6 i ((aZ a).getD i 0) (aZ b) 0 = List.replicate i 0 := by simp [ze6]
        rw [e0] at hk
        refine znE a b _ i i _ (by omega) (by omega) (by omega) (by omega) (by omega) (by rw [h1]; omega) (by omega) (by omega) (by simp) ?_
        rw [h1]
        have := zfI (List.replicate i (0 : Int)) ((aZ a).getD i 0 * (aZ b).getD 0 0)
        rw [List.length_replicate] at this
        rw [this]; exact hk
      have hlr : (ze6 i ((aZ a).getD i 0) (aZ b) (dl b)).length = i + dl b := zbT (by omega)
      have htk : List.take (i + dl b) (ze6 i ((aZ a).getD i 0) (aZ b) (dl b)) = ze6 i ((aZ a).getD i 0) (aZ b) (dl b) := List.take_of_length_le (by omega)
      have hv : vl (ze6 i ((aZ a).getD i 0) (aZ b) (dl b)) = 100000000 ^ i * ((aZ a).getD i 0 * b) := by
        have := vl_rowM i ((aZ a).getD i 0) (aZ b)
        rw [lb, cZ] at this; exact this
      refine znM a b _ i (i + dl b) (dl b : Nat) (ze6 i ((aZ a).getD i 0) (aZ b) (dl b)) (by omega) (by omega) (by omega) (by omega) (by omega) (by rw [h1]; exact hL2) (by omega) ?_ (by omega) ?_
      · rw [htk]; exact ⟨hpq, row_pQ _ _ _ _ hd (Nat.le_refl _) (by omega)⟩
      · rw [htk, cZ, hv]
        have e : vl ((aZ a).take i) * b + 100000000 ^ i * ((aZ a).getD i 0 * b) = (vl ((aZ a).take i) + 100000000 ^ i * (aZ a).getD i 0) * b := by grind
        rw [e]; exact ih
def pMu (x y : List Int) : Prop := pQ 100000 x ∧ pQ 100000 y
theorem rMul_fc (x y : List Int) (h : pMu x y) : FC Tryz.prog 94 [.sq x, .sq y] (.ni (vl x * vl y)) := by
  obtain ⟨hx, hy⟩ := h
  have px : pNm x := hx.mono (by decide)
  have py : pNm y := hy.mono (by decide)
  have da := zgY hx.sz
  have db := zgY hy.sz
  have hz := hx.sz.mul hy.sz
  have hpn : pNm (aZ (vl x * vl y)) := mZ hz (by decide)
  have fin : ∀ t, zce (zcf (vl x) (vl y)) (.exit 0, zdw (vl x) (vl y) (vl x * vl y) t) → FC Tryz.prog 94 [.sq x, .sq y] (.ni (vl x * vl y)) := fun t hL => by
    have := rml_1 x y (vl x * vl y) t px py hL hpn
    rwa [cZ] at this
  have lx := gZ (vl x)
  have ly := gZ (vl y)
  by_cases h0 : dl (vl x) = 0
  · have hx0 : vl x = 0 := dl_zero.1 h0
    have := rml_0 x y px py (znK _ _ (by omega)) ⟨by simp, fun d hd => by cases hd⟩
    rw [hx0, Int.zero_mul]; exact this
  · have hlt : 0 < (aZ (vl x)).length := by omega
    have ho := rm_out (vl x) (vl y) (by omega) (by omega) (dl (vl x) - 1) 1 (by omega)
    have hg : (aZ (vl x))[0] = (aZ (vl x)).getD 0 0 := by simp [List.getD, hlt]
    have ht : vl ((aZ (vl x)).take 1) = (aZ (vl x)).getD 0 0 := by
      rw [List.take_succ_eq_append_getElem hlt, hg]; simp [vl]
    rw [ht] at ho
    by_cases hb0 : dl (vl y) = 0
    · have hy0 : vl y = 0 := dl_zero.1 hb0
      refine fin (dl (vl x) : Nat) (znI _ _ (by omega) (znB _ _ (by omega)) (by omega) ⟨⟨by simp, fun d hd => by cases hd⟩, ⟨by simp, fun d hd => by simp at hd⟩⟩ ?_)
      rw [hy0] at ho ⊢
      simpa using ho
    · have hk := rm_in0 (vl x) (vl y) (by omega) (by omega) (by omega) (dl (vl y) - 1) 1 (by omega)
      have hm := zg8 (HZ (vl x) 0) (HZ (vl y) 0)
      have e1 : ze6 0 ((aZ (vl x)).getD 0 0) (aZ (vl y)) 1 = [(aZ (vl x)).getD 0 0 * (aZ (vl y)).getD 0 0] := by rw [ze7 (by omega)]; simp [ze6]
      rw [e1] at hk
      have hL0 := znA (vl x) (vl y) (by omega) (by omega) (by omega) (by omega) (by omega) hk
      have hlr : (ze6 0 ((aZ (vl x)).getD 0 0) (aZ (vl y)) (dl (vl y))).length = dl (vl y) := by rw [zbT (by omega)]; omega
      have htk : List.take (dl (vl y)) (ze6 0 ((aZ (vl x)).getD 0 0) (aZ (vl y)) (dl (vl y))) = ze6 0 ((aZ (vl x)).getD 0 0) (aZ (vl y)) (dl (vl y)) := List.take_of_length_le (by omega)
      have hv : vl (ze6 0 ((aZ (vl x)).getD 0 0) (aZ (vl y)) (dl (vl y))) = (aZ (vl x)).getD 0 0 * vl y := by
        have := vl_rowM 0 ((aZ (vl x)).getD 0 0) (aZ (vl y))
        rw [ly, cZ] at this
        simpa using this
      refine fin (dl (vl x) : Nat) (znJ _ _ (dl (vl y)) (dl (vl y) : Nat) _ (by omega) hL0 (by omega) ?_ ?_)
      · rw [htk]; exact ⟨⟨by simp, fun d hd => by cases hd⟩, row_pQ _ _ _ _ (HZ _ _) (Nat.le_refl _) (by omega)⟩
      · rw [htk, hv]
        simpa using ho
def ctrF5 : Ctr := (180, n1 pNg (fun z => .ni (z.natAbs : Int))) :: (138, cL pX (fun x => .ni (-vl x))) :: (121, cL pX (fun x => .lit (.int .i64 (vl x).sign))) :: (94, cLL pMu (fun x y => .ni (vl x * vl y))) :: ctrF4
theorem zjF : ∀ p ∈ ctrF5, tZ Tryz.prog p.1 p.2 := CAll.cons (n1_ok rsize_fc) <| CAll.cons (zhG rNeg_fc) <| CAll.cons (zhG rSign_fc) <| CAll.cons (zbM rMul_fc) zjE
theorem okF5 : (dZ Tryz.prog ctrF5 bw).OK := QZ zjF
theorem rsb_0 (x y : List Int) (h1 : pX y) (h2 : pAd x (aZ (-vl y))) : FC Tryz.prog 141 [.sq x, .sq y] (.ni (vl x + vl (aZ (-vl y)))) := kZ okF5 60 [] [] (.cons h1 (.cons h2 .nil)) (by kernel_rfl)
def pSu (x y : List Int) : Prop := pQ 390000 x ∧ pQ 390000 y
theorem rSub_fc (x y : List Int) (h : pSu x y) : FC Tryz.prog 141 [.sq x, .sq y] (.ni (vl x - vl y)) := by
  have := rsb_0 x y (h.2.mono (by decide)) ⟨h.1.mono (by decide), mZ h.2.sz.neg (by decide)⟩
  rw [cZ, ← Int.sub_eq_add_neg] at this
  exact this
def ctrF6 : Ctr := (141, cLL pSu (fun x y => .ni (vl x - vl y))) :: ctrF5
theorem zjG : ∀ p ∈ ctrF6, tZ Tryz.prog p.1 p.2 := CAll.cons (zbM rSub_fc) zjF
theorem okF6 : (dZ Tryz.prog ctrF6 bw).OK := QZ zjG
end Go.Proofs.YtloaeinogiplbaaGreatDoor
end
