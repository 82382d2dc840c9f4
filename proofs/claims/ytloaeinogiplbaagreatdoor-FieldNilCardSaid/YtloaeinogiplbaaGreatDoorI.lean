/- Part of a proof about a given program: see the last module of the claim. -/
import Derived.Test.YtloaeinogiplbaaGreatDoorD
import Derived.Test.YtloaeinogiplbaaGreatDoorH
section
open Go Go.Ev Go.RowKit
namespace Go.Proofs.YtloaeinogiplbaaGreatDoor
open Go.Proofs
set_option maxRecDepth 100000
set_option maxHeartbeats 1000000
set_option linter.unusedVariables false
set_option linter.unusedSimpArgs false



def ctrT2 : Ctr := (170, c1 (fun z => z.natAbs < 100) (fun z => .lit (.string (txtB z)))) :: (131, cJoin) :: ctrN
theorem ctrT2_all : ∀ p ∈ ctrT2, CtrOK Tryz.prog p.1 p.2 := CAll.cons (c1_ok text_fc) <| CAll.cons join_ok ctrN_all
theorem okT2 : (mkCfg Tryz.prog ctrT2 bw).OK := cfg_ok ctrT2_all

end Go.Proofs.YtloaeinogiplbaaGreatDoor
end

section
open Go Go.Ev Go.RowKit
namespace Go.Proofs.YtloaeinogiplbaaGreatDoor
open Go.Proofs
set_option maxRecDepth 100000
set_option maxHeartbeats 1000000
set_option linter.unusedVariables false
set_option linter.unusedSimpArgs false
/-- The number 1, w, 1 + w and others, as the field returns them. -/
abbrev nW : AV := .agg [.sl [.lit (.slice none 0 0), .sq [1]] 2, .lit (.slice none 0 0)]
abbrev nA1 (a d : Int) : AV := .agg [.sl [.ni a] 1, .ni d]
abbrev nA2 (a b d : Int) : AV := .agg [.sl [.ni a, .ni b] 2, .ni d]


theorem cRoot : conA (mkCfg Tryz.prog ctrN bw) 300 68 [.lit (.int .i64 2)] = some (AV.tup [AV.agg [AV.sq [-2, 0, 1], aI 1, aI 2, aI 1], aI 0], [3 ≤ 3]) := by kernel_rfl
theorem cWhole1 : conA (mkCfg Tryz.prog ctrN bw) 300 31 [.lit (.int .i64 1)] = some (AV.agg [AV.sl [AV.ni 1] 1, AV.ni 1], []) := by kernel_rfl
theorem cWhole3 : conA (mkCfg Tryz.prog ctrN bw) 300 31 [.lit (.int .i64 3)] = some (AV.agg [AV.sl [AV.ni 3] 1, AV.ni 1], []) := by kernel_rfl
theorem cWhole100 : conA (mkCfg Tryz.prog ctrN bw) 300 31 [.lit (.int .i64 100)] = some (AV.agg [AV.sl [AV.ni 100] 1, AV.ni 1], []) := by kernel_rfl
theorem cAdd1 : conA (mkCfg Tryz.prog ctrN bw) 300 24 [R2, nA1 1 1, nW] = some (AV.agg [AV.sl [AV.ni 1, AV.ni 1] 2, AV.ni 1], []) := by kernel_rfl
theorem cAdd2 : conA (mkCfg Tryz.prog ctrN bw) 300 24 [R2, nW, nW] = some (AV.agg [AV.sl [AV.ni 0, AV.ni 2] 2, AV.ni 1], []) := by kernel_rfl
theorem cSub : conA (mkCfg Tryz.prog ctrN bw) 300 26 [R2, nA1 3 1, nA2 0 2 1] = some (AV.agg [AV.sl [AV.ni 3, AV.ni (-2)] 2, AV.ni 1], []) := by kernel_rfl
theorem cMul : conA (mkCfg Tryz.prog ctrN bw) 300 28 [R2, nA1 100 1, nW] = some (AV.agg [AV.sl [AV.ni 0, AV.ni 100] 2, AV.ni 1], []) := by kernel_rfl
theorem cSign : conA (mkCfg Tryz.prog ctrN bw) 300 30 [R2, nA2 3 (-2) 1] = some (aI 1, []) := by kernel_rfl
theorem cFloor : conA (mkCfg Tryz.prog ctrN bw) 300 33 [R2, nA2 0 100 1] = some (AV.ni 141, []) := by kernel_rfl
theorem cQuo : conA (mkCfg Tryz.prog ctrN bw) 300 19 [R2, nA1 1 1, nA2 1 1 1] = some (AV.tup [AV.agg [AV.sl [AV.ni (-1), AV.ni 1] 2, AV.ni 1], aI 0], []) := by kernel_rfl
theorem cFmt : conA (mkCfg Tryz.prog ctrT2 bw) 300 76 [R2, nA2 (-1) 1 1] = some (.lit (.string ⟨#[45, 49, 44, 49]⟩), []) := by kernel_rfl
theorem root2 : FC Tryz.prog 68 [.lit (.int .i64 2)] (.tup [F2, .lit (.int .i64 0)]) := fc_con okN cRoot (.cons (Nat.le_refl _) .nil)
theorem whole1 : FC Tryz.prog 31 [.lit (.int .i64 1)] (nA1 1 1) := fc_con okN cWhole1 .nil
theorem whole3 : FC Tryz.prog 31 [.lit (.int .i64 3)] (nA1 3 1) := fc_con okN cWhole3 .nil
theorem whole100 : FC Tryz.prog 31 [.lit (.int .i64 100)] (nA1 100 1) := fc_con okN cWhole100 .nil
theorem add1 : FC Tryz.prog 24 [R2, nA1 1 1, nW] (nA2 1 1 1) := fc_con okN cAdd1 .nil
theorem add2 : FC Tryz.prog 24 [R2, nW, nW] (nA2 0 2 1) := fc_con okN cAdd2 .nil
theorem sub1 : FC Tryz.prog 26 [R2, nA1 3 1, nA2 0 2 1] (nA2 3 (-2) 1) := fc_con okN cSub .nil
theorem mul1 : FC Tryz.prog 28 [R2, nA1 100 1, nW] (nA2 0 100 1) := fc_con okN cMul .nil
theorem sign1 : FC Tryz.prog 30 [R2, nA2 3 (-2) 1] (.lit (.int .i64 1)) := fc_con okN cSign .nil
theorem floor1 : FC Tryz.prog 33 [R2, nA2 0 100 1] (.ni 141) := fc_con okN cFloor .nil
theorem fmt1 : FC Tryz.prog 76 [R2, nA2 (-1) 1 1] (.lit (.string ⟨#[45, 49, 44, 49]⟩)) := fc_con okT2 cFmt .nil
theorem quo1 : FC Tryz.prog 19 [R2, nA1 1 1, nA2 1 1 1] (.tup [nA2 (-1) 1 1, .lit (.int .i64 0)]) := fc_con okN cQuo .nil
def ctrW : Ctr := (68, cK [.lit (.int .i64 2)] (.tup [F2, .lit (.int .i64 0)])) ::
  (31, orC (cK [.lit (.int .i64 1)] (nA1 1 1)) (orC (cK [.lit (.int .i64 3)] (nA1 3 1)) (cK [.lit (.int .i64 100)] (nA1 100 1)))) ::
  (24, orC (cK [R2, nA1 1 1, nW] (nA2 1 1 1)) (cK [R2, nW, nW] (nA2 0 2 1))) ::
  (26, cK [R2, nA1 3 1, nA2 0 2 1] (nA2 3 (-2) 1)) ::
  (28, cK [R2, nA1 100 1, nW] (nA2 0 100 1)) ::
  (30, cK [R2, nA2 3 (-2) 1] (.lit (.int .i64 1))) ::
  (33, cK [R2, nA2 0 100 1] (.ni 141)) ::
  (76, cK [R2, nA2 (-1) 1 1] (.lit (.string ⟨#[45, 49, 44, 49]⟩))) ::
  (19, cK [R2, nA1 1 1, nA2 1 1 1] (.tup [nA2 (-1) 1 1, .lit (.int .i64 0)])) :: ctrT2
theorem ctrW_all : ∀ p ∈ ctrW, CtrOK Tryz.prog p.1 p.2 :=
  CAll.cons (cK_ok root2) <| CAll.cons (orC_ok (cK_ok whole1) (orC_ok (cK_ok whole3) (cK_ok whole100))) <| CAll.cons (orC_ok (cK_ok add1) (cK_ok add2)) <| CAll.cons (cK_ok sub1) <|
  CAll.cons (cK_ok mul1) <| CAll.cons (cK_ok sign1) <| CAll.cons (cK_ok floor1) <| CAll.cons (cK_ok fmt1) <| CAll.cons (cK_ok quo1) ctrT2_all
theorem okW : (mkCfg Tryz.prog ctrW bw).OK := cfg_ok ctrW_all

end Go.Proofs.YtloaeinogiplbaaGreatDoor
end

section
open Go Go.Ev Go.RowKit
namespace Go.Proofs.YtloaeinogiplbaaGreatDoor
open Go.Proofs
set_option maxRecDepth 100000
set_option maxHeartbeats 1000000
set_option linter.unusedVariables false
set_option linter.unusedSimpArgs false


theorem cAwake : conA (mkCfg Tryz.prog ctrW bw) 300 18 [] = some (aT, [1 ≤ 1, 1 ≤ 1, 1 ≤ 1, 1 ≤ 1, 1 ≤ 1, 1 ≤ 1, 1 ≤ 1, 1 ≤ 1, 1 ≤ 1, 1 ≤ 1, 1 ≤ 1, 1 ≤ 1, 1 ≤ 1, 1 ≤ 1, 1 ≤ 1, 1 ≤ 1, 1 ≤ 1, 1 ≤ 1, 1 ≤ 1, 1 ≤ 1, 1 ≤ 1]) := by kernel_rfl
theorem awake_fc : FC Tryz.prog 18 [] (.lit (.bool true)) := fc_con okW cAwake (by (repeat' (first | exact AllC.nil | refine AllC.cons ?_ ?_)); all_goals (first | (with_reducible rfl) | exact Nat.le_refl _ | trivial | decide))

end Go.Proofs.YtloaeinogiplbaaGreatDoor
end
