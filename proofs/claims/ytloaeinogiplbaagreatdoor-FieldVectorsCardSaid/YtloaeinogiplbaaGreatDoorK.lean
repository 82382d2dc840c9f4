/- Part of a proof about a given program: see the last module of the claim. -/
import Derived.Test.YtloaeinogiplbaaGreatDoorC
section
open Go Go.Ev Go.RowKit Go.ChangeShapes Go.WideShapes
namespace Go.Proofs.YtloaeinogiplbaaGreatDoor
open Go.Proofs
set_option maxRecDepth 100000
set_option linter.unusedVariables false
set_option linter.unusedSimpArgs false
theorem zjZ:Tryz.pinned.checked.prog.funcNamed Rows.fieldVectorsRow.func=some 8:=by kernel_rfl
theorem vecs_wrap:Tryz.f8.isWrapper Tryz.pinned.checked.prog Rows.fieldVectorsRow.wrapper Rows.fieldVectorsRow.mainSum:=by unfold Func.isWrapper;first | (rw [if_pos (by decide +kernel)];kernel_rfl) | (rw [if_neg (by decide +kernel)];exact ⟨rfl,rfl⟩)
theorem vecs_inst:Tryz.f8.isInstance Tryz.pinned.checked.prog Rows.fieldVectorsRow.origin Rows.fieldVectorsRow.targs:=of_decide_eq_true (by kernel_rfl)
end Go.Proofs.YtloaeinogiplbaaGreatDoor
end
