/- Closed facts of FieldPlanes: for every input the law returns true, and its arguments read afterwards as before (the card: the listed tables are tied to the text of the program). Conditions: none beside those of the row. -/
import Derived.Test.YtloaeinogiplbaaGreatDoorC
section
open Go Go.Ev Go.RowKit Go.ChangeShapes Go.WideShapes
namespace Go.Proofs.YtloaeinogiplbaaGreatDoor
open Go.Proofs
set_option maxRecDepth 100000
set_option linter.unusedVariables false
set_option linter.unusedSimpArgs false
theorem ziT:Tryz.pinned.checked.prog.funcNamed Rows.fieldPlanesRow.func=some 7:=by kernel_rfl
theorem plns_wrap:Tryz.f7.isWrapper Tryz.pinned.checked.prog Rows.fieldPlanesRow.wrapper Rows.fieldPlanesRow.mainSum:=by unfold Func.isWrapper;first | (rw [if_pos (by decide +kernel)];kernel_rfl) | (rw [if_neg (by decide +kernel)];exact ⟨rfl,rfl⟩)
theorem plns_inst:Tryz.f7.isInstance Tryz.pinned.checked.prog Rows.fieldPlanesRow.origin Rows.fieldPlanesRow.targs:=of_decide_eq_true (by kernel_rfl)
end Go.Proofs.YtloaeinogiplbaaGreatDoor
end
