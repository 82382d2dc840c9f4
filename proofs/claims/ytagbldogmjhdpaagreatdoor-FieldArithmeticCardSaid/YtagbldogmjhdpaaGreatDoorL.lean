/- Closed facts of FieldArithmetic: for every input the law returns true, and its arguments read afterwards as before (the card: the listed tables are tied to the text of the program). Conditions: none beside those of the row. -/
import Derived.Test.YtagbldogmjhdpaaGreatDoorC
section
open Go Go.Ev Go.RowKit Go.ChangeShapes Go.WideShapes
namespace Go.Proofs.YtagbldogmjhdpaaGreatDoor
open Go.Proofs
set_option maxRecDepth 100000
set_option linter.unusedVariables false
set_option linter.unusedSimpArgs false
theorem ziN:Tryz.pinned.checked.prog.funcNamed Rows.fieldArithmeticRow.func=some 3:=by kernel_rfl
theorem arit_wrap:Tryz.f3.isWrapper Tryz.pinned.checked.prog Rows.fieldArithmeticRow.wrapper Rows.fieldArithmeticRow.mainSum:=by unfold Func.isWrapper;first | (rw [if_pos (by decide +kernel)];kernel_rfl) | (rw [if_neg (by decide +kernel)];exact ⟨rfl,rfl⟩)
theorem arit_inst:Tryz.f3.isInstance Tryz.pinned.checked.prog Rows.fieldArithmeticRow.origin Rows.fieldArithmeticRow.targs:=of_decide_eq_true (by kernel_rfl)
end Go.Proofs.YtagbldogmjhdpaaGreatDoor
end
