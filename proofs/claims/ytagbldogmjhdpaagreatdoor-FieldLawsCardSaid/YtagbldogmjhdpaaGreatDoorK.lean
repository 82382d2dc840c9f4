/- Closed facts of FieldLaws: for every input the law returns true, and its arguments read afterwards as before (the card: the listed tables are tied to the text of the program). Conditions: none beside those of the row. -/
import Derived.Test.YtagbldogmjhdpaaGreatDoorC
section
open Go Go.Ev Go.RowKit Go.ChangeShapes Go.WideShapes
namespace Go.Proofs.YtagbldogmjhdpaaGreatDoor
open Go.Proofs
set_option maxRecDepth 100000
set_option linter.unusedVariables false
set_option linter.unusedSimpArgs false
theorem zsy:Tryz.pinned.checked.prog.funcNamed Rows.fieldLawsRow.func=some 4:=by kernel_rfl
theorem laws_wrap:Tryz.f4.isWrapper Tryz.pinned.checked.prog Rows.fieldLawsRow.wrapper Rows.fieldLawsRow.mainSum:=by unfold Func.isWrapper;first | (rw [if_pos (by decide +kernel)];kernel_rfl) | (rw [if_neg (by decide +kernel)];exact ⟨rfl,rfl⟩)
theorem laws_inst:Tryz.f4.isInstance Tryz.pinned.checked.prog Rows.fieldLawsRow.origin Rows.fieldLawsRow.targs:=of_decide_eq_true (by kernel_rfl)
end Go.Proofs.YtagbldogmjhdpaaGreatDoor
end
