/- Closed facts of FieldFields: for every input the law returns true, and its arguments read afterwards as before (the card: the listed tables are tied to the text of the program). Conditions: none beside those of the row. -/
import Derived.Test.YtloaeinogiplbaaGreatDoorC
section
open Go Go.Ev Go.RowKit Go.ChangeShapes Go.WideShapes
namespace Go.Proofs.YtloaeinogiplbaaGreatDoor
open Go.Proofs
set_option maxRecDepth 100000
set_option linter.unusedVariables false
set_option linter.unusedSimpArgs false
theorem zhZ : Tryz.pinned.checked.prog.funcNamed Rows.fieldFieldsRow.func = some 6 := by kernel_rfl
theorem flds_wrap : Tryz.f6.isWrapper Tryz.pinned.checked.prog Rows.fieldFieldsRow.wrapper Rows.fieldFieldsRow.mainSum := by unfold Func.isWrapper; first | (rw [if_pos (by decide +kernel)]; kernel_rfl) | (rw [if_neg (by decide +kernel)]; exact ⟨rfl, rfl⟩)
theorem flds_inst : Tryz.f6.isInstance Tryz.pinned.checked.prog Rows.fieldFieldsRow.origin Rows.fieldFieldsRow.targs := of_decide_eq_true (by kernel_rfl)
end Go.Proofs.YtloaeinogiplbaaGreatDoor
end
