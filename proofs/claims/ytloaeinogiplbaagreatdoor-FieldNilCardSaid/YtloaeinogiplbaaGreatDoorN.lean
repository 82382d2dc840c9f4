/- Closed facts of FieldNil's row: for every input the law returns true, and its arguments read afterwards as before (the card: the listed tables are tied to the text of the program). Conditions: none beside those of the row. -/
import Derived.Test.YtloaeinogiplbaaGreatDoorL
section
open Go Go.Ev Go.RowKit Go.ChangeShapes Go.WideShapes
namespace Go.Proofs.YtloaeinogiplbaaGreatDoor
open Go.Proofs
set_option maxRecDepth 100000
set_option linter.unusedVariables false
set_option linter.unusedSimpArgs false
theorem nil_named : Tryz.pinned.checked.prog.funcNamed Rows.fieldNilRow.func = some 14 := by kernel_rfl
theorem nil_wrap : Tryz.f14.isWrapper Tryz.pinned.checked.prog Rows.fieldNilRow.wrapper Rows.fieldNilRow.mainSum := by unfold Func.isWrapper; first | (rw [if_pos (by decide +kernel)]; kernel_rfl) | (rw [if_neg (by decide +kernel)]; exact ⟨rfl, rfl⟩)
theorem nil_inst : Tryz.f14.isInstance Tryz.pinned.checked.prog Rows.fieldNilRow.origin Rows.fieldNilRow.targs := of_decide_eq_true (by kernel_rfl)
end Go.Proofs.YtloaeinogiplbaaGreatDoor
end
