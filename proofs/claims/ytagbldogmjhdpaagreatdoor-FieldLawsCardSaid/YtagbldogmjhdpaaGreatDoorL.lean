/- Closed facts of FieldLaws: for every input the law returns true, and its arguments read afterwards as before (the card: the listed tables are tied to the text of the program). Conditions: none beside those of the row. -/
import Derived.Test.YtagbldogmjhdpaaGreatDoorC
section
open Go Go.Ev Go.RowKit Go.ChangeShapes Go.WideShapes
namespace Go.Proofs.YtagbldogmjhdpaaGreatDoor
open Go.Proofs
set_option maxRecDepth 100000
set_option linter.unusedVariables false
set_option linter.unusedSimpArgs false
set_option maxHeartbeats 4000000
theorem zsL:joinedFacts Tryz.pinned.checked.prog 4 Tryz.f4 Rows.fieldLawsSpec Rows.fieldLawsRow=true:=by
 unfold joinedFacts
 simp only [Bool.and_eq_true]
 repeat' apply And.intro
 all_goals (as_aux_lemma=>kernel_rfl)
end Go.Proofs.YtagbldogmjhdpaaGreatDoor
end
