/- FieldFields: for every input the law returns true, and its arguments read afterwards as before (the card: the listed tables are tied to the text of the program). Conditions: none beside those of the row. -/
import Derived.Test.YtloaeinogiplbaaGreatDoorI
import Derived.Test.YtloaeinogiplbaaGreatDoorJ
import Derived.Test.YtloaeinogiplbaaGreatDoorK
import Derived.Test.YtloaeinogiplbaaGreatDoorTie
import Derived.Test.YtloaeinogiplbaaGreatDoorCards
section
open Go Go.Ev Go.RowKit Go.ChangeShapes Go.WideShapes
namespace Go.Proofs.YtloaeinogiplbaaGreatDoor
open Go.Proofs
set_option maxRecDepth 100000
set_option linter.unusedVariables false
set_option linter.unusedSimpArgs false
theorem zmI : Rows.FieldFieldsSaid :=
  OpenClaim.holds_of_wide 6 Tryz.f6 rfl rfl rfl rfl rfl rfl rfl ⟨rfl, rfl, rfl, rfl, rfl⟩ rfl rfl rfl rfl rfl zhZ Tryz.func6 zkQ flds_inst flds_wrap
    (fun os started H enc _ => zkR os started H enc)
set_option maxHeartbeats 4000000
theorem flds_card : Rows.FieldFieldsCardSaid :=
  Claim7.holds_tied_plain_at .later [] [.data, .data, .data] true Rows.fieldFieldsCard.stood.harness true
    zmI (fun _ h => by cases h) (by as_aux_lemma => kernel_rfl) (fun _ h => by cases h) fieldFields_row_tie rfl ⟨rfl, rfl⟩ (by as_aux_lemma => kernel_rfl) rfl
    (fun f fn hf hfn => by
      obtain rfl : f = 6 := Option.some.inj ((show Tryz.prog.funcNamed Rows.fieldFieldsRow.func = some 6 from zhZ).symm.trans hf) |>.symm
      obtain rfl : fn = Tryz.f6 := (Option.some.inj (Tryz.func6.symm.trans hfn)).symm
      exact ⟨by as_aux_lemma => kernel_rfl, fun j t ht => by
        rw [Tryz.params6] at ht
        have hm : t ∈ [24] := by simpa using Array.mem_of_getElem? ht
        have hall : ([24].all fun u => !Tryz.prog.wantsStandIn u) = true := by as_aux_lemma => kernel_rfl
        exact (show Tryz.prog.wantsStandIn t = false by simpa using List.all_eq_true.1 hall t hm)⟩)
    (by as_aux_lemma => kernel_rfl)
end Go.Proofs.YtloaeinogiplbaaGreatDoor
end
