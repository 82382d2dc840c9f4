/- FieldNil: for every input the law returns true, and its arguments read afterwards as before (the card: the listed tables are tied to the text of the program). Conditions: none beside those of the row. -/
import Derived.Test.YtloaeinogiplbaaGreatDoorM
import Derived.Test.YtloaeinogiplbaaGreatDoorN
import Derived.Test.YtloaeinogiplbaaGreatDoorO
import Derived.Test.YtloaeinogiplbaaGreatDoorTie
import Derived.Test.YtloaeinogiplbaaGreatDoorCards
section
open Go Go.Ev Go.RowKit Go.ChangeShapes Go.WideShapes
namespace Go.Proofs.YtloaeinogiplbaaGreatDoor
open Go.Proofs
set_option maxRecDepth 100000
set_option linter.unusedVariables false
set_option linter.unusedSimpArgs false
theorem nil_holds : Rows.FieldNilSaid :=
  OpenClaim.holds_of_wide 14 Tryz.f14 rfl rfl rfl rfl rfl rfl rfl ⟨rfl, rfl, rfl, rfl, rfl⟩ rfl rfl rfl rfl rfl nil_named Tryz.func14 nil_closed nil_inst nil_wrap
    (fun os started H enc _ => nil_lifted os started H enc)
set_option maxHeartbeats 4000000
/-- THE CARD: 'FieldNil' holds for every input, the listed tables tied to the program's text. -/
theorem nil_card : Rows.FieldNilCardSaid :=
  Claim7.holds_tied_plain_at .later [] [.data, .data, .data, .data, .sentinel, .sentinel, .pinned] true Rows.fieldNilCard.stood.harness true
    nil_holds (fun _ h => by cases h) (by as_aux_lemma => kernel_rfl) (fun _ h => by cases h) fieldNil_row_tie rfl ⟨rfl, rfl⟩ (by as_aux_lemma => kernel_rfl) rfl
    (fun f fn hf hfn => by
      obtain rfl : f = 14 := Option.some.inj ((show Tryz.prog.funcNamed Rows.fieldNilRow.func = some 14 from nil_named).symm.trans hf) |>.symm
      obtain rfl : fn = Tryz.f14 := (Option.some.inj (Tryz.func14.symm.trans hfn)).symm
      exact ⟨by as_aux_lemma => kernel_rfl, fun j t ht => by
        rw [Tryz.params14] at ht
        have hm : t ∈ [27, 27, 3] := by simpa using Array.mem_of_getElem? ht
        have hall : ([27, 27, 3].all fun u => !Tryz.prog.wantsStandIn u) = true := by as_aux_lemma => kernel_rfl
        exact (show Tryz.prog.wantsStandIn t = false by simpa using List.all_eq_true.1 hall t hm)⟩)
    (by as_aux_lemma => kernel_rfl)
end Go.Proofs.YtloaeinogiplbaaGreatDoor
end
