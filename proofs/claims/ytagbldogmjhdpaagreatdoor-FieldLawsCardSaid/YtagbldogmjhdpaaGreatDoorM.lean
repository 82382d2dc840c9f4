/- FieldLaws: for every input the law returns true, and its arguments read afterwards as before (the card: the listed tables are tied to the text of the program). Conditions: none beside those of the row. -/
import Derived.Test.YtagbldogmjhdpaaGreatDoorJ
import Derived.Test.YtagbldogmjhdpaaGreatDoorK
import Derived.Test.YtagbldogmjhdpaaGreatDoorL
import Derived.Test.YtagbldogmjhdpaaGreatDoorTie
import Derived.Test.YtagbldogmjhdpaaGreatDoorCards
section
open Go Go.Ev Go.RowKit Go.ChangeShapes Go.WideShapes
namespace Go.Proofs.YtagbldogmjhdpaaGreatDoor
open Go.Proofs
set_option maxRecDepth 100000
set_option linter.unusedVariables false
set_option linter.unusedSimpArgs false
theorem zsX:Rows.FieldLawsSaid:=
 OpenClaim.holds_of_wide 4 Tryz.f4 rfl rfl rfl rfl rfl rfl rfl ⟨rfl,rfl,rfl,rfl,rfl⟩ rfl rfl rfl rfl rfl zsy Tryz.func4 zsL laws_inst laws_wrap
  (fun os started H enc _=>zsM os started H enc)
set_option maxHeartbeats 4000000
theorem laws_card:Rows.FieldLawsCardSaid:=
 Claim7.holds_tied_plain_at .later [] [.data,.data,.data] true Rows.fieldLawsCard.stood.harness false
  zsX (fun _ h=>by cases h) (by as_aux_lemma=>kernel_rfl) (fun _ h=>by cases h) fieldLaws_row_tie rfl ⟨rfl,rfl⟩ (by as_aux_lemma=>kernel_rfl) rfl
  (fun f fn hf hfn=>by
   obtain rfl:f=4:=Option.some.inj ((show Tryz.prog.funcNamed Rows.fieldLawsRow.func=some 4 from zsy).symm.trans hf) |>.symm
   obtain rfl:fn=Tryz.f4:=(Option.some.inj (Tryz.func4.symm.trans hfn)).symm
   exact ⟨by as_aux_lemma=>kernel_rfl,fun j t ht=>by
    rw [Tryz.params4] at ht
    have hm:t∈[24,46]:=by simpa using Array.mem_of_getElem? ht
    have hall:([24,46].all fun u=>!Tryz.prog.wantsStandIn u)=true:=by as_aux_lemma=>kernel_rfl
    exact(show Tryz.prog.wantsStandIn t=false by simpa using List.all_eq_true.1 hall t hm)⟩)
  (by as_aux_lemma=>kernel_rfl)
end Go.Proofs.YtagbldogmjhdpaaGreatDoor
end
