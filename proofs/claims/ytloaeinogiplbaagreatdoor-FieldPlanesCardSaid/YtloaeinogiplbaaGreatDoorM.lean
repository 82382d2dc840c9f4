/- FieldPlanes: for every input the law returns true, and its arguments read afterwards as before (the card: the listed tables are tied to the text of the program). Conditions: none beside those of the row. -/
import Derived.Test.YtloaeinogiplbaaGreatDoorJ
import Derived.Test.YtloaeinogiplbaaGreatDoorK
import Derived.Test.YtloaeinogiplbaaGreatDoorL
import Derived.Test.YtloaeinogiplbaaGreatDoorTie
import Derived.Test.YtloaeinogiplbaaGreatDoorCards
section
open Go Go.Ev Go.RowKit Go.ChangeShapes Go.WideShapes
namespace Go.Proofs.YtloaeinogiplbaaGreatDoor
open Go.Proofs
set_option maxRecDepth 100000
set_option linter.unusedVariables false
set_option linter.unusedSimpArgs false
theorem zoN:Rows.FieldPlanesSaid:=
  OpenClaim.holds_of_wide 7 Tryz.f7 rfl rfl rfl rfl rfl rfl rfl ⟨rfl,rfl,rfl,rfl,rfl⟩ rfl rfl rfl rfl rfl ziT Tryz.func7 zmD plns_inst plns_wrap
    (fun os started H enc _=>zmE os started H enc)
set_option maxHeartbeats 4000000
theorem plns_card:Rows.FieldPlanesCardSaid:=
  Claim7.holds_tied_plain_at .later [] [.data,.data,.data] true Rows.fieldPlanesCard.stood.harness true
    zoN (fun _ h=>by cases h) (by as_aux_lemma=>kernel_rfl) (fun _ h=>by cases h) fieldPlanes_row_tie rfl ⟨rfl,rfl⟩ (by as_aux_lemma=>kernel_rfl) rfl
    (fun f fn hf hfn=>by
      obtain rfl:f=7:=Option.some.inj ((show Tryz.prog.funcNamed Rows.fieldPlanesRow.func=some 7 from ziT).symm.trans hf) |>.symm
      obtain rfl:fn=Tryz.f7:=(Option.some.inj (Tryz.func7.symm.trans hfn)).symm
      exact ⟨by as_aux_lemma=>kernel_rfl,fun j t ht=>by
        rw [Tryz.params7] at ht
        have hm:t∈[24,63]:=by simpa using Array.mem_of_getElem? ht
        have hall:([24,63].all fun u=>!Tryz.prog.wantsStandIn u)=true:=by as_aux_lemma=>kernel_rfl
        exact(show Tryz.prog.wantsStandIn t=false by simpa using List.all_eq_true.1 hall t hm)⟩)
    (by as_aux_lemma=>kernel_rfl)
end Go.Proofs.YtloaeinogiplbaaGreatDoor
end
