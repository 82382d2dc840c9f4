/- FieldVectors: for every input the law returns true, and its arguments read afterwards as before (the card: the listed tables are tied to the text of the program). Conditions: none beside those of the row. -/
import Derived.Test.YtloaeinogiplbaaGreatDoorJ
import Derived.Test.YtloaeinogiplbaaGreatDoorK
import Derived.Test.YtloaeinogiplbaaGreatDoorL
import Derived.Test.YtloaeinogiplbaaGreatDoorTie
import Derived.Test.YtloaeinogiplbaaGreatDoorCards
section
open Go Go.Ev Go.RowKit Go.ChangeShapes Go.WideShapes
namespace Go.Proofs.YtloaeinogiplbaaGreatDoor
open Go.Proofs
set_option maxRecDepth 100000
set_option linter.unusedVariables false
set_option linter.unusedSimpArgs false
theorem zrW:Rows.FieldVectorsSaid:=
 OpenClaim.holds_of_wide 8 Tryz.f8 rfl rfl rfl rfl rfl rfl rfl ⟨rfl,rfl,rfl,rfl,rfl⟩ rfl rfl rfl rfl rfl zjZ Tryz.func8 znR vecs_inst vecs_wrap
  (fun os started H enc _=>znS os started H enc)
set_option maxHeartbeats 4000000
theorem vecs_card:Rows.FieldVectorsCardSaid:=
 Claim7.holds_tied_plain_at .later [] [.data,.data,.data] true Rows.fieldVectorsCard.stood.harness true
  zrW (fun _ h=>by cases h) (by as_aux_lemma=>kernel_rfl) (fun _ h=>by cases h) fieldVectors_row_tie rfl ⟨rfl,rfl⟩ (by as_aux_lemma=>kernel_rfl) rfl
  (fun f fn hf hfn=>by
   obtain rfl:f=8:=Option.some.inj ((show Tryz.prog.funcNamed Rows.fieldVectorsRow.func=some 8 from zjZ).symm.trans hf) |>.symm
   obtain rfl:fn=Tryz.f8:=(Option.some.inj (Tryz.func8.symm.trans hfn)).symm
   exact ⟨by as_aux_lemma=>kernel_rfl,fun j t ht=>by
    rw [Tryz.params8] at ht
    have hm:t∈[24,63]:=by simpa using Array.mem_of_getElem? ht
    have hall:([24,63].all fun u=>!Tryz.prog.wantsStandIn u)=true:=by as_aux_lemma=>kernel_rfl
    exact(show Tryz.prog.wantsStandIn t=false by simpa using List.all_eq_true.1 hall t hm)⟩)
  (by as_aux_lemma=>kernel_rfl)
end Go.Proofs.YtloaeinogiplbaaGreatDoor
end
