/- Part of FieldLaws: for every input the law returns true, and its arguments read afterwards as before (the card: the listed tables are tied to the text of the program). Conditions: none beside those of the row. -/
import Derived.Test.YtagbldogmjhdpaaGreatDoorC
import Derived.Lay
import Derived.MakeChecks
import Derived.Test.YtagbldogmjhdpaaGreatDoorI
section
open Go Go.Ev Go.RowKit Go.ChangeShapes Go.WideShapes
namespace Go.Proofs.YtagbldogmjhdpaaGreatDoor
open Go.Proofs
set_option maxRecDepth 100000
set_option linter.unusedVariables false
set_option linter.unusedSimpArgs false
theorem zsM (os:Os) (started:os.Started) (H:Type) (enc:TypeId × Value→H) :
 ReturnsInHanded {} Tryz.checked os 4 .any (fun w args=>(Rows.fieldLawsSpec.pre enc Tryz.prog Tryz.f4 [] false w args∧laidMetH Tryz.prog Rows.fieldLawsRow.laid w)∧sizedMet enc Tryz.prog Tryz.f4 (OpenSpec.ofChange Rows.fieldLawsSpec) false w args)
  (Rows.fieldLawsSpec.post enc Tryz.prog Tryz.f4 false true false false):=by
 refine returnsInHanded_of_change_and (C:=Tryz.checked) (X:=fun w _=>laidMetH Tryz.prog Rows.fieldLawsRow.laid w) (fun _ _ _ hh h=>h.of_heap hh) own started (by kernel_rfl) Tryz.func4
  (ChangeSpec.witness_shaped (enc:=enc) (C:=Tryz.checked) (os:=os) (X:=fun w _=>laidMetH Tryz.prog Rows.fieldLawsRow.laid w) false (World.laidAll Tryz.prog os Rows.fieldLawsRow.laid) #[.agg #[.slice none 0 0,.int .i64 0,.int .i64 0,.int .i64 0],.agg #[.slice none 0 0,.slice none 0 0,.slice none 0 0,.slice none 0 0,.slice none 0 0,.slice none 0 0]] 8 (World.laidAll_os _ _ _) (World.shaped_of_ZipB (by kernel_rfl) (by kernel_rfl)) (by kernel_rfl) (by kernel_rfl) (by kernel_rfl)
   (by rw [MakeChecks.laidMetH_plain _ _ _ (by kernel_rfl)];exact laidMet_laidAll _ (by kernel_rfl) (by kernel_rfl))) ?_
 intro W base args ds gs before hval0 hW _ _ _ _
 have hval:∀(j:Nat) t v,Tryz.f4.params[j]? = some t→args[j]? = some v→Value.okWide Tryz.prog W .any base t v:=hval0
 have hW':=hW
 obtain ⟨p,q,hA0,hV,rfl,hfz,hnd⟩:=hW
 have hA:DataW.TrodAll enc Tryz.prog W 0 (fun _=>true) true Tryz.f4.params.toList args.toList ds p:=hA0
 rw [Tryz.params4] at hA hval
 obtain ⟨v0,v1,d0,d1,p0,p1,rfl,rfl,rfl,h0,h1⟩:=trodAll_two hA
 obtain ⟨rfl,rfl⟩:=trodVars_none hV
 clear hA0 hval0
 simp only [List.append_nil] at hW'
 have hlt:∀x∈p0++p1,x.block<W.heap.size:=fun x hx=>by simpa using hW'.lt x hx
 obtain ⟨l0,_,r0⟩:=krField.arg rfl Tryz.underlying24 (hval 0 _ v0 rfl rfl) h0
 obtain ⟨l1,b1,r1⟩:=krThree.arg rfl Tryz.underlying46 (hval 1 _ v1 rfl rfl) h1
 refine (laws_row l0 l1 b1 (fun _=>False) W #[v0,v1] (fun _ h=>h.elim) rfl ?_).mono ?_
 ·intro i hi
  have:i=0∨i=1:=by simp at hi;omega
  rcases this with rfl | rfl
  ·exact r0
  ·exact r1
 ·rintro e W' ⟨v,rfl,hb,hr⟩
  have hv:v=.bool true:=hr.lit_inv
  subst hv
  refine ⟨_,rfl,post_true (pa:=p0++p1) (pv:=[]) hW' ?_ ?_ (fun _ _=>rfl) (by simp) hb (ok_one (by kernel_rfl) rfl (okWide_bool_mk Tryz.underlying4 _))⟩
  ·intro b sp hd
   exact trodAll_mk1 (shut_bool Tryz.underlying4 true)
  ·intro sp hsp
   have e:Rows.fieldLawsSpec.fn H ([d0,d1]++[])={ results:=[.lit (.bool true)],args:=[d0,d1] }:=rfl
   rw [e]
   have go:∀ {t:TypeId} (ht:t=24∨t=46) {v:Value} {d:DataW H} {q:List MemPlace},DataW.Trod enc Tryz.prog W 0 (fun _=>true) true t v d q→(∀x∈q,x∈p0++p1)→DataW.Trod enc Tryz.prog W' 0 sp true t v d q:=fun {t} ht {v d q} h hq=>by
    rcases ht with rfl | rfl<;>exact WideElems.Trod_stays laidOut (by kernel_rfl) (of_decide_eq_true (by kernel_rfl)) h (fun x hx=>hb.same (hlt x (hq x hx))) (fun x hx=>hsp x (by simpa using hq x hx))
   rw [Tryz.params4]
   exact trodAll_mk2 (go (.inl rfl) h0 fun x hx=>by simp [hx]) (go (.inr rfl) h1 fun x hx=>by simp [hx])
end Go.Proofs.YtagbldogmjhdpaaGreatDoor
end
