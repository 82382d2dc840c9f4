/- Part of a proof about a given program: see the last module of the claim. -/
import Derived.Test.YtagbldogmjhdpaaGreatDoorE
import Derived.Test.YtagbldogmjhdpaaGreatDoorH
import Derived.Test.YtagbldogmjhdpaaGreatDoorG
section
open Go Go.Ev Go.RowKit
namespace Go.Proofs.YtagbldogmjhdpaaGreatDoor
open Go.Proofs
set_option maxRecDepth 100000
set_option maxHeartbeats 1000000
set_option linter.unusedVariables false
set_option linter.unusedSimpArgs false
noncomputable section
end
open Go.Kf
theorem trK9 {p:List Int} {x:N5} (hP:za7 p) (h:V9 p x):pTrN p (trZ p) x:=by
 have h2:=hP.1
 have h5:=hP.2.1
 exact ⟨hP,by rw [znb hP];omega,by rw [znb hP];omega,fun i=>(trZ_sz hP i).mono (by decide),h.n5⟩
theorem frd {p:List Int} (hP:za7 p) {a b:Int} (hb:b≠0) (sa:Sz 20000 a) (sb:Sz 20000 b):zgb p [a] b:=⟨hP,by simp,by simp,fun j=>by
 match j with
 | 0=>exact sa
 | j+1=>exact Sz.zero,hb,sb⟩
theorem zaM {p:List Int} (hP:za7 p) {a b:Int} {c:N5} (h:b≠0∧a.natAbs≤9∧b.natAbs≤9) (e:frT p a b=c):frE p a b c:=
 have s:∀ {z:Int},z.natAbs≤9→Sz 20000 z:=fun h=>Sz.lit (k:=20000) (by omega) (by decide)
 ⟨frd hP h.1 (s h.2.1) (s h.2.2),e⟩
theorem zdY {p:List Int} (hP:za7 p) {a c:N5} (h:V9 p a) (e:trT p (trZ p) a=c):trE p (trZ p) a c:=⟨trK9 hP h,e⟩
theorem DZ {p:List Int} (hP:za7 p) {a b c:N5} (h:V9 p a) (k:V9 p b) (e:tmT p a b=c):tmE p a b c:=⟨⟨hP,h.p5 k⟩,e⟩
theorem zbf {p:List Int} {a b c:N5} (h:V9 p a) (k:V9 p b) (e:plT a b=c):plE a b c:=⟨h.p5 k,e⟩
def run1 (p t:List Int) (x:N5) (i:Nat):N5:=([pwT p x 0,roT p x (csT p t x 1) 0,dN,pwT p x 1,trK p t x 1,dN,frT p (-1) 1,(csT p t x 1).getD 0 dN]:List N5).getD (999-i) dN
theorem char_a (p0 p1:Int) (x:N5) (hP:za7 [p0,p1]) (r:Run9 [p0,p1] 1 x):FC tP 78 [reT (.lst .whole [p0,p1]) (.lst .whole (trZ [p0,p1])),nuK.val x] (.tup [.lst nuK (csT [p0,p1] (trZ [p0,p1]) x 1),nuK.val (roT [p0,p1] x (csT [p0,p1] (trZ [p0,p1]) x 1) 0)]):=by
 obtain ⟨L,hL⟩:∃L,L=run1 [p0,p1] (trZ [p0,p1]) x:=⟨_,rfl⟩
 have E:L 999=pwT [p0,p1] x 0∧L 998=roT [p0,p1] x (csT [p0,p1] (trZ [p0,p1]) x 1) 0∧L 996=pwT [p0,p1] x 1∧L 995=trK [p0,p1] (trZ [p0,p1]) x 1∧L 993=frT [p0,p1] (-1) 1∧L 992=(csT [p0,p1] (trZ [p0,p1]) x 1).getD 0 dN:=by
  rw [hL];unfold run1;simp only [Nat.reduceSub,List.getD_cons_succ,List.getD_cons_zero,and_self]
 obtain ⟨e999,e998,e996,e995,e993,e992⟩:=E
 have v999:=V9.to e999 (r.pw 0 rfl)
 have v998:=V9.to e998 (r.rs 0 rfl)
 have v996:=V9.to e996 (r.pw 1 rfl)
 have v995:=V9.to e995 (r.tr 1 rfl)
 have v993:=V9.to e993 (r.fr 0 rfl)
 have v992:=V9.to e992 (r.co 0 rfl)
 have g:=cha_0 p0 p1 (trZ [p0,p1]) x L (by unfold cZ;omega) (zaM hP (by decide) (by rw [e999]<;>rfl)) (zaM hP (by decide) (by rw [e998]<;>rfl)) (DZ hP v999 r.x9 (by rw [e999,e996]<;>rfl)) (zdY hP v996 (by rw [e996,e995]<;>rfl)) (by simp) (by unfold cZ;omega) (zaM hP (by decide) (by rw [e993]<;>rfl)) (DZ hP v995 v993 (by rw [e995,e993,e992]<;>rfl)) (by simp) (by simp)
 have c:csT [p0,p1] (trZ [p0,p1]) x 1=[L 992]:=by rw [e992]<;>rfl
 rw [c,← show L 998=roT [p0,p1] x [L 992] 0 by rw [← c];exact e998]
 exact g
def run2 (p t:List Int) (x:N5) (i:Nat):N5:=([pwT p x 0,roT p x (csT p t x 2) 0,dN,pwT p x 1,trK p t x 1,dN,frT p (-1) 1,(csT p t x 2).getD 0 dN,dN,tmT p (roT p x (csT p t x 2) 0) x,roT p x (csT p t x 2) 1,dN,pwT p x 2,trK p t x 2,dN,tmT p ((csT p t x 1).getD 0 dN) (trK p t x 1),inT p t x (csT p t x 1) 1 1,dN,frT p (-1) 2,(csT p t x 2).getD 1 dN]:List N5).getD (999-i) dN
theorem char_b (p0 p1 p2:Int) (x:N5) (hP:za7 [p0,p1,p2]) (r:Run9 [p0,p1,p2] 2 x):FC tP 78 [reT (.lst .whole [p0,p1,p2]) (.lst .whole (trZ [p0,p1,p2])),nuK.val x] (.tup [.lst nuK (csT [p0,p1,p2] (trZ [p0,p1,p2]) x 2),nuK.val (roT [p0,p1,p2] x (csT [p0,p1,p2] (trZ [p0,p1,p2]) x 2) 1)]):=by
 obtain ⟨L,hL⟩:∃L,L=run2 [p0,p1,p2] (trZ [p0,p1,p2]) x:=⟨_,rfl⟩
 have E:L 999=pwT [p0,p1,p2] x 0∧L 998=roT [p0,p1,p2] x (csT [p0,p1,p2] (trZ [p0,p1,p2]) x 2) 0∧L 996=pwT [p0,p1,p2] x 1∧L 995=trK [p0,p1,p2] (trZ [p0,p1,p2]) x 1∧L 993=frT [p0,p1,p2] (-1) 1∧L 992=(csT [p0,p1,p2] (trZ [p0,p1,p2]) x 2).getD 0 dN∧L 990=tmT [p0,p1,p2] (roT [p0,p1,p2] x (csT [p0,p1,p2] (trZ [p0,p1,p2]) x 2) 0) x∧L 989=roT [p0,p1,p2] x (csT [p0,p1,p2] (trZ [p0,p1,p2]) x 2) 1∧L 987=pwT [p0,p1,p2] x 2∧L 986=trK [p0,p1,p2] (trZ [p0,p1,p2]) x 2∧L 984=tmT [p0,p1,p2] ((csT [p0,p1,p2] (trZ [p0,p1,p2]) x 1).getD 0 dN) (trK [p0,p1,p2] (trZ [p0,p1,p2]) x 1)∧L 983=inT [p0,p1,p2] (trZ [p0,p1,p2]) x (csT [p0,p1,p2] (trZ [p0,p1,p2]) x 1) 1 1∧L 981=frT [p0,p1,p2] (-1) 2∧L 980=(csT [p0,p1,p2] (trZ [p0,p1,p2]) x 2).getD 1 dN:=by
  rw [hL];unfold run2;simp only [Nat.reduceSub,List.getD_cons_succ,List.getD_cons_zero,and_self]
 obtain ⟨e999,e998,e996,e995,e993,e992,e990,e989,e987,e986,e984,e983,e981,e980⟩:=E
 have v999:=V9.to e999 (r.pw 0 rfl)
 have v998:=V9.to e998 (r.rs 0 rfl)
 have v996:=V9.to e996 (r.pw 1 rfl)
 have v995:=V9.to e995 (r.tr 1 rfl)
 have v993:=V9.to e993 (r.fr 0 rfl)
 have v992:=V9.to e992 (r.co 0 rfl)
 have v990:=V9.to e990 (r.rx 0 rfl)
 have v989:=V9.to e989 (r.rs 1 rfl)
 have v987:=V9.to e987 (r.pw 2 rfl)
 have v986:=V9.to e986 (r.tr 2 rfl)
 have v984:=V9.to e984 (r.pr 1 0 rfl rfl)
 have v983:=V9.to e983 (r.su 1 1 rfl rfl)
 have v981:=V9.to e981 (r.fr 1 rfl)
 have v980:=V9.to e980 (r.co 1 rfl)
 have g:=chb_0 p0 p1 p2 (trZ [p0,p1,p2]) x L (by unfold cZ;omega) (zaM hP (by decide) (by rw [e999]<;>rfl)) (zaM hP (by decide) (by rw [e998]<;>rfl)) (DZ hP v999 r.x9 (by rw [e999,e996]<;>rfl)) (zdY hP v996 (by rw [e996,e995]<;>rfl)) (by simp) (by unfold cZ;omega) (zaM hP (by decide) (by rw [e993]<;>rfl)) (DZ hP v995 v993 (by rw [e995,e993,e992]<;>rfl)) (by simp) (DZ hP v998 r.x9 (by rw [e998,e990]<;>rfl)) (zbf v990 v992 (by rw [e990,e992,e989]<;>rfl)) (DZ hP v996 r.x9 (by rw [e996,e987]<;>rfl)) (zdY hP v987 (by rw [e987,e986]<;>rfl)) (by simp) (DZ hP v992 v995 (by rw [e992,e995,e984]<;>rfl)) (zbf v986 v984 (by rw [e986,e984,e983]<;>rfl)) (by unfold cZ;omega) (zaM hP (by decide) (by rw [e981]<;>rfl)) (DZ hP v983 v981 (by rw [e983,e981,e980]<;>rfl)) (by simp) (by simp)
 have c:csT [p0,p1,p2] (trZ [p0,p1,p2]) x 2=[L 992,L 980]:=by rw [e992,e980]<;>rfl
 rw [c,← show L 989=roT [p0,p1,p2] x [L 992,L 980] 1 by rw [← c];exact e989]
 exact g
def run3 (p t:List Int) (x:N5) (i:Nat):N5:=([pwT p x 0,roT p x (csT p t x 3) 0,dN,pwT p x 1,trK p t x 1,dN,frT p (-1) 1,(csT p t x 3).getD 0 dN,dN,tmT p (roT p x (csT p t x 3) 0) x,roT p x (csT p t x 3) 1,dN,pwT p x 2,trK p t x 2,dN,tmT p ((csT p t x 1).getD 0 dN) (trK p t x 1),inT p t x (csT p t x 1) 1 1,dN,frT p (-1) 2,(csT p t x 3).getD 1 dN,dN,tmT p (roT p x (csT p t x 3) 1) x,roT p x (csT p t x 3) 2,dN,pwT p x 3,trK p t x 3,dN,tmT p ((csT p t x 2).getD 0 dN) (trK p t x 2),inT p t x (csT p t x 2) 2 1,dN,tmT p ((csT p t x 2).getD 1 dN) (trK p t x 1),inT p t x (csT p t x 2) 2 2,dN,frT p (-1) 3,(csT p t x 3).getD 2 dN]:List N5).getD (999-i) dN
theorem char_c (p0 p1 p2 p3:Int) (x:N5) (hP:za7 [p0,p1,p2,p3]) (r:Run9 [p0,p1,p2,p3] 3 x):FC tP 78 [reT (.lst .whole [p0,p1,p2,p3]) (.lst .whole (trZ [p0,p1,p2,p3])),nuK.val x] (.tup [.lst nuK (csT [p0,p1,p2,p3] (trZ [p0,p1,p2,p3]) x 3),nuK.val (roT [p0,p1,p2,p3] x (csT [p0,p1,p2,p3] (trZ [p0,p1,p2,p3]) x 3) 2)]):=by
 obtain ⟨L,hL⟩:∃L,L=run3 [p0,p1,p2,p3] (trZ [p0,p1,p2,p3]) x:=⟨_,rfl⟩
 have E:L 999=pwT [p0,p1,p2,p3] x 0∧L 998=roT [p0,p1,p2,p3] x (csT [p0,p1,p2,p3] (trZ [p0,p1,p2,p3]) x 3) 0∧L 996=pwT [p0,p1,p2,p3] x 1∧L 995=trK [p0,p1,p2,p3] (trZ [p0,p1,p2,p3]) x 1∧L 993=frT [p0,p1,p2,p3] (-1) 1∧L 992=(csT [p0,p1,p2,p3] (trZ [p0,p1,p2,p3]) x 3).getD 0 dN∧L 990=tmT [p0,p1,p2,p3] (roT [p0,p1,p2,p3] x (csT [p0,p1,p2,p3] (trZ [p0,p1,p2,p3]) x 3) 0) x∧L 989=roT [p0,p1,p2,p3] x (csT [p0,p1,p2,p3] (trZ [p0,p1,p2,p3]) x 3) 1∧L 987=pwT [p0,p1,p2,p3] x 2∧L 986=trK [p0,p1,p2,p3] (trZ [p0,p1,p2,p3]) x 2∧L 984=tmT [p0,p1,p2,p3] ((csT [p0,p1,p2,p3] (trZ [p0,p1,p2,p3]) x 1).getD 0 dN) (trK [p0,p1,p2,p3] (trZ [p0,p1,p2,p3]) x 1)∧L 983=inT [p0,p1,p2,p3] (trZ [p0,p1,p2,p3]) x (csT [p0,p1,p2,p3] (trZ [p0,p1,p2,p3]) x 1) 1 1∧L 981=frT [p0,p1,p2,p3] (-1) 2∧L 980=(csT [p0,p1,p2,p3] (trZ [p0,p1,p2,p3]) x 3).getD 1 dN∧L 978=tmT [p0,p1,p2,p3] (roT [p0,p1,p2,p3] x (csT [p0,p1,p2,p3] (trZ [p0,p1,p2,p3]) x 3) 1) x∧L 977=roT [p0,p1,p2,p3] x (csT [p0,p1,p2,p3] (trZ [p0,p1,p2,p3]) x 3) 2∧L 975=pwT [p0,p1,p2,p3] x 3∧L 974=trK [p0,p1,p2,p3] (trZ [p0,p1,p2,p3]) x 3∧L 972=tmT [p0,p1,p2,p3] ((csT [p0,p1,p2,p3] (trZ [p0,p1,p2,p3]) x 2).getD 0 dN) (trK [p0,p1,p2,p3] (trZ [p0,p1,p2,p3]) x 2)∧L 971=inT [p0,p1,p2,p3] (trZ [p0,p1,p2,p3]) x (csT [p0,p1,p2,p3] (trZ [p0,p1,p2,p3]) x 2) 2 1∧L 969=tmT [p0,p1,p2,p3] ((csT [p0,p1,p2,p3] (trZ [p0,p1,p2,p3]) x 2).getD 1 dN) (trK [p0,p1,p2,p3] (trZ [p0,p1,p2,p3]) x 1)∧L 968=inT [p0,p1,p2,p3] (trZ [p0,p1,p2,p3]) x (csT [p0,p1,p2,p3] (trZ [p0,p1,p2,p3]) x 2) 2 2∧L 966=frT [p0,p1,p2,p3] (-1) 3∧L 965=(csT [p0,p1,p2,p3] (trZ [p0,p1,p2,p3]) x 3).getD 2 dN:=by
  rw [hL];unfold run3;simp only [Nat.reduceSub,List.getD_cons_succ,List.getD_cons_zero,and_self]
 obtain ⟨e999,e998,e996,e995,e993,e992,e990,e989,e987,e986,e984,e983,e981,e980,e978,e977,e975,e974,e972,e971,e969,e968,e966,e965⟩:=E
 have v999:=V9.to e999 (r.pw 0 rfl)
 have v998:=V9.to e998 (r.rs 0 rfl)
 have v996:=V9.to e996 (r.pw 1 rfl)
 have v995:=V9.to e995 (r.tr 1 rfl)
 have v993:=V9.to e993 (r.fr 0 rfl)
 have v992:=V9.to e992 (r.co 0 rfl)
 have v990:=V9.to e990 (r.rx 0 rfl)
 have v989:=V9.to e989 (r.rs 1 rfl)
 have v987:=V9.to e987 (r.pw 2 rfl)
 have v986:=V9.to e986 (r.tr 2 rfl)
 have v984:=V9.to e984 (r.pr 1 0 rfl rfl)
 have v983:=V9.to e983 (r.su 1 1 rfl rfl)
 have v981:=V9.to e981 (r.fr 1 rfl)
 have v980:=V9.to e980 (r.co 1 rfl)
 have v978:=V9.to e978 (r.rx 1 rfl)
 have v977:=V9.to e977 (r.rs 2 rfl)
 have v975:=V9.to e975 (r.pw 3 rfl)
 have v974:=V9.to e974 (r.tr 3 rfl)
 have v972:=V9.to e972 (r.pr 2 0 rfl rfl)
 have v971:=V9.to e971 (r.su 2 1 rfl rfl)
 have v969:=V9.to e969 (r.pr 2 1 rfl rfl)
 have v968:=V9.to e968 (r.su 2 2 rfl rfl)
 have v966:=V9.to e966 (r.fr 2 rfl)
 have v965:=V9.to e965 (r.co 2 rfl)
 have g:=chc_0 p0 p1 p2 p3 (trZ [p0,p1,p2,p3]) x L (by unfold cZ;omega) (zaM hP (by decide) (by rw [e999]<;>rfl)) (zaM hP (by decide) (by rw [e998]<;>rfl)) (DZ hP v999 r.x9 (by rw [e999,e996]<;>rfl)) (zdY hP v996 (by rw [e996,e995]<;>rfl)) (by simp) (by unfold cZ;omega) (zaM hP (by decide) (by rw [e993]<;>rfl)) (DZ hP v995 v993 (by rw [e995,e993,e992]<;>rfl)) (by simp) (DZ hP v998 r.x9 (by rw [e998,e990]<;>rfl)) (zbf v990 v992 (by rw [e990,e992,e989]<;>rfl)) (DZ hP v996 r.x9 (by rw [e996,e987]<;>rfl)) (zdY hP v987 (by rw [e987,e986]<;>rfl)) (by simp) (DZ hP v992 v995 (by rw [e992,e995,e984]<;>rfl)) (zbf v986 v984 (by rw [e986,e984,e983]<;>rfl)) (by unfold cZ;omega) (zaM hP (by decide) (by rw [e981]<;>rfl)) (DZ hP v983 v981 (by rw [e983,e981,e980]<;>rfl)) (by simp) (DZ hP v989 r.x9 (by rw [e989,e978]<;>rfl)) (zbf v978 v980 (by rw [e978,e980,e977]<;>rfl)) (DZ hP v987 r.x9 (by rw [e987,e975]<;>rfl)) (zdY hP v975 (by rw [e975,e974]<;>rfl)) (by simp) (DZ hP v992 v986 (by rw [e992,e986,e972]<;>rfl)) (zbf v974 v972 (by rw [e974,e972,e971]<;>rfl)) (DZ hP v980 v995 (by rw [e980,e995,e969]<;>rfl)) (zbf v971 v969 (by rw [e971,e969,e968]<;>rfl)) (by unfold cZ;omega) (zaM hP (by decide) (by rw [e966]<;>rfl)) (DZ hP v968 v966 (by rw [e968,e966,e965]<;>rfl)) (by simp) (by simp)
 have c:csT [p0,p1,p2,p3] (trZ [p0,p1,p2,p3]) x 3=[L 992,L 980,L 965]:=by rw [e992,e980,e965]<;>rfl
 rw [c,← show L 977=roT [p0,p1,p2,p3] x [L 992,L 980,L 965] 2 by rw [← c];exact e977]
 exact g
def run4 (p t:List Int) (x:N5) (i:Nat):N5:=([pwT p x 0,roT p x (csT p t x 4) 0,dN,pwT p x 1,trK p t x 1,dN,frT p (-1) 1,(csT p t x 4).getD 0 dN,dN,tmT p (roT p x (csT p t x 4) 0) x,roT p x (csT p t x 4) 1,dN,pwT p x 2,trK p t x 2,dN,tmT p ((csT p t x 1).getD 0 dN) (trK p t x 1),inT p t x (csT p t x 1) 1 1,dN,frT p (-1) 2,(csT p t x 4).getD 1 dN,dN,tmT p (roT p x (csT p t x 4) 1) x,roT p x (csT p t x 4) 2,dN,pwT p x 3,trK p t x 3,dN,tmT p ((csT p t x 2).getD 0 dN) (trK p t x 2),inT p t x (csT p t x 2) 2 1,dN,tmT p ((csT p t x 2).getD 1 dN) (trK p t x 1),inT p t x (csT p t x 2) 2 2,dN,frT p (-1) 3,(csT p t x 4).getD 2 dN,dN,tmT p (roT p x (csT p t x 4) 2) x,roT p x (csT p t x 4) 3,dN,pwT p x 4,trK p t x 4,dN,tmT p ((csT p t x 3).getD 0 dN) (trK p t x 3),inT p t x (csT p t x 3) 3 1,dN,tmT p ((csT p t x 3).getD 1 dN) (trK p t x 2),inT p t x (csT p t x 3) 3 2,dN,tmT p ((csT p t x 3).getD 2 dN) (trK p t x 1),inT p t x (csT p t x 3) 3 3,dN,frT p (-1) 4,(csT p t x 4).getD 3 dN]:List N5).getD (999-i) dN
theorem char_d (p0 p1 p2 p3 p4:Int) (x:N5) (hP:za7 [p0,p1,p2,p3,p4]) (r:Run9 [p0,p1,p2,p3,p4] 4 x):FC tP 78 [reT (.lst .whole [p0,p1,p2,p3,p4]) (.lst .whole (trZ [p0,p1,p2,p3,p4])),nuK.val x] (.tup [.lst nuK (csT [p0,p1,p2,p3,p4] (trZ [p0,p1,p2,p3,p4]) x 4),nuK.val (roT [p0,p1,p2,p3,p4] x (csT [p0,p1,p2,p3,p4] (trZ [p0,p1,p2,p3,p4]) x 4) 3)]):=by
 obtain ⟨L,hL⟩:∃L,L=run4 [p0,p1,p2,p3,p4] (trZ [p0,p1,p2,p3,p4]) x:=⟨_,rfl⟩
 have E:L 999=pwT [p0,p1,p2,p3,p4] x 0∧L 998=roT [p0,p1,p2,p3,p4] x (csT [p0,p1,p2,p3,p4] (trZ [p0,p1,p2,p3,p4]) x 4) 0∧L 996=pwT [p0,p1,p2,p3,p4] x 1∧L 995=trK [p0,p1,p2,p3,p4] (trZ [p0,p1,p2,p3,p4]) x 1∧L 993=frT [p0,p1,p2,p3,p4] (-1) 1∧L 992=(csT [p0,p1,p2,p3,p4] (trZ [p0,p1,p2,p3,p4]) x 4).getD 0 dN∧L 990=tmT [p0,p1,p2,p3,p4] (roT [p0,p1,p2,p3,p4] x (csT [p0,p1,p2,p3,p4] (trZ [p0,p1,p2,p3,p4]) x 4) 0) x∧L 989=roT [p0,p1,p2,p3,p4] x (csT [p0,p1,p2,p3,p4] (trZ [p0,p1,p2,p3,p4]) x 4) 1∧L 987=pwT [p0,p1,p2,p3,p4] x 2∧L 986=trK [p0,p1,p2,p3,p4] (trZ [p0,p1,p2,p3,p4]) x 2∧L 984=tmT [p0,p1,p2,p3,p4] ((csT [p0,p1,p2,p3,p4] (trZ [p0,p1,p2,p3,p4]) x 1).getD 0 dN) (trK [p0,p1,p2,p3,p4] (trZ [p0,p1,p2,p3,p4]) x 1)∧L 983=inT [p0,p1,p2,p3,p4] (trZ [p0,p1,p2,p3,p4]) x (csT [p0,p1,p2,p3,p4] (trZ [p0,p1,p2,p3,p4]) x 1) 1 1∧L 981=frT [p0,p1,p2,p3,p4] (-1) 2∧L 980=(csT [p0,p1,p2,p3,p4] (trZ [p0,p1,p2,p3,p4]) x 4).getD 1 dN∧L 978=tmT [p0,p1,p2,p3,p4] (roT [p0,p1,p2,p3,p4] x (csT [p0,p1,p2,p3,p4] (trZ [p0,p1,p2,p3,p4]) x 4) 1) x∧L 977=roT [p0,p1,p2,p3,p4] x (csT [p0,p1,p2,p3,p4] (trZ [p0,p1,p2,p3,p4]) x 4) 2∧L 975=pwT [p0,p1,p2,p3,p4] x 3∧L 974=trK [p0,p1,p2,p3,p4] (trZ [p0,p1,p2,p3,p4]) x 3∧L 972=tmT [p0,p1,p2,p3,p4] ((csT [p0,p1,p2,p3,p4] (trZ [p0,p1,p2,p3,p4]) x 2).getD 0 dN) (trK [p0,p1,p2,p3,p4] (trZ [p0,p1,p2,p3,p4]) x 2)∧L 971=inT [p0,p1,p2,p3,p4] (trZ [p0,p1,p2,p3,p4]) x (csT [p0,p1,p2,p3,p4] (trZ [p0,p1,p2,p3,p4]) x 2) 2 1∧L 969=tmT [p0,p1,p2,p3,p4] ((csT [p0,p1,p2,p3,p4] (trZ [p0,p1,p2,p3,p4]) x 2).getD 1 dN) (trK [p0,p1,p2,p3,p4] (trZ [p0,p1,p2,p3,p4]) x 1)∧L 968=inT [p0,p1,p2,p3,p4] (trZ [p0,p1,p2,p3,p4]) x (csT [p0,p1,p2,p3,p4] (trZ [p0,p1,p2,p3,p4]) x 2) 2 2∧L 966=frT [p0,p1,p2,p3,p4] (-1) 3∧L 965=(csT [p0,p1,p2,p3,p4] (trZ [p0,p1,p2,p3,p4]) x 4).getD 2 dN∧L 963=tmT [p0,p1,p2,p3,p4] (roT [p0,p1,p2,p3,p4] x (csT [p0,p1,p2,p3,p4] (trZ [p0,p1,p2,p3,p4]) x 4) 2) x∧L 962=roT [p0,p1,p2,p3,p4] x (csT [p0,p1,p2,p3,p4] (trZ [p0,p1,p2,p3,p4]) x 4) 3∧L 960=pwT [p0,p1,p2,p3,p4] x 4∧L 959=trK [p0,p1,p2,p3,p4] (trZ [p0,p1,p2,p3,p4]) x 4∧L 957=tmT [p0,p1,p2,p3,p4] ((csT [p0,p1,p2,p3,p4] (trZ [p0,p1,p2,p3,p4]) x 3).getD 0 dN) (trK [p0,p1,p2,p3,p4] (trZ [p0,p1,p2,p3,p4]) x 3)∧L 956=inT [p0,p1,p2,p3,p4] (trZ [p0,p1,p2,p3,p4]) x (csT [p0,p1,p2,p3,p4] (trZ [p0,p1,p2,p3,p4]) x 3) 3 1∧L 954=tmT [p0,p1,p2,p3,p4] ((csT [p0,p1,p2,p3,p4] (trZ [p0,p1,p2,p3,p4]) x 3).getD 1 dN) (trK [p0,p1,p2,p3,p4] (trZ [p0,p1,p2,p3,p4]) x 2)∧L 953=inT [p0,p1,p2,p3,p4] (trZ [p0,p1,p2,p3,p4]) x (csT [p0,p1,p2,p3,p4] (trZ [p0,p1,p2,p3,p4]) x 3) 3 2∧L 951=tmT [p0,p1,p2,p3,p4] ((csT [p0,p1,p2,p3,p4] (trZ [p0,p1,p2,p3,p4]) x 3).getD 2 dN) (trK [p0,p1,p2,p3,p4] (trZ [p0,p1,p2,p3,p4]) x 1)∧L 950=inT [p0,p1,p2,p3,p4] (trZ [p0,p1,p2,p3,p4]) x (csT [p0,p1,p2,p3,p4] (trZ [p0,p1,p2,p3,p4]) x 3) 3 3∧L 948=frT [p0,p1,p2,p3,p4] (-1) 4∧L 947=(csT [p0,p1,p2,p3,p4] (trZ [p0,p1,p2,p3,p4]) x 4).getD 3 dN:=by
  rw [hL];unfold run4;simp only [Nat.reduceSub,List.getD_cons_succ,List.getD_cons_zero,and_self]
 obtain ⟨e999,e998,e996,e995,e993,e992,e990,e989,e987,e986,e984,e983,e981,e980,e978,e977,e975,e974,e972,e971,e969,e968,e966,e965,e963,e962,e960,e959,e957,e956,e954,e953,e951,e950,e948,e947⟩:=E
 have v999:=V9.to e999 (r.pw 0 rfl)
 have v998:=V9.to e998 (r.rs 0 rfl)
 have v996:=V9.to e996 (r.pw 1 rfl)
 have v995:=V9.to e995 (r.tr 1 rfl)
 have v993:=V9.to e993 (r.fr 0 rfl)
 have v992:=V9.to e992 (r.co 0 rfl)
 have v990:=V9.to e990 (r.rx 0 rfl)
 have v989:=V9.to e989 (r.rs 1 rfl)
 have v987:=V9.to e987 (r.pw 2 rfl)
 have v986:=V9.to e986 (r.tr 2 rfl)
 have v984:=V9.to e984 (r.pr 1 0 rfl rfl)
 have v983:=V9.to e983 (r.su 1 1 rfl rfl)
 have v981:=V9.to e981 (r.fr 1 rfl)
 have v980:=V9.to e980 (r.co 1 rfl)
 have v978:=V9.to e978 (r.rx 1 rfl)
 have v977:=V9.to e977 (r.rs 2 rfl)
 have v975:=V9.to e975 (r.pw 3 rfl)
 have v974:=V9.to e974 (r.tr 3 rfl)
 have v972:=V9.to e972 (r.pr 2 0 rfl rfl)
 have v971:=V9.to e971 (r.su 2 1 rfl rfl)
 have v969:=V9.to e969 (r.pr 2 1 rfl rfl)
 have v968:=V9.to e968 (r.su 2 2 rfl rfl)
 have v966:=V9.to e966 (r.fr 2 rfl)
 have v965:=V9.to e965 (r.co 2 rfl)
 have v963:=V9.to e963 (r.rx 2 rfl)
 have v962:=V9.to e962 (r.rs 3 rfl)
 have v960:=V9.to e960 (r.pw 4 rfl)
 have v959:=V9.to e959 (r.tr 4 rfl)
 have v957:=V9.to e957 (r.pr 3 0 rfl rfl)
 have v956:=V9.to e956 (r.su 3 1 rfl rfl)
 have v954:=V9.to e954 (r.pr 3 1 rfl rfl)
 have v953:=V9.to e953 (r.su 3 2 rfl rfl)
 have v951:=V9.to e951 (r.pr 3 2 rfl rfl)
 have v950:=V9.to e950 (r.su 3 3 rfl rfl)
 have v948:=V9.to e948 (r.fr 3 rfl)
 have v947:=V9.to e947 (r.co 3 rfl)
 have g:=chd_0 p0 p1 p2 p3 p4 (trZ [p0,p1,p2,p3,p4]) x L (by unfold cZ;omega) (zaM hP (by decide) (by rw [e999]<;>rfl)) (zaM hP (by decide) (by rw [e998]<;>rfl)) (DZ hP v999 r.x9 (by rw [e999,e996]<;>rfl)) (zdY hP v996 (by rw [e996,e995]<;>rfl)) (by simp) (by unfold cZ;omega) (zaM hP (by decide) (by rw [e993]<;>rfl)) (DZ hP v995 v993 (by rw [e995,e993,e992]<;>rfl)) (by simp) (DZ hP v998 r.x9 (by rw [e998,e990]<;>rfl)) (zbf v990 v992 (by rw [e990,e992,e989]<;>rfl)) (DZ hP v996 r.x9 (by rw [e996,e987]<;>rfl)) (zdY hP v987 (by rw [e987,e986]<;>rfl)) (by simp) (DZ hP v992 v995 (by rw [e992,e995,e984]<;>rfl)) (zbf v986 v984 (by rw [e986,e984,e983]<;>rfl)) (by unfold cZ;omega) (zaM hP (by decide) (by rw [e981]<;>rfl)) (DZ hP v983 v981 (by rw [e983,e981,e980]<;>rfl)) (by simp) (DZ hP v989 r.x9 (by rw [e989,e978]<;>rfl)) (zbf v978 v980 (by rw [e978,e980,e977]<;>rfl)) (DZ hP v987 r.x9 (by rw [e987,e975]<;>rfl)) (zdY hP v975 (by rw [e975,e974]<;>rfl)) (by simp) (DZ hP v992 v986 (by rw [e992,e986,e972]<;>rfl)) (zbf v974 v972 (by rw [e974,e972,e971]<;>rfl)) (DZ hP v980 v995 (by rw [e980,e995,e969]<;>rfl)) (zbf v971 v969 (by rw [e971,e969,e968]<;>rfl)) (by unfold cZ;omega) (zaM hP (by decide) (by rw [e966]<;>rfl)) (DZ hP v968 v966 (by rw [e968,e966,e965]<;>rfl)) (by simp) (DZ hP v977 r.x9 (by rw [e977,e963]<;>rfl)) (zbf v963 v965 (by rw [e963,e965,e962]<;>rfl)) (DZ hP v975 r.x9 (by rw [e975,e960]<;>rfl)) (zdY hP v960 (by rw [e960,e959]<;>rfl)) (by simp) (DZ hP v992 v974 (by rw [e992,e974,e957]<;>rfl)) (zbf v959 v957 (by rw [e959,e957,e956]<;>rfl)) (DZ hP v980 v986 (by rw [e980,e986,e954]<;>rfl)) (zbf v956 v954 (by rw [e956,e954,e953]<;>rfl)) (DZ hP v965 v995 (by rw [e965,e995,e951]<;>rfl)) (zbf v953 v951 (by rw [e953,e951,e950]<;>rfl)) (by unfold cZ;omega) (zaM hP (by decide) (by rw [e948]<;>rfl)) (DZ hP v950 v948 (by rw [e950,e948,e947]<;>rfl)) (by simp) (by simp)
 have c:csT [p0,p1,p2,p3,p4] (trZ [p0,p1,p2,p3,p4]) x 4=[L 992,L 980,L 965,L 947]:=by rw [e992,e980,e965,e947]<;>rfl
 rw [c,← show L 962=roT [p0,p1,p2,p3,p4] x [L 992,L 980,L 965,L 947] 3 by rw [← c];exact e962]
 exact g
theorem char_fc {p:List Int} (hP:za7 p) {m:Nat} {x:N5} {f:V} (hx:Vz p m x f) (hm:m≤100):FC tP 78 [reT (.lst .whole p) (.lst .whole (trZ p)),nuK.val x] (.tup [.lst nuK (csT p (trZ p) x (p.length-1)),nuK.val (roT p x (csT p (trZ p) x (p.length-1)) (p.length-2))]):=by
 have r:=run9 hP hx hm (n:=p.length-1) (by have:=hP.2.1;omega)
 have h2:=hP.1
 have h5:=hP.2.1
 match p,h2,h5 with
 | [p0,p1],_,_=>exact char_a p0 p1 x hP r
 | [p0,p1,p2],_,_=>exact char_b p0 p1 p2 x hP r
 | [p0,p1,p2,p3],_,_=>exact char_c p0 p1 p2 p3 x hP r
 | [p0,p1,p2,p3,p4],_,_=>exact char_d p0 p1 p2 p3 p4 x hP r
open Go.Kf
noncomputable section
theorem nz_0 (a b c e d:Int) (h1:a.sign≠0):FC tP 77 [nuA a b c e d] (aF):=dZ znX 60 [3] (.c (bne_iff_ne.2 h1)<|.o<|.e) (ux [1007,1])
theorem nz_1 (a b c e d:Int) (h1:a.sign=0) (h2:b.sign≠0):FC tP 77 [nuA a b c e d] (aF):=dZ znX 60 [2,3] (.c (bne_eq_false_iff_eq.2 h1)<|.c (bne_iff_ne.2 h2)<|.o<|.e) (ux [1007,1,1005,2])
theorem nz_2 (a b c e d:Int) (h1:a.sign=0) (h2:b.sign=0) (h3:c.sign≠0):FC tP 77 [nuA a b c e d] (aF):=dZ znX 60 [2,2,3] (.c (bne_eq_false_iff_eq.2 h1)<|.c (bne_eq_false_iff_eq.2 h2)<|.c (bne_iff_ne.2 h3)<|.o<|.e) (ux [1007,1,1005,2,1005,3])
theorem nz_3 (a b c e d:Int) (h1:a.sign=0) (h2:b.sign=0) (h3:c.sign=0) (h4:e.sign≠0):FC tP 77 [nuA a b c e d] (aF):=dZ znX 60 [2,2,2,3] (.c (bne_eq_false_iff_eq.2 h1)<|.c (bne_eq_false_iff_eq.2 h2)<|.c (bne_eq_false_iff_eq.2 h3)<|.c (bne_iff_ne.2 h4)<|.o<|.e) (ux [1007,1,1005,2,1005,3,1005,4])
theorem nz_4 (a b c e d:Int) (h1:a.sign=0) (h2:b.sign=0) (h3:c.sign=0) (h4:e.sign=0):FC tP 77 [nuA a b c e d] (aT):=dZ znX 60 [2,2,2,2] (.c (bne_eq_false_iff_eq.2 h1)<|.c (bne_eq_false_iff_eq.2 h2)<|.c (bne_eq_false_iff_eq.2 h3)<|.c (bne_eq_false_iff_eq.2 h4)<|.o<|.e) (ux [1007,1,1005,2,1005,3,1005,4,0])
end
open Go.Kf
theorem zero_fc (a b c e d:Int):FC tP 77 [nuA a b c e d] (.lit (.bool (decide (WZ [a,b,c,e]=[])))):=by
 have s0:∀ {z:Int},Int.sign z=0↔z=0:=Int.sign_eq_zero_iff_zero
 by_cases h0:a=0
 ·by_cases h1:b=0
  ·by_cases h2:c=0
   ·by_cases h3:e=0
    ·have:WZ [a,b,c,e]=[]:=by rw [h0,h1,h2,h3];rfl
     rw [decide_eq_true this]
     exact nz_4 a b c e d (s0.2 h0) (s0.2 h1) (s0.2 h2) (s0.2 h3)
    ·rw [decide_eq_false (by simp [WZ,h3])]
     exact nz_3 a b c e d (s0.2 h0) (s0.2 h1) (s0.2 h2) (fun k=>h3 (s0.1 k))
   ·rw [decide_eq_false (by by_cases h3:e=0<;>simp [WZ,h2,h3])]
    exact nz_2 a b c e d (s0.2 h0) (s0.2 h1) (fun k=>h2 (s0.1 k))
  ·rw [decide_eq_false (by by_cases h3:e=0<;>by_cases h2:c=0<;>simp [WZ,h1,h2,h3])]
   exact nz_1 a b c e d (s0.2 h0) (fun k=>h1 (s0.1 k))
 ·rw [decide_eq_false (by by_cases h3:e=0<;>by_cases h2:c=0<;>by_cases h1:b=0<;>simp [WZ,h0,h1,h2,h3])]
  exact nz_0 a b c e d (fun k=>h0 (s0.1 k))
end Go.Proofs.YtagbldogmjhdpaaGreatDoor
end
section
open Go Go.Ev Go.RowKit
namespace Go.Proofs.YtagbldogmjhdpaaGreatDoor
open Go.Proofs
set_option maxRecDepth 100000
set_option maxHeartbeats 1000000
set_option linter.unusedVariables false
set_option linter.unusedSimpArgs false
abbrev kdV2:List (TypeId × EK):=[(22,.sl (.int .i64)),(27,numK)]
def ctrB0:Ctr:=(133,cLL pDM1 (fun x y=>.tup [.ni (vl x / vl y),.ni (vl x % vl y),lI 0])) :: ctrF8
theorem zkL:∀p∈ctrB0,jZ tP p.1 p.2:=CAll.cons (zbu rdm1_fc) zkV
theorem zmT:(eZ tP ctrB0 bw [] kdV2).OK:=vZ zaC mixed zkL zaA
noncomputable section
theorem rbl_0 (x:zad) (h1:pX x.snd) (h2:(vl x.snd).sign=0) (h3:1≤1):FC tP 87 [numK.val x] (.sq [1]):=dZ zmT 60 [1] (.c h1<|.c (beq_iff_eq.2 h2)<|.c h3<|.e) [1,2,3]
theorem rbl_1 (x:zad) (h1:pX x.snd) (h2:(vl x.snd).sign≠0) (h3:pNm x.snd):FC tP 87 [numK.val x] (.ni (vl x.snd)):=dZ zmT 60 [0] (.c h1<|.c (beq_false_of_ne h2)<|.c h3<|.e) [1,2,3]
theorem rcf_0 (c:List (List Int)) (i:Int) (h1:i<(c.length:Int)) (h2:0≤i):FC tP 91 [.lst (.sl (.int .i64)) c,lI i] (.sq (c.getD i.toNat [])):=dZ zmT 60 [1] (.t h1<|.t h2<|.e) [1,2,1]
theorem rcf_1 (c:List (List Int)) (i:Int) (h1:¬(i<(c.length:Int))):FC tP 91 [.lst (.sl (.int .i64)) c,lI i] (aN):=dZ zmT 60 [0] (.f h1<|.e) [1]
abbrev zgf (s:St) (r:Ex × St):Prop:=Loops 1 tP (kZ tP 85 0) s r
abbrev zaW (a:List (List Int)) (b:List Int) (c d e:Int):St:=⟨sp 71 [(0,.lst KI a),(1,.sq b),(4,.ref 0 0),(5,.ni c),(6,aI d),(7,aI e)],[.flat [aN,aN] true],[]⟩
abbrev zcb (a:List (List Int)) (b:List Int) (c d e:Int):St:=⟨sp 71 [(0,.lst KI a),(1,.sq b),(4,.ref 0 0),(5,.ni c),(6,aI d),(7,aI e)],[.flat [aN,aN] true],[]⟩
theorem zqg (a:List (List Int)) (b:List Int) (d f g:Int) (h1:g<(a.length:Int)) (h2:0≤g) (h3:pDM (aZ d) (a.getD g.toNat [])) (h4:pX (a.getD g.toNat [])) (h5:(vl (a.getD g.toNat [])).sign≠0) (h6:r64 (g+1)):LG zgf (zaW a b d f g) (zaW a b ((↑(Int.gcd (vl (aZ d)) (vl (a.getD g.toNat []))):Int)) (g+1) (g+1)):=Loops.go (LS.at zmT 60 [] [0,1,4,5,6,7] [] [1,1] (.t h1<|.t h2<|.c h3<|.c h4<|.c (bne_iff_ne.2 h5)<|.i h6<|.e) [1,2,1,3,2,1,4,5,6,6])
theorem zqh (a:List (List Int)) (b:List Int) (d f g:Int) (h1:g<(a.length:Int)) (h2:0≤g) (h3:pDM (aZ d) (a.getD g.toNat [])) (h4:pX (a.getD g.toNat [])) (h5:(vl (a.getD g.toNat [])).sign=0) (h6:r64 (g+1)):LG zgf (zaW a b d f g) (zaW a b ((↑(Int.gcd (vl (aZ d)) (vl (a.getD g.toNat []))):Int)) f (g+1)):=Loops.go (LS.at zmT 60 [] [0,1,4,5,6,7] [] [1,0] (.t h1<|.t h2<|.c h3<|.c h4<|.c (bne_eq_false_iff_eq.2 h5)<|.i h6<|.e) [1,2,1,3,2,1,4,5,6])
theorem zqi (a:List (List Int)) (b:List Int) (c d g:Int) (h1:¬(g<(a.length:Int))):zgf (zaW a b c d g) (Ex.exit 0,(zcb a b c d g)):=LF (LS.at zmT 60 [] [0,1,4,5,6,7] [] [0] (.f h1<|.e) [1])
abbrev zdd (s:St) (r:Ex × St):Prop:=Loops 2 tP (kZ tP 85 1) s r
abbrev zbS (a:List (List Int)) (b:List Int) (c d:Int):St:=⟨sp 71 [(0,.lst KI a),(1,.sq b),(4,.ref 0 0),(5,.ni c),(6,aI d),(8,.ref 1 0),(9,aI 0)],[.flat [aN,aN] true,.flat [aN,aN] true],[1]⟩
abbrev zeW (a:List (List Int)) (b:List Int) (c d e:Int) (f:Nat) (g:List (List Int)):St:=⟨sp 71 [(0,.lst KI a),(1,.sq b),(4,.ref 0 0),(5,.ni c),(6,aI d),(8,.ref 1 0),(9,aI e)],[.flat [aN,aN] true,.flat [.own 2 0 f 1,aN] true,.lst KI g true],[1]⟩
abbrev zeX (a:List (List Int)) (b:List Int) (c d:Int):St:=⟨sp 71 [(0,.lst KI a),(1,.sq b),(4,.ref 0 0),(5,.ni c),(6,aI d),(8,.ref 1 0),(9,aI 0)],[.flat [aN,aN] true,.flat [aN,aN] true],[1]⟩
abbrev zbD (a:List (List Int)) (b:List Int) (c d e:Int) (f:Nat) (g:List (List Int)):St:=⟨sp 71 [(0,.lst KI a),(1,.sq b),(4,.ref 0 0),(5,.ni c),(6,aI d),(8,.ref 1 0),(9,aI e)],[.flat [aN,aN] true,.flat [.own 2 0 f 1,aN] true,.lst KI g true],[1]⟩
theorem zqj (a:List (List Int)) (b:List Int) (d f:Int) (h1:0<f) (h2:0<(a.length:Int)) (h3:pDM1 (a.getD 0 []) (aZ d)) (h4:1≤List.length [aZ (vl (a.getD 0 []) / vl (aZ d))]) (h5:0<(List.take 1 [aZ (vl (a.getD 0 []) / vl (aZ d))]).length) (h6:(List.take 1 [aZ (vl (a.getD 0 []) / vl (aZ d))]).length*24≤140737488355328) (h7:(List.take 1 [aZ (vl (a.getD 0 []) / vl (aZ d))]).length≤4611686018427387904):LG zdd (zbS a b d f) (zeW a b d f (1) (1) ([aZ (vl (a.getD 0 []) / vl (aZ d))])):=Loops.go (LS.at zmT 60 [3] [0,1,4,5,6,8,9] [1] [1] (.t h1<|.t h2<|.c h3<|.c h4<|.t h5<|.t h6<|.t h7<|.e) [1,0,2,3,4,5,6,7,0])
theorem zqk (a:List (List Int)) (b:List Int) (c d:Int) (h1:¬(0<d)):zdd (zbS a b c d) (Ex.exit 2,(zeX a b c d)):=LF (LS.at zmT 60 [] [0,1,4,5,6,8,9] [1] [0] (.f h1<|.e) [1])
theorem zql (a:List (List Int)) (b:List Int) (d f g:Int) (j:Nat) (l:List (List Int)) (h1:g<f) (h2:0≤g) (h3:g<(a.length:Int)) (h4:pDM1 (a.getD g.toNat []) (aZ d)) (h5:1≤List.length [aZ (vl (a.getD g.toNat []) / vl (aZ d))]) (h6:(j+(List.take 1 [aZ (vl (a.getD g.toNat []) / vl (aZ d))]).length)*24≤140737488355328) (h7:j+(List.take 1 [aZ (vl (a.getD g.toNat []) / vl (aZ d))]).length≤4611686018427387904) (h8:j≤l.length) (h9:r64 (g+1)):LG zdd (zeW a b d f g j l) (zeW a b d f (g+1) (j+(List.take 1 [aZ (vl (a.getD g.toNat []) / vl (aZ d))]).length) (l.take j++List.take 1 [aZ (vl (a.getD g.toNat []) / vl (aZ d))])):=Loops.go (LS.at zmT 60 [4] [0,1,4,5,6,8,9] [1] [1] (.t h1<|.t h2<|.t h3<|.c h4<|.c h5<|.t h6<|.t h7<|.t h8<|.i h9<|.e) [1,2,3,4,5,6,7,8,9])
theorem zqm (a:List (List Int)) (b:List Int) (c d g:Int) (i:Nat) (j:List (List Int)) (h1:¬(g<d)):zdd (zeW a b c d g i j) (Ex.exit 2,(zbD a b c d g i j)):=LF (LS.at zmT 60 [2] [0,1,4,5,6,8,9] [1] [0] (.f h1<|.e) [1])
theorem rlw_0 (c:List (List Int)) (d:List Int) (a b f:Int) (h1:pDM d []) (hL1:zgf (zaW c d ((↑(Int.gcd (vl d) 0):Int)) (0) (0)) (Ex.exit 0,(zcb c d a b f))) (h3:pX d) (h4:(vl d).sign<0) (h5:pX (aZ a)) (hL2:zdd (zbS c d (-vl (aZ a)) b) (Ex.exit 2,(zeX c d (-vl (aZ a)) b))) (h7:pDM1 d (aZ (-vl (aZ a)))):FC tP 85 [.lst (.sl (.int .i64)) c,.sq d] (.agg [aN,.ni (vl d / vl (aZ (-vl (aZ a))))]):=dZ zmT 60 [1] (.c h1<|.v [0,1,4,5,6,7] [] hL1<|.c h3<|.t h4<|.c h5<|.v [0,1,4,5,6,8,9] [1] hL2<|.c h7<|.e) [1,0,2,3,4,5,0,6,7]
theorem rlw_1 (c:List (List Int)) (d:List Int) (a b f g:Int) (i:Nat) (j:List (List Int)) (h1:pDM d []) (hL1:zgf (zaW c d ((↑(Int.gcd (vl d) 0):Int)) (0) (0)) (Ex.exit 0,(zcb c d a b f))) (h3:pX d) (h4:(vl d).sign<0) (h5:pX (aZ a)) (hL2:zdd (zbS c d (-vl (aZ a)) b) (Ex.exit 2,(zbD c d (-vl (aZ a)) b g i j))) (h7:pDM1 d (aZ (-vl (aZ a)))) (h8:i≤j.length):FC tP 85 [.lst (.sl (.int .i64)) c,.sq d] (.agg [.lst KI (j.take i),.ni (vl d / vl (aZ (-vl (aZ a))))]):=dZ zmT 60 [1] (.c h1<|.v [0,1,4,5,6,7] [] hL1<|.c h3<|.t h4<|.c h5<|.v [0,1,4,5,6,8,9] [1] hL2<|.c h7<|.c h8<|.e) [1,0,2,3,4,5,0,6,7,8]
theorem rlw_2 (c:List (List Int)) (d:List Int) (a b g:Int) (h1:pDM d []) (hL1:zgf (zaW c d ((↑(Int.gcd (vl d) 0):Int)) (0) (0)) (Ex.exit 0,(zcb c d a b g))) (h3:pX d) (h4:¬((vl d).sign<0)) (hL2:zdd (zbS c d a b) (Ex.exit 2,(zeX c d a b))) (h6:pDM1 d (aZ a)):FC tP 85 [.lst (.sl (.int .i64)) c,.sq d] (.agg [aN,.ni (vl d / vl (aZ a))]):=dZ zmT 60 [0] (.c h1<|.v [0,1,4,5,6,7] [] hL1<|.c h3<|.f h4<|.v [0,1,4,5,6,8,9] [1] hL2<|.c h6<|.e) [1,0,2,3,4,0,5,6]
theorem rlw_3 (c:List (List Int)) (d:List Int) (a b g i:Int) (j:Nat) (l:List (List Int)) (h1:pDM d []) (hL1:zgf (zaW c d ((↑(Int.gcd (vl d) 0):Int)) (0) (0)) (Ex.exit 0,(zcb c d a b g))) (h3:pX d) (h4:¬((vl d).sign<0)) (hL2:zdd (zbS c d a b) (Ex.exit 2,(zbD c d a b i j l))) (h6:pDM1 d (aZ a)) (h7:j≤l.length):FC tP 85 [.lst (.sl (.int .i64)) c,.sq d] (.agg [.lst KI (l.take j),.ni (vl d / vl (aZ a))]):=dZ zmT 60 [0] (.c h1<|.v [0,1,4,5,6,7] [] hL1<|.c h3<|.f h4<|.v [0,1,4,5,6,8,9] [1] hL2<|.c h6<|.c h7<|.e) [1,0,2,3,4,0,5,6,7]
end
open Go.Kf
def pC (c:List (List Int)):Prop:=c.length≤100∧∀l∈c,pQ 20000 l
def xZ (d:List Int):Int:=if vl d=0 then 1 else vl d
theorem below_fc (x:zad) (h:pQ 20000 x.2):FC tP 87 [numK.val x] (.ni (xZ x.2)):=by
 have hx:pX x.2:=h.mono (by decide)
 unfold xZ
 by_cases hz:vl x.2=0
 ·rw [if_pos hz]
  exact(rbl_0 x hx (by rw [hz];rfl) (Nat.le_refl _)).res fun E v hv=>hv.toNi (l:=[1]) rfl rfl
 ·rw [if_neg hz]
  exact rbl_1 x hx (fun h0=>hz (Int.sign_eq_zero_iff_zero.1 h0)) (h.mono (by decide))
theorem coef_fc (c:List (List Int)) (i:Int) (h:0≤i):FC tP 91 [.lst (.sl (.int .i64)) c,lI i] (.sq (c.getD i.toNat [])):=by
 by_cases hi:i<(c.length:Int)
 ·exact rcf_0 c i hi h
 ·have e:c.getD i.toNat []=[]:=by rw [List.getD_eq_getElem?_getD,List.getElem?_eq_none (by omega)];rfl
  rw [e]
  exact(rcf_1 c i hi).res fun E v hv=>hv.toSq (l:=[]) rfl
def gcF (g:Int):List (List Int)→Int
 | []=>g
 | l :: r=>gcF (Int.gcd g (vl l):Int) r
def lsF (n i:Nat):List (List Int)→Nat
 | []=>n
 | l :: r=>lsF (if vl l=0 then n else i+1) (i+1) r
theorem gcF_ok {k:Nat}:∀ {c:List (List Int)} {g:Int},g≠0→Sz k g→gcF g c≠0∧Sz k (gcF g c)
 | [],_,h,s=>⟨h,s⟩
 | l :: c,g,h,s=>gcF_ok (c:=c) (zi3 h) (zru s h)
theorem lsF_le:∀(c:List (List Int)) (n i:Nat),n≤i→lsF n i c≤i+c.length
 | [],n,i,h=>h
 | l :: c,n,i,h=>by
  have:=lsF_le c (if vl l=0 then n else i+1) (i+1) (by split<;>omega)
  simp only [lsF,List.length_cons]
  omega
theorem lw_l0 {c:List (List Int)} {d:List Int} (hc:pC c):∀(suf pre:List (List Int)) (g:Int) (n:Nat),c=pre++suf→g≠0→Sz 20003 g →
 zgf (zaW c d g n pre.length) (Ex.exit 0,zcb c d (gcF g suf) (lsF n pre.length suf) c.length)
 | [],pre,g,n,he,_,_=>by
  have:c.length=pre.length:=by rw [he];simp
  rw [this]
  exact zqi c d g n pre.length (by omega)
 | l :: suf,pre,g,n,he,h0,hs=>by
  have hlen:pre.length<c.length:=by rw [he];simp
  have hl:=hc.1
  have hg:c.getD (Int.toNat (pre.length:Int)) []=l:=by rw [Int.toNat_natCast,he,List.getD_eq_getElem?_getD];simp
  have hx:pQ 20000 l:=hc.2 l (by rw [he];simp)
  have ih:=lw_l0 (d:=d) hc suf (pre++[l]) (Int.gcd g (vl l):Int) (if vl l=0 then n else pre.length+1) (by rw [he];simp) (zi3 h0) (zru hs h0)
  rw [show(pre++[l]).length=pre.length+1 by simp] at ih
  have pd:pDM (aZ g) l:=⟨fZ hs (by decide),hx.mono (by decide)⟩
  have px:pX l:=hx.mono (by decide)
  by_cases hz:vl l=0
  ·rw [show lsF n pre.length (l :: suf)=lsF n (pre.length+1) suf by simp [lsF,hz]]
   rw [if_pos hz] at ih
   refine zqh c d g n pre.length (by omega) (by omega) (by rw [hg];exact pd) (by rw [hg];exact px) (by rw [hg,hz];rfl) (by unfold r64;omega) ?_
   rw [hg,bZ]
   exact ih
  ·rw [show lsF n pre.length (l :: suf)=lsF (pre.length+1) (pre.length+1) suf by simp [lsF,hz]]
   rw [if_neg hz] at ih
   refine zqg c d g n pre.length (by omega) (by omega) (by rw [hg];exact pd) (by rw [hg];exact px) (by rw [hg];exact fun h=>hz (Int.sign_eq_zero_iff_zero.1 h)) (by unfold r64;omega) ?_
   rw [hg,bZ]
   exact ih
def qsR (g:Int) (c:List (List Int)) (i:Nat):List (List Int):=(c.take i).map fun l=>aZ (vl l / g)
theorem zhC {g:Int} {c:List (List Int)} {i:Nat} (h:i≤c.length):(qsR g c i).length=i:=by simp [qsR];omega
theorem zn8 {g:Int} {c:List (List Int)} {i:Nat} (h:i<c.length):qsR g c (i+1)=(qsR g c i).take i++List.take 1 [aZ (vl (c.getD i []) / g)]:=by
 rw [List.take_of_length_le (by rw [zhC (by omega)];exact Nat.le_refl _)]
 unfold qsR
 rw [List.take_succ_eq_append_getElem h,List.getD_eq_getElem?_getD,List.getElem?_eq_getElem h,List.map_append]
 rfl
theorem pC_get {c:List (List Int)} (hc:pC c) {i:Nat} (h:i<c.length):pQ 20000 (c.getD i []):=by
 rw [List.getD_eq_getElem?_getD,List.getElem?_eq_getElem h];exact hc.2 _ (List.getElem_mem h)
theorem pdm1 {l:List Int} {g:Int} (hl:pQ 20000 l) (h0:g≠0) (hs:Sz 20003 g):pDM1 l (aZ g):=⟨⟨hl.mono (by decide),fZ hs (by decide)⟩,by rw [bZ];exact h0⟩
theorem lw_l1 {c:List (List Int)} {d:List Int} (hc:pC c) {g:Int} (h0:g≠0) (hs:Sz 20003 g) {n:Nat} (hn:n≤c.length):∀(m i:Nat),i+m=n →
 zdd (zeW c d g n i i (qsR g c i)) (Ex.exit 2,zbD c d g n n n (qsR g c n))
 | 0,i,hi=>by
  obtain rfl:i=n:=by omega
  exact zqm c d g i i i _ (by omega)
 | m+1,i,hi=>by
  have hl:=hc.1
  have e1:Int.toNat (i:Int)=i:=rfl
  have ih:=lw_l1 (d:=d) hc h0 hs hn m (i+1) (by omega)
  rw [zn8 (by omega),← bZ g] at ih
  rw [bZ g] at ih
  have go:=@zql c d g n i i (qsR g c i) (by omega) (by omega) (by omega) (by rw [e1];exact pdm1 (pC_get hc (by omega)) h0 hs) (Nat.le_refl 1) (show(i+1)*24≤_ by omega) (show i+1≤_ by omega) (by rw [zhC (by omega)];exact Nat.le_refl _) (by unfold r64;omega) (Ex.exit 2,zbD c d g n n n (qsR g c n))
  rw [e1,bZ] at go
  exact go ih
def zel (c:List (List Int)) (d:List Int):zad:=
 let g:=(vl d).sign*gcF ((vl d).natAbs:Int) c
 (qsR g c (lsF 0 0 c),aZ (vl d / g))
theorem zpb (c:List (List Int)) (d:List Int) (hc:pC c) (hd:pQ 20000 d) (h0:vl d≠0):FC tP 85 [.lst (.sl (.int .i64)) c,.sq d] (numK.val (zel c d)):=by
 have e0:(Int.gcd (vl d) 0:Int)=((vl d).natAbs:Int):=by simp
 have s0:Sz 20003 ((vl d).natAbs:Int):=Sz.abs hd.sz
 have n0:((vl d).natAbs:Int)≠0:=by omega
 have L0:=lw_l0 (d:=d) hc c [] ((vl d).natAbs:Int) 0 rfl n0 s0
 have ⟨g0,gs⟩:=gcF_ok (c:=c) n0 s0
 have hls:=lsF_le c 0 0 (Nat.le_refl 0)
 have pd0:pDM d []:=⟨hd.mono (by decide),⟨by simp,fun d hd=>by cases hd⟩⟩
 have px:pX d:=hd.mono (by decide)
 generalize hg:gcF ((vl d).natAbs:Int) c=g at *
 generalize hn:lsF 0 0 c=n at *
 have main:∀(z:Int),z≠0→Sz 20003 z→(n=0→zdd (zbS c d z n) (Ex.exit 2,zeX c d z n))∧(n≠0→zdd (zbS c d z n) (Ex.exit 2,zbD c d z n n n (qsR z c n))):=by
  intro z hz sz
  refine ⟨fun h=>?_,fun h=>?_⟩
  ·subst h;exact zqk c d z 0 (by omega)
  ·have hl:=hc.1
   have L1:=lw_l1 (d:=d) hc hz sz (n:=n) (by omega) (n-1) 1 (by omega)
   have e:qsR z c 1=[aZ (vl (c.getD 0 []) / z)]:=by rw [zn8 (i:=0) (by omega)];rfl
   rw [e] at L1
   have go:=@zqj c d z n (by omega) (by omega) (pdm1 (pC_get hc (by omega)) hz sz) (Nat.le_refl 1) (by decide:(0:Nat)<1) (by decide:(1:Nat)*24≤_) (by decide:(1:Nat)≤_) (Ex.exit 2,zbD c d z n n n (qsR z c n))
   rw [bZ] at go
   exact go L1
 have tk:∀z,(qsR z c n).take n=qsR z c n:=fun z=>List.take_of_length_le (by rw [zhC (by omega)];exact Nat.le_refl _)
 have q0:∀z,n=0→qsR z c n=[]:=fun z h=>by subst h;rfl
 by_cases hneg:vl d<0
 ·have sg:(vl d).sign = -1:=Int.sign_eq_neg_one_of_neg hneg
  have hz:-g≠0:=by omega
  have ⟨m1,m2⟩:=main (-g) hz gs.neg
  have e:zel c d=(qsR (-g) c n,aZ (vl d / -g)):=by simp only [zel,hg,hn,sg];rw [show(-1:Int)*g = -g by omega]
  rw [e]
  by_cases h:n=0
  ·have:=rlw_0 c d g n c.length pd0 (by rw [e0];exact L0) px (by rw [sg];decide) (fZ gs (by decide)) (by rw [bZ];exact m1 h) (by rw [bZ];exact pdm1 hd hz gs.neg)
   rw [bZ,bZ] at this
   rw [q0 _ h]
   exact this.le (LeL.refl _) (Le.agg (.cons (zeg _) (.cons (Le.ni_sq _) .nil)))
  ·have:=rlw_1 c d g n c.length n n (qsR (-g) c n) pd0 (by rw [e0];exact L0) px (by rw [sg];decide) (fZ gs (by decide)) (by rw [bZ];exact m2 h) (by rw [bZ];exact pdm1 hd hz gs.neg) (by rw [zhC (by omega)];exact Nat.le_refl _)
   rw [bZ,bZ,tk] at this
   exact this.le (LeL.refl _) (Le.agg (.cons (Le.refl _) (.cons (Le.ni_sq _) .nil)))
 ·have sg:(vl d).sign=1:=Int.sign_eq_one_of_pos (by omega)
  have ⟨m1,m2⟩:=main g g0 gs
  have e:zel c d=(qsR g c n,aZ (vl d / g)):=by simp only [zel,hg,hn,sg];rw [Int.one_mul]
  rw [e]
  by_cases h:n=0
  ·have:=rlw_2 c d g n c.length pd0 (by rw [e0];exact L0) px (by rw [sg];decide) (m1 h) (pdm1 hd g0 gs)
   rw [bZ] at this
   rw [q0 _ h]
   exact this.le (LeL.refl _) (Le.agg (.cons (zeg _) (.cons (Le.ni_sq _) .nil)))
  ·have:=rlw_3 c d g n c.length n n (qsR g c n) pd0 (by rw [e0];exact L0) px (by rw [sg];decide) (m2 h) (pdm1 hd g0 gs) (by rw [zhC (by omega)];exact Nat.le_refl _)
   rw [bZ,tk] at this
   exact this.le (LeL.refl _) (Le.agg (.cons (Le.refl _) (.cons (Le.ni_sq _) .nil)))
open Go.Kf
def pLw (c:List (List Int)) (d:List Int):Prop:=pC c∧pQ 20000 d∧vl d≠0
def ctrB1:Ctr:=(87,cD1 numK (fun x=>pQ 20000 x.2) (fun x=>.ni (xZ x.2))) :: (91,cD2 (.sl (.sl (.int .i64))) (.int .i64) (fun _ i=>0≤i) (fun c i=>.sq (c.getD i.toNat []))) ::
 (85,cD2 (.sl (.sl (.int .i64))) (.sl (.int .i64)) pLw (fun c d=>.agg [.lst (.sl (.int .i64)) (zel c d).1,.sq (zel c d).2])) :: ctrB0
theorem zkM:∀p∈ctrB1,jZ tP p.1 p.2:=CAll.cons (zer below_fc)<|CAll.cons (zb5 fun c i h=>coef_fc c i h)<|CAll.cons (zb5 fun c d h=>zpb c d h.1 h.2.1 h.2.2) zkL
theorem okB1:(eZ tP ctrB1 bw [] kdV2).OK:=vZ zaC mixed zkM zaA
noncomputable section
abbrev zhW (s:St) (r:Ex × St):Prop:=Loops 4 tP (kZ tP 86 0) s r
abbrev zgI (a:Int) (b:Nat) (c:List Int) (d e f:Int) (g:List (List Int)):St:=⟨sp 66 [(2,.ref 0 0),(5,aI a),(6,.own 3 0 b 1)],[.flat [.sq c,aI d,aI e,aI f] true,.flat [.sq c,aI d,aI e,aI f] true,.dead,.lst KI g true],[3,2]⟩
abbrev ze8 (a:Int) (b:Nat) (c:List Int) (d e f:Int) (g:List (List Int)) (i:Nat) (j:List (List Int)):St:=⟨sp 66 [(2,.ref 0 0),(5,aI a),(6,.own 4 0 i 1)],[.flat [.sq c,aI d,aI e,aI f] true,.flat [.sq c,aI d,aI e,aI f] true,.dead,.dead,.lst KI j true],[3,2]⟩
abbrev zlP (a:Int) (b:Nat) (c:List Int) (d e f:Int) (g:List (List Int)):St:=⟨sp 66 [(2,.ref 0 0),(5,aI a),(6,.own 3 0 b 1)],[.flat [.sq c,aI d,aI e,aI f] true,.flat [.sq c,aI d,aI e,aI f] true,.dead,.lst KI g true],[3,2]⟩
abbrev zhX (a:Int) (b:Nat) (c:List Int) (d e f:Int) (g:List (List Int)) (i:Nat) (j:List (List Int)):St:=⟨sp 66 [(2,.ref 0 0),(5,aI a),(6,.own 4 0 i 1)],[.flat [.sq c,aI d,aI e,aI f] true,.flat [.sq c,aI d,aI e,aI f] true,.dead,.dead,.lst KI j true],[3,2]⟩
theorem zqC (a:Int) (b:Nat) (d:List Int) (f g i:Int) (j:List (List Int)) (h1:(b:Int)<a) (h2:1≤1) (h3:(b+1)*24≤140737488355328) (h4:b+1≤4611686018427387904) (h5:b≤j.length):LG zhW (zgI a b d f g i j) (ze8 a b d f g i j (b+1) (j.take b++List.take 1 [[]])):=Loops.go (LS.at okB1 60 [5] [2,5,6] [3,2] [1] (.t h1<|.c h2<|.t h3<|.t h4<|.t h5<|.e) [1,2,3,4,5])
theorem zqD (a:Int) (b:Nat) (c:List Int) (d g i:Int) (j:List (List Int)) (h1:¬((b:Int)<a)):zhW (zgI a b c d g i j) (Ex.exit 0,(zlP a b c d g i j)):=LF (LS.at okB1 60 [] [2,5,6] [3,2] [0] (.f h1<|.e) [1])
theorem zqE (a:Int) (b:Nat) (d:List Int) (f g i:Int) (j:List (List Int)) (l:Nat) (m:List (List Int)) (h1:(l:Int)<a) (h2:1≤1) (h3:(l+1)*24≤140737488355328) (h4:l+1≤4611686018427387904) (h5:l≤m.length):LG zhW (ze8 a b d f g i j l m) (ze8 a b d f g i j (l+1) (m.take l++List.take 1 [[]])):=Loops.go (LS.at okB1 60 [6] [2,5,6] [3,2] [1] (.t h1<|.c h2<|.t h3<|.t h4<|.t h5<|.e) [1,2,3,4,5])
theorem zqF (a:Int) (b:Nat) (c:List Int) (d g i:Int) (j:List (List Int)) (l:Nat) (m:List (List Int)) (h1:¬((l:Int)<a)):zhW (ze8 a b c d g i j l m) (Ex.exit 0,(zhX a b c d g i j l m)):=LF (LS.at okB1 60 [4] [2,5,6] [3,2] [0] (.f h1<|.e) [1])
abbrev zoj (s:St) (r:Ex × St):Prop:=Loops 4 tP (kZ tP 86 1) s r
abbrev zfb (a:Int) (b:List Int) (c d e:Int) (f:Nat) (g:List (List Int)):St:=⟨sp 66 [(2,.ref 0 0),(5,aI a),(6,.own 3 0 f 1)],[.flat [.sq b,aI c,aI d,aI e] true,.flat [.sq b,aI c,aI d,aI e] true,.dead,.lst KI g true],[3,2]⟩
abbrev zhY (a:Int) (b:List Int) (c d e:Int) (f:Nat) (g:List (List Int)):St:=⟨sp 66 [(2,.ref 0 0),(5,aI a),(6,.own 3 0 f 1)],[.flat [.sq b,aI c,aI d,aI e] true,.flat [.sq b,aI c,aI d,aI e] true,.dead,.lst KI g true],[3,2]⟩
abbrev zoi (s:St) (r:Ex × St):Prop:=Loops 4 tP (kZ tP 86 2) s r
abbrev ze9 (a:Int) (b:Nat) (c d:List Int) (e f g i:Int) (j:List (List Int)):St:=⟨sp 66 [(2,.ref 0 0),(5,aI a),(6,.own 3 0 b 1),(7,.sq c),(8,aI i)],[.flat [.sq d,aI e,aI f,aI g] true,.flat [.sq d,aI e,aI f,aI g] true,.dead,.lst KI j true],[3,2]⟩
abbrev zfa (a:Int) (b:Nat) (c d:List Int) (e f g i:Int) (j:List (List Int)):St:=⟨sp 66 [(2,.ref 0 0),(5,aI a),(6,.own 3 0 b 1),(7,.sq c),(8,aI i)],[.flat [.sq d,aI e,aI f,aI g] true,.flat [.sq d,aI e,aI f,aI g] true,.dead,.lst KI j true],[3,2]⟩
theorem zqG (a:Int) (b:Nat) (d f:List Int) (g j l m:Int) (n:List (List Int)) (h1:m<a) (h2:r64 ((b:Int)-a)) (h3:r64 ((b:Int)-a+m)) (h4:0≤(b:Int)-a+m) (h5:(b:Int)-a+m<(b:Int)) (h6:0≤m) (h7:m<(f.length:Int)) (h8:m.toNat<f.length) (h9:((b:Int)-a+m).toNat<n.length) (h10:1≤List.length [f.getD m.toNat 0]) (h11:pMu d (List.take 1 [f.getD m.toNat 0])) (h12:pSu (n.getD ((b:Int)-a+m).toNat []) (aZ (vl d*vl (List.take 1 [f.getD m.toNat 0])))) (h13:r64 (m+1)):LG zoi (ze9 a b d f g j l m n) (ze9 a b d f g j l (m+1) (n.set ((b:Int)-a+m).toNat (aZ (vl (n.getD ((b:Int)-a+m).toNat [])-vl (aZ (vl d*vl (List.take 1 [f.getD m.toNat 0]))))))):=Loops.go (LS.at okB1 60 [] [2,5,6,7,8] [3,2] [1] (.t h1<|.i h2<|.i h3<|.t h4<|.t h5<|.t h6<|.t h7<|.t h8<|.t h9<|.c h10<|.c h11<|.c h12<|.i h13<|.e) [1,2,3,4,5,6,7,8,9,10,11,12,4,5,9,9,10,11,12,4,5,9,10,11,9,12,4,5,9,0,0,13])
theorem zqH (a:Int) (b:Nat) (c d:List Int) (g i j l:Int) (m:List (List Int)) (h1:¬(l<a)):zoi (ze9 a b c d g i j l m) (Ex.exit 4,(zfa a b c d g i j l m)):=LF (LS.at okB1 60 [] [2,5,6,7,8] [3,2] [0] (.f h1<|.e) [1])
theorem zqI (a:Int) (b:List Int) (c d f:Int) (g:Nat) (j:List (List Int)) (l:Int) (m:List (List Int)) (h1:(g:Int) > a) (h2:r64 ((g:Int)-1)) (h3:0≤(g:Int)-1) (h4:(g:Int)-1<(g:Int)) (h5:((g:Int)-1).toNat<j.length) (h6:(g:Int)-1≤(g:Int)) (hL1:zoi (ze9 a ((g:Int)-1).toNat (j.getD ((g:Int)-1).toNat []) b c d f (0) j) (Ex.exit 4,(zfa a ((g:Int)-1).toNat (j.getD ((g:Int)-1).toNat []) b c d f l m))):LG zoj (zfb a b c d f g j) (zfb a b c d f ((g:Int)-1).toNat m):=Loops.go (LS.at okB1 60 [] [2,5,6] [3,2] [1] (.t h1<|.i h2<|.t h3<|.t h4<|.t h5<|.t h6<|.v [2,5,6,7,8] [3,2] hL1<|.e) [1,2,3,4,5,2,3,6,0,7])
theorem zqJ (a:Int) (b:List Int) (c d g:Int) (i:Nat) (j:List (List Int)) (h1:¬((i:Int) > a)):zoj (zfb a b c d g i j) (Ex.exit 2,(zhY a b c d g i j)):=LF (LS.at okB1 60 [] [2,5,6] [3,2] [0] (.f h1<|.e) [1])
theorem rrd_0 (p:List Int) (a b d:Int) (c:List (List Int)) (f:Nat) (g:List (List Int)) (h1:r64 ((p.length:Int)-1)) (h2:(0+c.length)*24≤140737488355328) (h3:0+c.length≤4611686018427387904) (hL1:zhW (zgI ((p.length:Int)-1) (0+c.length) p a b d (List.take 0 []++c)) (Ex.exit 0,(zlP ((p.length:Int)-1) (0+c.length) p a b d (List.take 0 []++c)))) (hL2:zoj (zfb ((p.length:Int)-1) p a b d (0+c.length) (List.take 0 []++c)) (Ex.exit 2,(zhY ((p.length:Int)-1) p a b d f g))) (h6:f≤g.length):FC tP 86 [.agg [.sq p,lI a,lI b,lI d],.lst (.sl (.int .i64)) c] (.lst KI (g.take f)):=dZ okB1 60 [] (.i h1<|.t h2<|.t h3<|.v [2,5,6] [3,2] hL1<|.v [2,5,6] [3,2] hL2<|.c h6<|.e) [1,2,3,0,0,4,0,5,6]
abbrev rrd_L4 (s:St) (r:Ex × St):Prop:=Loops 5 tP (kZ tP 86 1) s r
abbrev zok (a:Int) (b:List Int) (c d e:Int) (f:Nat) (g:List (List Int)):St:=⟨sp 66 [(2,.ref 0 0),(5,aI a),(6,.own 4 0 f 1)],[.flat [.sq b,aI c,aI d,aI e] true,.flat [.sq b,aI c,aI d,aI e] true,.dead,.dead,.lst KI g true],[3,2,4]⟩
abbrev zlQ (a:Int) (b:List Int) (c d e:Int) (f:Nat) (g:List (List Int)):St:=⟨sp 66 [(2,.ref 0 0),(5,aI a),(6,.own 4 0 f 1)],[.flat [.sq b,aI c,aI d,aI e] true,.flat [.sq b,aI c,aI d,aI e] true,.dead,.dead,.lst KI g true],[3,2,4]⟩
theorem zqK (a:Int) (b:List Int) (c d g:Int) (i:Nat) (j:List (List Int)) (h1:¬((i:Int) > a)):rrd_L4 (zok a b c d g i j) (Ex.exit 2,(zlQ a b c d g i j)):=LF (LS.at okB1 60 [] [2,5,6] [3,2,4] [0] (.f h1<|.e) [1])
theorem rrd_1 (p:List Int) (a b d:Int) (c:List (List Int)) (f:Nat) (g:List (List Int)) (j:Nat) (l:List (List Int)) (h1:r64 ((p.length:Int)-1)) (h2:(0+c.length)*24≤140737488355328) (h3:0+c.length≤4611686018427387904) (hL1:zhW (zgI ((p.length:Int)-1) (0+c.length) p a b d (List.take 0 []++c)) (Ex.exit 0,(zhX ((p.length:Int)-1) (0+c.length) p a b d (List.take 0 []++c) f g))) (hL2:rrd_L4 (zok ((p.length:Int)-1) p a b d f g) (Ex.exit 2,(zlQ ((p.length:Int)-1) p a b d j l))) (h6:j≤l.length):FC tP 86 [.agg [.sq p,lI a,lI b,lI d],.lst (.sl (.int .i64)) c] (.lst KI (l.take j)):=dZ okB1 60 [] (.i h1<|.t h2<|.t h3<|.v [2,5,6] [3,2] hL1<|.v [2,5,6] [3,2,4] hL2<|.c h6<|.e) [1,2,3,0,0,4,0,5,6]
end
open Go.Kf
theorem vl_one (x:Int):vl (List.take 1 [x])=x:=Int.add_zero x
theorem zm0 {N:Nat} {lr:List (List Int)} (h:∀l∈lr,pQ N l) (i:Nat):pQ N (lr.getD i []):=by
 rw [List.getD_eq_getElem?_getD]
 by_cases hi:i<lr.length
 ·rw [List.getElem?_eq_getElem hi];exact h _ (List.getElem_mem hi)
 ·rw [List.getElem?_eq_none (by omega)];exact ⟨by simp,fun d hd=>by cases hd⟩
theorem gSetNe {l:List (List Int)} {i j:Nat} {x:List Int} (h:j≠i):(l.set i x).getD j []=l.getD j []:=by
 rw [List.getD_eq_getElem?_getD,List.getElem?_set_ne (Ne.symm h),← List.getD_eq_getElem?_getD]
def inG (p:List Int) (n m:Nat) (top:Int) (out:List (List Int)):Nat→List (List Int)
 | 0=>out
 | k+1=>(inG p n m top out k).set (m-n+k) (aZ (vl ((inG p n m top out k).getD (m-n+k) [])-top*p.getD k 0))
theorem zec (p:List Int) (n m:Nat) (top:Int) (out:List (List Int)):∀k,(inG p n m top out k).length=out.length
 | 0=>rfl
 | k+1=>by simp [inG,zec p n m top out k]
theorem zmH (p:List Int) (n m:Nat) (top:Int) (out:List (List Int)):∀k j,m-n+k≤j→(inG p n m top out k).getD j []=out.getD j []
 | 0,_,_=>rfl
 | k+1,j,h=>by unfold inG;rw [gSetNe (by omega),zmH p n m top out k j (by omega)]
theorem in_sz {N:Nat} {l:List Int} {top x:Int} (hl:pQ N l) (ht:Sz (N+3) top) (hx:x.natAbs≤1000) (hN:N≤90000):pQ (N+5) (aZ (vl l-top*x)):=
 fZ (k:=N+5) (by rw [Int.sub_eq_add_neg];exact Sz.add (hl.sz) (ht.mul (Sz.lit (z:=x) (k:=1) (by omega) (by decide))).neg (by omega) (by omega)) (Nat.le_refl _)
theorem inG_q {p:List Int} {n m N:Nat} {top:Int} {out:List (List Int)} (hp:∀x∈p,x.natAbs≤1000) (ho:∀l∈out,pQ N l) (ht:Sz (N+3) top) (hN:N≤90000):∀k,∀l∈inG p n m top out k,pQ (N+5) l
 | 0,l,h=>(ho l h).mono (by omega)
 | k + 1,l,h=>by
  unfold inG at h
  rcases List.mem_or_eq_of_mem_set h with h | rfl
  ·exact inG_q hp ho ht hN k l h
  ·rw [zmH p n m top out k _ (Nat.le_refl _)]
   exact in_sz (zm0 ho _) ht (zeb hp k) hN
theorem rd_l1 {p:List Int} {a b d:Int} {n m N:Nat} {q:List Int} {out:List (List Int)} (hn:p.length=n+1) (hp:∀x∈p,x.natAbs≤1000) (hm:n≤m) (hl:m≤out.length) (h5:out.length≤1000) (h5':n≤100) (ho:∀l∈out,pQ N l) (hq:pQ N q) (hN:N≤90000) :
 ∀(k i:Nat),i+k=n→zoi (ze9 ((p.length:Int)-1) m q p a b d i (inG p n m (vl q) out i)) (Ex.exit 4,zfa ((p.length:Int)-1) m q p a b d n (inG p n m (vl q) out n))
 | 0,i,hi=>by
  obtain rfl:i=n:=by omega
  exact zqH _ m q p a b d i _ (by omega)
 | k + 1,i,hi=>by
  have ih:=rd_l1 (a:=a) (b:=b) (d:=d) hn hp hm hl h5 h5' ho hq hN k (i+1) (by omega)
  have e1:Int.toNat (i:Int)=i:=rfl
  have e2:Int.toNat ((m:Int)-((p.length:Int)-1)+(i:Int))=m-n+i:=by omega
  have hg:=zeb hp i
  have pl:pQ 1 (List.take 1 [p.getD i 0]):=⟨by simp,fun x hx=>by rw [List.mem_singleton.1 hx];unfold cZ;omega⟩
  have go:=@zqG ((p.length:Int)-1) m q p a b d i (inG p n m (vl q) out i) (by omega) (by unfold r64;omega) (by unfold r64;omega) (by omega) (by omega) (by omega) (by omega) (by omega)
   (by rw [e2,zec];omega) (Nat.le_refl 1) (by rw [e1];exact ⟨hq.mono (by omega),pl.mono (by decide)⟩)
   (by rw [e1,e2,vl_one];exact ⟨(by show pQ 390000 ((inG p n m (vl q) out i).getD (m-n+i) []);rw [zmH _ _ _ _ _ _ _ (Nat.le_refl _)];exact(zm0 ho _).mono (by omega)),fZ (hq.sz.mul (Sz.lit (z:=p.getD i 0) (k:=1) (by omega) (by decide))) (by omega)⟩)
   (by unfold r64;omega) (Ex.exit 4,zfa ((p.length:Int)-1) m q p a b d n (inG p n m (vl q) out n))
  rw [e1,e2,vl_one,bZ] at go
  exact go ih
def oG (p:List Int) (n:Nat):Nat→List (List Int)→List (List Int)
 | 0,out=>out
 | s+1,out=>oG p n s (inG p n (n+s) (vl (out.getD (n+s) [])) out n)
theorem oG_len (p:List Int) (n:Nat):∀s out,(oG p n s out).length=out.length
 | 0,_=>rfl
 | s+1,out=>by unfold oG;rw [oG_len p n s,zec]
theorem oG_q {p:List Int} {n:Nat} (hp:∀x∈p,x.natAbs≤1000):∀(s N:Nat) (out:List (List Int)),(∀l∈out,pQ N l)→N+5*s≤90000→∀l∈oG p n s out,pQ (N+5*s) l
 | 0,N,out,ho,_=>ho
 | s+1,N,out,ho,hN=>by
  unfold oG
  have:=oG_q (n:=n) hp s (N+5) _ (inG_q (n:=n) (m:=n+s) (k:=n) hp ho (zm0 ho (n+s)).sz (by omega)) (by omega)
  intro l hl
  exact(this l hl).mono (by omega)
theorem rd_l2 {p:List Int} {a b d:Int} {n:Nat} (hn:p.length=n+1) (hp:∀x∈p,x.natAbs≤1000) (h5':n≤100):∀(s N:Nat) (out:List (List Int)),out.length≤1000→n+s≤out.length→(∀l∈out,pQ N l)→N+5*s≤90000 →
 zoj (zfb ((p.length:Int)-1) p a b d (n+s) out) (Ex.exit 2,zhY ((p.length:Int)-1) p a b d n (oG p n s out))
 | 0,N,out,_,_,_,_=>zqJ _ p a b d n out (by omega)
 | s+1,N,out,h5,hl,ho,hN=>by
  have e1:Int.toNat (((n+(s+1):Nat):Int)-1)=n+s:=by omega
  have hq:=zm0 ho (n+s)
  have L1:=rd_l1 (a:=a) (b:=b) (d:=d) (m:=n+s) (q:=out.getD (n+s) []) (out:=out) hn hp (by omega) (by omega) h5 h5' ho hq (by omega) n 0 (by omega)
  have ih:=rd_l2 (a:=a) (b:=b) (d:=d) hn hp h5' s (N+5) (inG p n (n+s) (vl (out.getD (n+s) [])) out n) (by rw [zec];exact h5) (by rw [zec];omega) (inG_q hp ho hq.sz (by omega) n) (by omega)
  have go:=@zqI ((p.length:Int)-1) p a b d (n+(s+1)) out n (inG p n (n+s) (vl (out.getD (n+s) [])) out n) (by omega) (by unfold r64;omega) (by omega) (by omega) (by omega) (by omega) (by rw [e1];exact L1)
  rw [e1] at go
  exact go ih
def rdR (p:List Int) (c:List (List Int)):List (List Int):=(oG p (p.length-1) (c.length-(p.length-1)) (c++List.replicate (p.length-1-c.length) [])).take (p.length-1)
theorem rd_l0 {p:List Int} {a b d:Int} {n:Nat} {c:List (List Int)} (hn:p.length=n+1) (h5:n≤100):∀(k:Nat) (c':List (List Int)),c'.length+k=n →
 zhW (ze8 ((p.length:Int)-1) (0+c.length) p a b d (List.take 0 []++c) c'.length c') (Ex.exit 0,zhX ((p.length:Int)-1) (0+c.length) p a b d (List.take 0 []++c) n (c'++List.replicate k []))
 | 0,c',h=>by
  rw [← h]
  simp only [Nat.add_zero,List.replicate_zero,List.append_nil]
  exact zqF _ _ p a b d _ _ c' (by omega)
 | k+1,c',h=>by
  have ih:=rd_l0 (a:=a) (b:=b) (d:=d) (c:=c) hn h5 k (c'++[[]]) (by simp;omega)
  rw [List.length_append,List.append_assoc] at ih
  refine zqE _ _ p a b d _ _ c' (by omega) (Nat.le_refl 1) (by omega) (by omega) (Nat.le_refl _) ?_
  rw [List.take_of_length_le (Nat.le_refl _)]
  exact ih
theorem zm1 (p:List Int) (a b d:Int) (c:List (List Int)) (h2:2≤p.length) (h5:p.length≤5) (hp:∀x∈p,x.natAbs≤1000) (hc:pC c) :
 FC tP 86 [.agg [.sq p,lI a,lI b,lI d],.lst (.sl (.int .i64)) c] (.lst (.sl (.int .i64)) (rdR p c)):=by
 obtain ⟨n,hn⟩:∃n,p.length=n+1:=⟨p.length-1,by omega⟩
 have hl:=hc.1
 have e0:0+c.length=c.length:=by omega
 have e1:List.take 0 []++c=c:=rfl
 unfold rdR
 rw [show p.length-1=n by omega]
 by_cases h:n≤c.length
 ·rw [show n-c.length=0 by omega,List.replicate_zero,List.append_nil]
  have L2:=rd_l2 (a:=a) (b:=b) (d:=d) hn hp (by omega) (c.length-n) 20000 c (by omega) (by omega) hc.2 (by omega)
  rw [show n+(c.length-n)=c.length by omega] at L2
  refine rrd_0 p a b d c n (oG p n (c.length-n) c) (by unfold r64;omega) (by omega) (by omega) ?_ ?_ (by rw [oG_len];exact h)
  ·exact zqD _ _ p a b d _ (by omega)
  ·rw [e0];exact L2
 ·rw [show c.length-n=0 by omega]
  have L0:=rd_l0 (a:=a) (b:=b) (d:=d) (c:=c) hn (by omega) (n-c.length-1) (c++[[]]) (by simp;omega)
  have e2:c++[[]]++List.replicate (n-c.length-1) []=c++List.replicate (n-c.length) ([]:List Int):=by
   rw [List.append_assoc]
   congr 1
   rw [show n-c.length=(n-c.length-1)+1 by omega,List.replicate_succ]
   simp
  rw [e2] at L0
  refine rrd_1 p a b d c n (c++List.replicate (n-c.length) []) n (c++List.replicate (n-c.length) []) (by unfold r64;omega) (by omega) (by omega) ?_ (zqK _ p a b d n _ (by omega)) (by simp;omega)
  refine zqC _ _ p a b d _ (by omega) (Nat.le_refl 1) (by omega) (by omega) (by rw [e0];exact Nat.le_refl _) ?_
  rw [e1,e0,List.take_of_length_le (Nat.le_refl _)]
  have e3:(c++[[]]).length=c.length+1:=by simp
  rw [e3,e0,e1] at L0
  exact L0
def pPF (f:fieldK.ty):Prop:=2≤f.1.length∧f.1.length≤5∧∀x∈f.1,x.natAbs≤1000
def ctrB2:Ctr:=(86,cD2 fieldK (.sl (.sl (.int .i64))) (fun f c=>pPF f∧pC c) (fun f c=>.lst (.sl (.int .i64)) (rdR f.1 c))) :: ctrB1
theorem zkN:∀p∈ctrB2,jZ tP p.1 p.2:=CAll.cons (zb5 fun f c h=>zm1 f.1 f.2.1 f.2.2.1 f.2.2.2 c h.1.1 h.1.2.1 h.1.2.2 h.2) zkM
theorem ziD:(eZ tP ctrB2 bw [] kdV2).OK:=vZ zaC mixed zkN zaA
noncomputable section
theorem nNo_0 (f:fieldK.ty) (x:zad) (h1:pPF f∧pC x.fst) (h2:pQ 20000 x.snd) (h3:pLw (rdR f.fst x.fst) (aZ (xZ x.snd))):FC tP 21 [fieldK.val f,numK.val x] (.agg [.lst KI (zel (rdR f.fst x.fst) (aZ (xZ x.snd))).fst,.sq (zel (rdR f.fst x.fst) (aZ (xZ x.snd))).snd]):=dZ ziD 60 [] (.c h1<|.c h2<|.c h3<|.e) [1,2,3]
abbrev zdS (s:St) (r:Ex × St):Prop:=Loops 4 tP (kZ tP 23 0) s r
abbrev zdB (a b:Int) (c:List Int) (d e f:Int) (g:List (List Int)) (i:List Int) (j:List (List Int)) (l:List Int):St:=⟨sp 52 [(3,.ref 0 0),(4,.ref 1 0),(5,.ref 2 0),(6,.ref 3 0),(7,.ni a),(8,.ni b),(9,aN),(10,aI 0)],[.flat [.sq c,aI d,aI e,aI f] true,.flat [.lst KI g,.sq i] true,.flat [.lst KI j,.sq l] true,.flat [aN,aN] true],[]⟩
abbrev zbN (a b:Int) (c:List Int) (d e f:Int) (g:List (List Int)) (i:List Int) (j:List (List Int)) (l:List Int) (m:Nat) (n:Int) (o:List (List Int)):St:=⟨sp 52 [(3,.ref 0 0),(4,.ref 1 0),(5,.ref 2 0),(6,.ref 3 0),(7,.ni a),(8,.ni b),(9,.own 4 0 m 1),(10,aI n)],[.flat [.sq c,aI d,aI e,aI f] true,.flat [.lst KI g,.sq i] true,.flat [.lst KI j,.sq l] true,.flat [aN,aN] true,.lst KI o true],[]⟩
abbrev zlt (a b:Int) (c:List Int) (d e f:Int) (g:List (List Int)) (i:List Int) (j:List (List Int)) (l:List Int):St:=⟨sp 52 [(3,.ref 0 0),(4,.ref 1 0),(5,.ref 2 0),(6,.ref 3 0),(7,.ni a),(8,.ni b),(9,aN),(10,aI 0)],[.flat [.sq c,aI d,aI e,aI f] true,.flat [.lst KI g,.sq i] true,.flat [.lst KI j,.sq l] true,.flat [aN,aN] true],[]⟩
abbrev zeC (a b:Int) (c:List Int) (d e f:Int) (g:List (List Int)) (i:List Int) (j:List (List Int)) (l:List Int) (m:Nat) (n:Int) (o:List (List Int)):St:=⟨sp 52 [(3,.ref 0 0),(4,.ref 1 0),(5,.ref 2 0),(6,.ref 3 0),(7,.ni a),(8,.ni b),(9,.own 4 0 m 1),(10,aI n)],[.flat [.sq c,aI d,aI e,aI f] true,.flat [.lst KI g,.sq i] true,.flat [.lst KI j,.sq l] true,.flat [aN,aN] true,.lst KI o true],[]⟩
theorem zpf (a b:Int) (d:List Int) (f g i:Int) (j:List (List Int)) (l:List Int) (m:List (List Int)) (n:List Int) (h1:0<(j.length:Int)) (h2:(0:Int)≤ 0) (h3:pMu (j.getD 0 []) (aZ b)) (h4:pMu (m.getD 0 []) (aZ a)) (h5:pAd (aZ (vl (j.getD 0 [])*vl (aZ b))) (aZ (vl (m.getD 0 [])*vl (aZ a)))) (h6:1≤List.length [aZ (vl (aZ (vl (j.getD 0 [])*vl (aZ b)))+vl (aZ (vl (m.getD 0 [])*vl (aZ a))))]) (h7:0<(List.take 1 [aZ (vl (aZ (vl (j.getD 0 [])*vl (aZ b)))+vl (aZ (vl (m.getD 0 [])*vl (aZ a))))]).length) (h8:(List.take 1 [aZ (vl (aZ (vl (j.getD 0 [])*vl (aZ b)))+vl (aZ (vl (m.getD 0 [])*vl (aZ a))))]).length*24≤140737488355328) (h9:(List.take 1 [aZ (vl (aZ (vl (j.getD 0 [])*vl (aZ b)))+vl (aZ (vl (m.getD 0 [])*vl (aZ a))))]).length≤4611686018427387904):LG zdS (zdB a b d f g i j l m n) (zbN a b d f g i j l m n (1) (1) ([aZ (vl (aZ (vl (j.getD 0 [])*vl (aZ b)))+vl (aZ (vl (m.getD 0 [])*vl (aZ a))))])):=Loops.go (LS.at ziD 60 [5] [3,4,5,6,7,8,9,10] [] [1] (.t h1<|.c h2<|.c h3<|.c h4<|.c h5<|.c h6<|.t h7<|.t h8<|.t h9<|.e) [1,2,3,2,4,5,6,7,8,9,0])
theorem zpg (a b:Int) (d:List Int) (g i j:Int) (l:List (List Int)) (m:List Int) (n:List (List Int)) (o:List Int) (h1:¬(0<(l.length:Int))) (h2:0<(n.length:Int)) (h3:(0:Int)≤ 0) (h4:pMu (l.getD 0 []) (aZ b)) (h5:pMu (n.getD 0 []) (aZ a)) (h6:pAd (aZ (vl (l.getD 0 [])*vl (aZ b))) (aZ (vl (n.getD 0 [])*vl (aZ a)))) (h7:1≤List.length [aZ (vl (aZ (vl (l.getD 0 [])*vl (aZ b)))+vl (aZ (vl (n.getD 0 [])*vl (aZ a))))]) (h8:0<(List.take 1 [aZ (vl (aZ (vl (l.getD 0 [])*vl (aZ b)))+vl (aZ (vl (n.getD 0 [])*vl (aZ a))))]).length) (h9:(List.take 1 [aZ (vl (aZ (vl (l.getD 0 [])*vl (aZ b)))+vl (aZ (vl (n.getD 0 [])*vl (aZ a))))]).length*24≤140737488355328) (h10:(List.take 1 [aZ (vl (aZ (vl (l.getD 0 [])*vl (aZ b)))+vl (aZ (vl (n.getD 0 [])*vl (aZ a))))]).length≤4611686018427387904):LG zdS (zdB a b d g i j l m n o) (zbN a b d g i j l m n o (1) (1) ([aZ (vl (aZ (vl (l.getD 0 [])*vl (aZ b)))+vl (aZ (vl (n.getD 0 [])*vl (aZ a))))])):=Loops.go (LS.at ziD 60 [5] [3,4,5,6,7,8,9,10] [] [0,1] (.f h1<|.t h2<|.c h3<|.c h4<|.c h5<|.c h6<|.c h7<|.t h8<|.t h9<|.t h10<|.e) [1,2,3,4,3,5,6,7,8,9,10,0])
theorem zph (a b:Int) (c:List Int) (d g i:Int) (j:List (List Int)) (l:List Int) (m:List (List Int)) (n:List Int) (h1:¬(0<(j.length:Int))) (h2:¬(0<(m.length:Int))):zdS (zdB a b c d g i j l m n) (Ex.exit 0,(zlt a b c d g i j l m n)):=LF (LS.at ziD 60 [] [3,4,5,6,7,8,9,10] [] [0,0] (.f h1<|.f h2<|.e) [1,2])
theorem zpi (a b:Int) (d:List Int) (f g j:Int) (l:List (List Int)) (m:List Int) (n:List (List Int)) (o:List Int) (p:Nat) (q:Int) (s:List (List Int)) (h1:q<(l.length:Int)) (h2:(0:Int)≤ q) (h3:pMu (l.getD q.toNat []) (aZ b)) (h4:pMu (n.getD q.toNat []) (aZ a)) (h5:pAd (aZ (vl (l.getD q.toNat [])*vl (aZ b))) (aZ (vl (n.getD q.toNat [])*vl (aZ a)))) (h6:1≤List.length [aZ (vl (aZ (vl (l.getD q.toNat [])*vl (aZ b)))+vl (aZ (vl (n.getD q.toNat [])*vl (aZ a))))]) (h7:(p+(List.take 1 [aZ (vl (aZ (vl (l.getD q.toNat [])*vl (aZ b)))+vl (aZ (vl (n.getD q.toNat [])*vl (aZ a))))]).length)*24≤140737488355328) (h8:p+(List.take 1 [aZ (vl (aZ (vl (l.getD q.toNat [])*vl (aZ b)))+vl (aZ (vl (n.getD q.toNat [])*vl (aZ a))))]).length≤4611686018427387904) (h9:p≤s.length) (h10:r64 (q+1)):LG zdS (zbN a b d f g j l m n o p q s) (zbN a b d f g j l m n o (p+(List.take 1 [aZ (vl (aZ (vl (l.getD q.toNat [])*vl (aZ b)))+vl (aZ (vl (n.getD q.toNat [])*vl (aZ a))))]).length) (q+1) (s.take p++List.take 1 [aZ (vl (aZ (vl (l.getD q.toNat [])*vl (aZ b)))+vl (aZ (vl (n.getD q.toNat [])*vl (aZ a))))])):=Loops.go (LS.at ziD 60 [6] [3,4,5,6,7,8,9,10] [] [1] (.t h1<|.c h2<|.c h3<|.c h4<|.c h5<|.c h6<|.t h7<|.t h8<|.t h9<|.i h10<|.e) [1,2,3,2,4,5,6,7,8,9,10])
theorem zpj (a b:Int) (d:List Int) (g j l:Int) (m:List (List Int)) (n:List Int) (o:List (List Int)) (p:List Int) (q:Nat) (s:Int) (u:List (List Int)) (h1:¬(s<(m.length:Int))) (h2:s<(o.length:Int)) (h3:(0:Int)≤ s) (h4:pMu (m.getD s.toNat []) (aZ b)) (h5:pMu (o.getD s.toNat []) (aZ a)) (h6:pAd (aZ (vl (m.getD s.toNat [])*vl (aZ b))) (aZ (vl (o.getD s.toNat [])*vl (aZ a)))) (h7:1≤List.length [aZ (vl (aZ (vl (m.getD s.toNat [])*vl (aZ b)))+vl (aZ (vl (o.getD s.toNat [])*vl (aZ a))))]) (h8:(q+(List.take 1 [aZ (vl (aZ (vl (m.getD s.toNat [])*vl (aZ b)))+vl (aZ (vl (o.getD s.toNat [])*vl (aZ a))))]).length)*24≤140737488355328) (h9:q+(List.take 1 [aZ (vl (aZ (vl (m.getD s.toNat [])*vl (aZ b)))+vl (aZ (vl (o.getD s.toNat [])*vl (aZ a))))]).length≤4611686018427387904) (h10:q≤u.length) (h11:r64 (s+1)):LG zdS (zbN a b d g j l m n o p q s u) (zbN a b d g j l m n o p (q+(List.take 1 [aZ (vl (aZ (vl (m.getD s.toNat [])*vl (aZ b)))+vl (aZ (vl (o.getD s.toNat [])*vl (aZ a))))]).length) (s+1) (u.take q++List.take 1 [aZ (vl (aZ (vl (m.getD s.toNat [])*vl (aZ b)))+vl (aZ (vl (o.getD s.toNat [])*vl (aZ a))))])):=Loops.go (LS.at ziD 60 [6] [3,4,5,6,7,8,9,10] [] [0,1] (.f h1<|.t h2<|.c h3<|.c h4<|.c h5<|.c h6<|.c h7<|.t h8<|.t h9<|.t h10<|.i h11<|.e) [1,2,3,4,3,5,6,7,8,9,10,11])
theorem zpk (a b:Int) (c:List Int) (d g i:Int) (j:List (List Int)) (l:List Int) (m:List (List Int)) (n:List Int) (o:Nat) (p:Int) (q:List (List Int)) (h1:¬(p<(j.length:Int))) (h2:¬(p<(m.length:Int))):zdS (zbN a b c d g i j l m n o p q) (Ex.exit 0,(zeC a b c d g i j l m n o p q)):=LF (LS.at ziD 60 [4] [3,4,5,6,7,8,9,10] [] [0,0] (.f h1<|.f h2<|.e) [1,2])
theorem nAd_0 (f:fieldK.ty) (x y:zad) (h1:pQ 20000 x.snd) (h2:pQ 20000 y.snd) (hL1:zdS (zdB (xZ x.snd) (xZ y.snd) f.fst f.snd.fst f.snd.snd.fst f.snd.snd.snd x.fst x.snd y.fst y.snd) (Ex.exit 0,(zlt (xZ x.snd) (xZ y.snd) f.fst f.snd.fst f.snd.snd.fst f.snd.snd.snd x.fst x.snd y.fst y.snd))) (h4:pPF f∧pC []) (h5:pMu (aZ (xZ x.snd)) (aZ (xZ y.snd))) (h6:pLw (rdR f.fst []) (aZ (vl (aZ (xZ x.snd))*vl (aZ (xZ y.snd))))):FC tP 23 [fieldK.val f,numK.val x,numK.val y] (.agg [.lst KI (zel (rdR f.fst []) (aZ (vl (aZ (xZ x.snd))*vl (aZ (xZ y.snd))))).fst,.sq (zel (rdR f.fst []) (aZ (vl (aZ (xZ x.snd))*vl (aZ (xZ y.snd))))).snd]):=dZ ziD 60 [] (.c h1<|.c h2<|.v [3,4,5,6,7,8,9,10] [] hL1<|.c h4<|.c h5<|.c h6<|.e) [1,2,0,3,4,5,6]
theorem nAd_1 (f:fieldK.ty) (x y:zad) (a:Nat) (b:Int) (d:List (List Int)) (h1:pQ 20000 x.snd) (h2:pQ 20000 y.snd) (hL1:zdS (zdB (xZ x.snd) (xZ y.snd) f.fst f.snd.fst f.snd.snd.fst f.snd.snd.snd x.fst x.snd y.fst y.snd) (Ex.exit 0,(zeC (xZ x.snd) (xZ y.snd) f.fst f.snd.fst f.snd.snd.fst f.snd.snd.snd x.fst x.snd y.fst y.snd a b d))) (h4:a≤d.length) (h5:pPF f∧pC (d.take a)) (h6:pMu (aZ (xZ x.snd)) (aZ (xZ y.snd))) (h7:pLw (rdR f.fst (d.take a)) (aZ (vl (aZ (xZ x.snd))*vl (aZ (xZ y.snd))))):FC tP 23 [fieldK.val f,numK.val x,numK.val y] (.agg [.lst KI (zel (rdR f.fst (d.take a)) (aZ (vl (aZ (xZ x.snd))*vl (aZ (xZ y.snd))))).fst,.sq (zel (rdR f.fst (d.take a)) (aZ (vl (aZ (xZ x.snd))*vl (aZ (xZ y.snd))))).snd]):=dZ ziD 60 [] (.c h1<|.c h2<|.v [3,4,5,6,7,8,9,10] [] hL1<|.c h4<|.c h5<|.c h6<|.c h7<|.e) [1,2,0,3,4,5,6,7]
abbrev zhs (s:St) (r:Ex × St):Prop:=Loops 4 tP (kZ tP 27 0) s r
abbrev zgy (a:List Int) (b c d:Int) (e:List (List Int)) (f:List Int) (g:List (List Int)) (i:List Int):St:=⟨sp 54 [(3,.ref 0 0),(4,.ref 1 0),(5,.ref 2 0),(6,.ref 3 0),(7,aN),(8,aI 0)],[.flat [.sq a,aI b,aI c,aI d] true,.flat [.lst KI e,.sq f] true,.flat [.lst KI g,.sq i] true,.flat [aN,aN] true],[]⟩
abbrev zeE (a:List Int) (b c d:Int) (e:List (List Int)) (f:List Int) (g:List (List Int)) (i:List Int) (j:Nat) (l:Int) (m:List (List Int)):St:=⟨sp 54 [(3,.ref 0 0),(4,.ref 1 0),(5,.ref 2 0),(6,.ref 3 0),(7,.own 4 0 j 1),(8,aI l)],[.flat [.sq a,aI b,aI c,aI d] true,.flat [.lst KI e,.sq f] true,.flat [.lst KI g,.sq i] true,.flat [aN,aN] true,.lst KI m true],[]⟩
abbrev zlv (a:List Int) (b c d:Int) (e:List (List Int)) (f:List Int) (g:List (List Int)) (i:List Int):St:=⟨sp 54 [(3,.ref 0 0),(4,.ref 1 0),(5,.ref 2 0),(6,.ref 3 0),(7,aN),(8,aI 0)],[.flat [.sq a,aI b,aI c,aI d] true,.flat [.lst KI e,.sq f] true,.flat [.lst KI g,.sq i] true,.flat [aN,aN] true],[]⟩
abbrev zht (a:List Int) (b c d:Int) (e:List (List Int)) (f:List Int) (g:List (List Int)) (i:List Int) (j:Nat) (l:Int) (m:List (List Int)):St:=⟨sp 54 [(3,.ref 0 0),(4,.ref 1 0),(5,.ref 2 0),(6,.ref 3 0),(7,.own 4 0 j 1),(8,aI l)],[.flat [.sq a,aI b,aI c,aI d] true,.flat [.lst KI e,.sq f] true,.flat [.lst KI g,.sq i] true,.flat [aN,aN] true,.lst KI m true],[]⟩
abbrev nMl_L0 (s:St) (r:Ex × St):Prop:=Loops 4 tP (kZ tP 27 1) s r
abbrev znR (a:List Int) (b c d:Int) (e:List (List Int)) (f:List Int) (g:List (List Int)) (i:List Int):St:=⟨sp 54 [(3,.ref 0 0),(4,.ref 1 0),(5,.ref 2 0),(6,.ref 3 0),(7,aN),(8,aI 0),(9,aN),(10,aI 0)],[.flat [.sq a,aI b,aI c,aI d] true,.flat [.lst KI e,.sq f] true,.flat [.lst KI g,.sq i] true,.flat [aN,aN] true],[]⟩
abbrev znS (a:List Int) (b c d:Int) (e:List (List Int)) (f:List Int) (g:List (List Int)) (i:List Int) (j:Int):St:=⟨sp 54 [(3,.ref 0 0),(4,.ref 1 0),(5,.ref 2 0),(6,.ref 3 0),(7,aN),(8,aI 0),(9,.ni j),(10,aI 1)],[.flat [.sq a,aI b,aI c,aI d] true,.flat [.lst KI e,.sq f] true,.flat [.lst KI g,.sq i] true,.flat [aN,aN] true],[]⟩
abbrev zhr (a:List Int) (b c d:Int) (e:List (List Int)) (f:List Int) (g:List (List Int)) (i:List Int) (j:Int):St:=⟨sp 54 [(3,.ref 0 0),(4,.ref 1 0),(5,.ref 2 0),(6,.ref 3 0),(7,aN),(8,aI 0),(9,.ni j),(10,aI 1)],[.flat [.sq a,aI b,aI c,aI d] true,.flat [.lst KI e,.sq f] true,.flat [.lst KI g,.sq i] true,.flat [aN,aN] true],[]⟩
theorem zpl (a:List Int) (b d f:Int) (g:List (List Int)) (i:List Int) (j:List (List Int)) (l:List Int) (h1:(0:Int)≤ 0) (h2:pMu (g.getD 0 []) (j.getD 0 [])) (h3:pAd [] (aZ (vl (g.getD 0 [])*vl (j.getD 0 [])))):LG nMl_L0 (znR a b d f g i j l) (znS a b d f g i j l (0+vl (aZ (vl (g.getD 0 [])*vl (j.getD 0 []))))):=Loops.go (LS.at ziD 60 [] [3,4,5,6,7,8,9,10] [] [] (.c h1<|.c h2<|.c h3<|.e) [0,1,1,2,3,0])
theorem zpm (a:List Int) (b c d:Int) (f:List (List Int)) (g:List Int) (i:List (List Int)) (j:List Int) (l:Int):nMl_L0 (znS a b c d f g i j l) (Ex.exit 2,(zhr a b c d f g i j l)):=LF (LS.at ziD 60 [] [3,4,5,6,7,8,9,10] [] [] (.e) [])
theorem zpq (a:List Int) (b d f:Int) (g:List (List Int)) (j:List Int) (l:List (List Int)) (m:List Int) (n:Int) (h1:r64 ((g.length:Int)+(l.length:Int))) (h2:1<(g.length:Int)+(l.length:Int)) (hL1:nMl_L0 (znR a b d f g j l m) (Ex.exit 2,(zhr a b d f g j l m n))) (h4:1≤List.length [aZ n]) (h5:0<(List.take 1 [aZ n]).length) (h6:(List.take 1 [aZ n]).length*24≤140737488355328) (h7:(List.take 1 [aZ n]).length≤4611686018427387904):LG zhs (zgy a b d f g j l m) (zeE a b d f g j l m (1) (1) ([aZ n])):=Loops.go (LS.at ziD 60 [5] [3,4,5,6,7,8] [] [1] (.i h1<|.t h2<|.v [3,4,5,6,7,8,9,10] [] hL1<|.c h4<|.t h5<|.t h6<|.t h7<|.e) [0,1,2,0,3,4,5,6,7,0])
theorem zpr (a:List Int) (b c d:Int) (g:List (List Int)) (j:List Int) (l:List (List Int)) (m:List Int) (h1:r64 ((g.length:Int)+(l.length:Int))) (h2:¬(1<(g.length:Int)+(l.length:Int))):zhs (zgy a b c d g j l m) (Ex.exit 0,(zlv a b c d g j l m)):=LF (LS.at ziD 60 [] [3,4,5,6,7,8] [] [0] (.i h1<|.f h2<|.e) [0,1,2])
abbrev zlu (s:St) (r:Ex × St):Prop:=Loops 5 tP (kZ tP 27 1) s r
abbrev znT (a:Nat) (b:Int) (c:List Int) (d e f:Int) (g:List (List Int)) (i:List Int) (j:List (List Int)) (l:List Int) (m:List (List Int)):St:=⟨sp 54 [(3,.ref 0 0),(4,.ref 1 0),(5,.ref 2 0),(6,.ref 3 0),(7,.own 4 0 a 1),(8,aI b),(9,aN),(10,aI 0)],[.flat [.sq c,aI d,aI e,aI f] true,.flat [.lst KI g,.sq i] true,.flat [.lst KI j,.sq l] true,.flat [aN,aN] true,.lst KI m true],[]⟩
abbrev zeD (a:Nat) (b:Int) (c:List Int) (d e f:Int) (g:List (List Int)) (i:List Int) (j:List (List Int)) (l:List Int) (m:List (List Int)) (n o:Int):St:=⟨sp 54 [(3,.ref 0 0),(4,.ref 1 0),(5,.ref 2 0),(6,.ref 3 0),(7,.own 4 0 a 1),(8,aI b),(9,.ni n),(10,aI o)],[.flat [.sq c,aI d,aI e,aI f] true,.flat [.lst KI g,.sq i] true,.flat [.lst KI j,.sq l] true,.flat [aN,aN] true,.lst KI m true],[]⟩
abbrev zc1 (a:Nat) (b:Int) (c:List Int) (d e f:Int) (g:List (List Int)) (i:List Int) (j:List (List Int)) (l:List Int) (m:List (List Int)) (n o:Int):St:=⟨sp 54 [(3,.ref 0 0),(4,.ref 1 0),(5,.ref 2 0),(6,.ref 3 0),(7,.own 4 0 a 1),(8,aI b),(9,.ni n),(10,aI o)],[.flat [.sq c,aI d,aI e,aI f] true,.flat [.lst KI g,.sq i] true,.flat [.lst KI j,.sq l] true,.flat [aN,aN] true,.lst KI m true],[]⟩
theorem zpn (a:Nat) (b:Int) (d:List Int) (f g j:Int) (l:List (List Int)) (m:List Int) (n:List (List Int)) (o:List Int) (p:List (List Int)) (h1:0≤b) (h2:r64 (b-0)) (h3:(0:Int)≤ 0) (h4:(0:Int)≤ b-0) (h5:pMu (l.getD 0 []) (n.getD (b-0).toNat [])) (h6:pAd [] (aZ (vl (l.getD 0 [])*vl (n.getD (b-0).toNat [])))):LG zlu (znT a b d f g j l m n o p) (zeD a b d f g j l m n o p (0+vl (aZ (vl (l.getD 0 [])*vl (n.getD (b-0).toNat [])))) (1)):=Loops.go (LS.at ziD 60 [] [3,4,5,6,7,8,9,10] [] [1] (.t h1<|.i h2<|.c h3<|.c h4<|.c h5<|.c h6<|.e) [1,2,3,4,5,6,0])
theorem zpo (a:Nat) (b:Int) (d:List Int) (f g j:Int) (l:List (List Int)) (m:List Int) (n:List (List Int)) (o:List Int) (p:List (List Int)) (q s:Int) (h1:s≤b) (h2:r64 (b-s)) (h3:(0:Int)≤ s) (h4:(0:Int)≤ b-s) (h5:pMu (l.getD s.toNat []) (n.getD (b-s).toNat [])) (h6:pAd (aZ q) (aZ (vl (l.getD s.toNat [])*vl (n.getD (b-s).toNat [])))) (h7:r64 (s+1)):LG zlu (zeD a b d f g j l m n o p q s) (zeD a b d f g j l m n o p (vl (aZ q)+vl (aZ (vl (l.getD s.toNat [])*vl (n.getD (b-s).toNat [])))) (s+1)):=Loops.go (LS.at ziD 60 [] [3,4,5,6,7,8,9,10] [] [1] (.t h1<|.i h2<|.c h3<|.c h4<|.c h5<|.c h6<|.i h7<|.e) [1,2,3,4,5,6,7])
theorem zpp (a:Nat) (b:Int) (c:List Int) (d g i:Int) (j:List (List Int)) (l:List Int) (m:List (List Int)) (n:List Int) (o:List (List Int)) (p q:Int) (h1:¬(q≤b)):zlu (zeD a b c d g i j l m n o p q) (Ex.exit 2,(zc1 a b c d g i j l m n o p q)):=LF (LS.at ziD 60 [] [3,4,5,6,7,8,9,10] [] [0] (.f h1<|.e) [1])
theorem zps (a:List Int) (b d f:Int) (g:List (List Int)) (j:List Int) (l:List (List Int)) (m:List Int) (n:Nat) (o:Int) (p:List (List Int)) (q s:Int) (h1:r64 (o+1)) (h2:r64 ((g.length:Int)+(l.length:Int))) (h3:o+1<(g.length:Int)+(l.length:Int)) (hL1:zlu (znT n o a b d f g j l m p) (Ex.exit 2,(zc1 n o a b d f g j l m p q s))) (h5:1≤List.length [aZ q]) (h6:(n+(List.take 1 [aZ q]).length)*24≤140737488355328) (h7:n+(List.take 1 [aZ q]).length≤4611686018427387904) (h8:n≤p.length):LG zhs (zeE a b d f g j l m n o p) (zeE a b d f g j l m (n+(List.take 1 [aZ q]).length) (o+1) (p.take n++List.take 1 [aZ q])):=Loops.go (LS.at ziD 60 [6] [3,4,5,6,7,8] [] [1] (.i h1<|.i h2<|.t h3<|.v [3,4,5,6,7,8,9,10] [] hL1<|.c h5<|.t h6<|.t h7<|.t h8<|.e) [1,2,3,0,4,5,6,7,8,1])
theorem zpt (a:List Int) (b c d:Int) (g:List (List Int)) (j:List Int) (l:List (List Int)) (m:List Int) (n:Nat) (o:Int) (p:List (List Int)) (h1:r64 (o+1)) (h2:r64 ((g.length:Int)+(l.length:Int))) (h3:¬(o+1<(g.length:Int)+(l.length:Int))):zhs (zeE a b c d g j l m n o p) (Ex.exit 0,(zht a b c d g j l m n o p)):=LF (LS.at ziD 60 [4] [3,4,5,6,7,8] [] [0] (.i h1<|.i h2<|.f h3<|.e) [1,2,3])
theorem nMl_0 (f:fieldK.ty) (x y:zad) (hL1:zhs (zgy f.fst f.snd.fst f.snd.snd.fst f.snd.snd.snd x.fst x.snd y.fst y.snd) (Ex.exit 0,(zlv f.fst f.snd.fst f.snd.snd.fst f.snd.snd.snd x.fst x.snd y.fst y.snd))) (h2:pPF f∧pC []) (h3:pQ 20000 x.snd) (h4:pQ 20000 y.snd) (h5:pMu (aZ (xZ x.snd)) (aZ (xZ y.snd))) (h6:pLw (rdR f.fst []) (aZ (vl (aZ (xZ x.snd))*vl (aZ (xZ y.snd))))):FC tP 27 [fieldK.val f,numK.val x,numK.val y] (.agg [.lst KI (zel (rdR f.fst []) (aZ (vl (aZ (xZ x.snd))*vl (aZ (xZ y.snd))))).fst,.sq (zel (rdR f.fst []) (aZ (vl (aZ (xZ x.snd))*vl (aZ (xZ y.snd))))).snd]):=dZ ziD 60 [] (.v [3,4,5,6,7,8] [] hL1<|.c h2<|.c h3<|.c h4<|.c h5<|.c h6<|.e) [0,1,2,3,4,5,6]
theorem nMl_1 (f:fieldK.ty) (x y:zad) (a:Nat) (b:Int) (d:List (List Int)) (hL1:zhs (zgy f.fst f.snd.fst f.snd.snd.fst f.snd.snd.snd x.fst x.snd y.fst y.snd) (Ex.exit 0,(zht f.fst f.snd.fst f.snd.snd.fst f.snd.snd.snd x.fst x.snd y.fst y.snd a b d))) (h2:a≤d.length) (h3:pPF f∧pC (d.take a)) (h4:pQ 20000 x.snd) (h5:pQ 20000 y.snd) (h6:pMu (aZ (xZ x.snd)) (aZ (xZ y.snd))) (h7:pLw (rdR f.fst (d.take a)) (aZ (vl (aZ (xZ x.snd))*vl (aZ (xZ y.snd))))):FC tP 27 [fieldK.val f,numK.val x,numK.val y] (.agg [.lst KI (zel (rdR f.fst (d.take a)) (aZ (vl (aZ (xZ x.snd))*vl (aZ (xZ y.snd))))).fst,.sq (zel (rdR f.fst (d.take a)) (aZ (vl (aZ (xZ x.snd))*vl (aZ (xZ y.snd))))).snd]):=dZ ziD 60 [] (.v [3,4,5,6,7,8] [] hL1<|.c h2<|.c h3<|.c h4<|.c h5<|.c h6<|.c h7<|.e) [0,1,2,3,4,5,6,7]
theorem nWh_0 (n:Int) (h1:1≤List.length [n]) (h2:1≤List.length [List.take 1 [n]]) (h3:1≤1) (h4:pLw (List.take 1 [List.take 1 [n]]) (List.take 1 [1])):FC tP 59 [lI n] (.agg [.lst KI (zel (List.take 1 [List.take 1 [n]]) (List.take 1 [1])).fst,.sq (zel (List.take 1 [List.take 1 [n]]) (List.take 1 [1])).snd]):=dZ ziD 60 [] (.c h1<|.c h2<|.c h3<|.c h4<|.e) [1,2,3,4]
end
open Go.Kf
def pB (x:zad):Prop:=x.1.length≤40∧(∀l∈x.1,pQ 3000 l)∧pQ 3000 x.2
theorem zbs (d:List Int):xZ d≠0:=by unfold xZ;split<;>omega
theorem zfY {N:Nat} {d:List Int} (h:pQ N d) (hN:1≤N):Sz (N+3) (xZ d):=by
 unfold xZ
 split
 ·exact Sz.lit (by decide) (by omega)
 ·exact h.sz
theorem zfN {p:List Int} {c:List (List Int)}:(rdR p c).length=p.length-1:=by
 unfold rdR;rw [List.length_take,oG_len];simp;omega
theorem rdR_pC {p:List Int} {c:List (List Int)} (h2:2≤p.length) (h5:p.length≤5) (hp:∀x∈p,x.natAbs≤1000) (hl:c.length≤100) (hc:∀l∈c,pQ 8000 l):pC (rdR p c):=by
 refine ⟨by rw [zfN];omega,fun l h=>?_⟩
 have:=oG_q (n:=p.length-1) hp (c.length-(p.length-1)) 8000 (c++List.replicate (p.length-1-c.length) []) (fun l h=>by
  rcases List.mem_append.1 h with h | h
  ·exact hc l h
  ·rw [List.eq_of_mem_replicate h];exact ⟨by simp,fun d hd=>by cases hd⟩) (by omega) l (List.mem_of_mem_take h)
 exact this.mono (by omega)
theorem pLw_of {p:List Int} {c:List (List Int)} {z:Int} (h2:2≤p.length) (h5:p.length≤5) (hp:∀x∈p,x.natAbs≤1000) (hl:c.length≤100) (hc:∀l∈c,pQ 8000 l) (hz:z≠0) (hs:Sz 8000 z):pLw (rdR p c) (aZ z):=
 ⟨rdR_pC h2 h5 hp hl hc,fZ hs (by decide),by rw [bZ];exact hz⟩
def noR (p:List Int) (x:zad):zad:=zel (rdR p x.1) (aZ (xZ x.2))
theorem zi8 (f:fieldK.ty) (x:zad) (hf:pPF f) (hx:pB x):FC tP 21 [fieldK.val f,numK.val x] (numK.val (noR f.1 x)):=
 nNo_0 f x ⟨hf,by have:=hx.1;omega,fun l h=>(hx.2.1 l h).mono (by decide)⟩ (hx.2.2.mono (by decide)) (pLw_of hf.1 hf.2.1 hf.2.2 (by have:=hx.1;omega) (fun l h=>(hx.2.1 l h).mono (by decide)) (zbs _) ((zfY hx.2.2 (by decide)).mono (by decide)))
def adF (x y:zad) (i:Nat):List Int:=aZ (vl (x.1.getD i [])*xZ y.2+vl (y.1.getD i [])*xZ x.2)
def adR (x y:zad) (n:Nat):List (List Int):=(List.range n).map (adF x y)
theorem zkh {F:Nat→List Int} (i:Nat):(List.range (i+1)).map F=((List.range i).map F).take i++List.take 1 [F i]:=by
 rw [List.take_of_length_le (by simp),List.range_succ,List.map_append];rfl
theorem ad_sz {x y:zad} (hx:pB x) (hy:pB y) (i:Nat):Sz 6007 (vl (x.1.getD i [])*xZ y.2+vl (y.1.getD i [])*xZ x.2):=
 Sz.add ((zm0 hx.2.1 i).sz.mul (zfY hy.2.2 (by decide))) ((zm0 hy.2.1 i).sz.mul (zfY hx.2.2 (by decide))) (by decide) (by decide)
theorem ad_c {x y:zad} (hx:pB x) (hy:pB y) (i:Nat):pMu (x.1.getD i []) (aZ (xZ y.2))∧pMu (y.1.getD i []) (aZ (xZ x.2))∧pAd (aZ (vl (x.1.getD i [])*vl (aZ (xZ y.2)))) (aZ (vl (y.1.getD i [])*vl (aZ (xZ x.2)))):=by
 have sx:=zfY hx.2.2 (by decide)
 have sy:=zfY hy.2.2 (by decide)
 have qx:=zm0 hx.2.1 i
 have qy:=zm0 hy.2.1 i
 refine ⟨⟨qx.mono (by decide),fZ sy (by decide)⟩,⟨qy.mono (by decide),fZ sx (by decide)⟩,?_,?_⟩
 ·rw [bZ];exact fZ (qx.sz.mul sy) (by decide)
 ·rw [bZ];exact fZ (qy.sz.mul sx) (by decide)
theorem ad_l0 {x y:zad} {p:List Int} {a b d:Int} (hx:pB x) (hy:pB y) {n:Nat} (hn:n=max x.1.length y.1.length):∀(k i:Nat),i+k=n →
 zdS (zbN (xZ x.2) (xZ y.2) p a b d x.1 x.2 y.1 y.2 i i (adR x y i)) (Ex.exit 0,zeC (xZ x.2) (xZ y.2) p a b d x.1 x.2 y.1 y.2 n n (adR x y n))
 | 0,i,hi=>by
  obtain rfl:i=n:=by omega
  exact zpk _ _ p a b d _ _ _ _ i i _ (by omega) (by omega)
 | k + 1,i,hi=>by
  have ih:=ad_l0 (p:=p) (a:=a) (b:=b) (d:=d) hx hy hn k (i+1) (by omega)
  have hx1:=hx.1
  have hy1:=hy.1
  have e1:Int.toNat (i:Int)=i:=rfl
  obtain ⟨c1,c2,c3⟩:=ad_c hx hy i
  have key:adR x y (i+1)=(adR x y i).take i++List.take 1 [aZ (vl (aZ (vl (x.1.getD i [])*vl (aZ (xZ y.2))))+vl (aZ (vl (y.1.getD i [])*vl (aZ (xZ x.2)))))]:=by
   rw [bZ,bZ,bZ,bZ];exact zkh i
  rw [key] at ih
  have hl:(adR x y i).length=i:=by simp [adR]
  by_cases h:i<x.1.length
  ·exact zpi _ _ p a b d _ _ _ _ i i (adR x y i) (by omega) (by omega) (by rw [e1];exact c1) (by rw [e1];exact c2) (by rw [e1];exact c3) (Nat.le_refl 1) (show(i+1)*24≤_ by omega) (show i+1≤_ by omega) (by rw [hl];exact Nat.le_refl _) (by unfold r64;omega) (by rw [e1];exact ih)
  ·exact zpj _ _ p a b d _ _ _ _ i i (adR x y i) (by omega) (by omega) (by omega) (by rw [e1];exact c1) (by rw [e1];exact c2) (by rw [e1];exact c3) (Nat.le_refl 1) (show(i+1)*24≤_ by omega) (show i+1≤_ by omega) (by rw [hl];exact Nat.le_refl _) (by unfold r64;omega) (by rw [e1];exact ih)
def adO (p:List Int) (x y:zad):zad:=zel (rdR p (adR x y (max x.1.length y.1.length))) (aZ (xZ x.2*xZ y.2))
theorem bb_ok {x y:zad} (hx:pB x) (hy:pB y):pMu (aZ (xZ x.2)) (aZ (xZ y.2))∧xZ x.2*xZ y.2≠0∧Sz 8000 (xZ x.2*xZ y.2):=by
 have sx:=zfY hx.2.2 (by decide)
 have sy:=zfY hy.2.2 (by decide)
 exact ⟨⟨fZ sx (by decide),fZ sy (by decide)⟩,Int.mul_ne_zero (zbs _) (zbs _),(sx.mul sy).mono (by decide)⟩
theorem adR_q {x y:zad} (hx:pB x) (hy:pB y) (n:Nat):∀l∈adR x y n,pQ 8000 l:=fun l h=>by
 obtain ⟨i,_,rfl⟩:=List.mem_map.1 h
 exact fZ (ad_sz hx hy i) (by decide)
theorem add_fc2 (f:fieldK.ty) (x y:zad) (hf:pPF f) (hx:pB x) (hy:pB y):FC tP 23 [fieldK.val f,numK.val x,numK.val y] (numK.val (adO f.1 x y)):=by
 have hx1:=hx.1
 have hy1:=hy.1
 obtain ⟨b1,b2,b3⟩:=bb_ok hx hy
 generalize hn:max x.1.length y.1.length=n
 have hlen:(adR x y n).length=n:=by simp [adR]
 have hpl:=pLw_of (c:=adR x y n) hf.1 hf.2.1 hf.2.2 (by omega) (adR_q hx hy n) b2 b3
 have hpc:pPF f∧pC (adR x y n):=⟨hf,by omega,fun l h=>(adR_q hx hy n l h).mono (by decide)⟩
 unfold adO
 rw [hn]
 by_cases h0:n=0
 ·subst h0
  have:=nAd_0 f x y (hx.2.2.mono (by decide)) (hy.2.2.mono (by decide)) (zph _ _ _ _ _ _ _ _ _ _ (by omega) (by omega)) hpc b1 (by rw [bZ,bZ];exact hpl)
  rw [bZ,bZ] at this
  exact this
 ·have L1:=ad_l0 (p:=f.1) (a:=f.2.1) (b:=f.2.2.1) (d:=f.2.2.2) hx hy hn.symm (n-1) 1 (by omega)
  obtain ⟨c1,c2,c3⟩:=ad_c hx hy 0
  have key:adR x y 1=[aZ (vl (aZ (vl (x.1.getD 0 [])*vl (aZ (xZ y.2))))+vl (aZ (vl (y.1.getD 0 [])*vl (aZ (xZ x.2)))))]:=by
   rw [bZ,bZ,bZ,bZ];rfl
  rw [key] at L1
  have L0:zdS (zdB (xZ x.2) (xZ y.2) f.1 f.2.1 f.2.2.1 f.2.2.2 x.1 x.2 y.1 y.2) (Ex.exit 0,zeC (xZ x.2) (xZ y.2) f.1 f.2.1 f.2.2.1 f.2.2.2 x.1 x.2 y.1 y.2 n n (adR x y n)):=by
   by_cases h:0<x.1.length
   ·exact zpf _ _ _ _ _ _ _ _ _ _ (by omega) (by decide) c1 c2 c3 (Nat.le_refl 1) (by decide:(0:Nat)<1) (by decide:(1:Nat)*24≤_) (by decide:(1:Nat)≤_) L1
   ·exact zpg _ _ _ _ _ _ _ _ _ _ (by omega) (by omega) (by decide) c1 c2 c3 (Nat.le_refl 1) (by decide:(0:Nat)<1) (by decide:(1:Nat)*24≤_) (by decide:(1:Nat)≤_) L1
  have tk:(adR x y n).take n=adR x y n:=List.take_of_length_le (by omega)
  have:=nAd_1 f x y n n (adR x y n) (hx.2.2.mono (by decide)) (hy.2.2.mono (by decide)) L0 (by omega) (by rw [tk];exact hpc) b1 (by rw [bZ,bZ,tk];exact hpl)
  rw [bZ,bZ,tk] at this
  exact this
def cvS (x y:List (List Int)) (i:Nat):Nat→Int
 | 0=>0
 | k+1=>cvS x y i k+vl (x.getD k [])*vl (y.getD (i-k) [])
def mlR (x y:List (List Int)) (n:Nat):List (List Int):=(List.range n).map fun i=>aZ (cvS x y i (i+1))
theorem cvS_sz {x y:List (List Int)} (hx:∀l∈x,pQ 3000 l) (hy:∀l∈y,pQ 3000 l) (i:Nat):∀k,Sz (6007+k) (cvS x y i k)
 | 0=>Sz.zero
 | k+1=>Sz.add (cvS_sz hx hy i k) ((zm0 hx k).sz.mul (zm0 hy (i-k)).sz) (by omega) (by omega)
theorem ml_c {x y:List (List Int)} (hx:∀l∈x,pQ 3000 l) (hy:∀l∈y,pQ 3000 l) (i k:Nat) (hk:k≤100):pMu (x.getD k []) (y.getD (i-k) [])∧pAd (aZ (cvS x y i k)) (aZ (vl (x.getD k [])*vl (y.getD (i-k) []))):=
 ⟨⟨(zm0 hx k).mono (by decide),(zm0 hy _).mono (by decide)⟩,fZ (cvS_sz hx hy i k) (by omega),fZ ((zm0 hx k).sz.mul (zm0 hy (i-k)).sz) (by decide)⟩
theorem ml_l2 {x y:zad} {p:List Int} {a b d:Int} {m i:Nat} {lr:List (List Int)} (hx:pB x) (hy:pB y) (hi:i≤90):∀(n k:Nat),k+n=i+1 →
 zlu (zeD m i p a b d x.1 x.2 y.1 y.2 lr (cvS x.1 y.1 i k) k) (Ex.exit 2,zc1 m i p a b d x.1 x.2 y.1 y.2 lr (cvS x.1 y.1 i (i+1)) ((i+1:Nat):Int))
 | 0,k,h=>by
  obtain rfl:k=i+1:=by omega
  exact zpp m i p a b d _ _ _ _ lr _ _ (by omega)
 | n+1,k,h=>by
  have ih:=ml_l2 (p:=p) (a:=a) (b:=b) (d:=d) (m:=m) (lr:=lr) hx hy hi n (k+1) (by omega)
  have e1:Int.toNat (k:Int)=k:=rfl
  have e2:Int.toNat ((i:Int)-(k:Int))=i-k:=by omega
  obtain ⟨c1,c2⟩:=ml_c hx.2.1 hy.2.1 i k (by omega)
  have go:=@zpo m i p a b d x.1 x.2 y.1 y.2 lr (cvS x.1 y.1 i k) k (by omega) (by unfold r64;omega) (by omega) (by omega) (by rw [e1,e2];exact c1) (by rw [e1,e2];exact c2) (by unfold r64;omega) (Ex.exit 2,zc1 m i p a b d x.1 x.2 y.1 y.2 lr (cvS x.1 y.1 i (i+1)) ((i+1:Nat):Int))
  rw [e1,e2,bZ,bZ] at go
  exact go ih
theorem ml_l3 {x y:zad} {p:List Int} {a b d:Int} (hx:pB x) (hy:pB y) {n:Nat} (hn:n+1=x.1.length+y.1.length):∀(k i:Nat),i+k=n →
 zhs (zeE p a b d x.1 x.2 y.1 y.2 i i (mlR x.1 y.1 i)) (Ex.exit 0,zht p a b d x.1 x.2 y.1 y.2 n n (mlR x.1 y.1 n))
 | 0,i,h=>by
  obtain rfl:i=n:=by omega
  have hx1:=hx.1
  have hy1:=hy.1
  exact zpt p a b d _ _ _ _ i i _ (by unfold r64;omega) (by unfold r64;omega) (by omega)
 | k+1,i,h=>by
  have hx1:=hx.1
  have hy1:=hy.1
  have ih:=ml_l3 (p:=p) (a:=a) (b:=b) (d:=d) hx hy hn k (i+1) (by omega)
  have e2:Int.toNat ((i:Int)-0)=i-0:=by omega
  obtain ⟨c1,c2⟩:=ml_c hx.2.1 hy.2.1 i 0 (by omega)
  have L2:=ml_l2 (p:=p) (a:=a) (b:=b) (d:=d) (m:=i) (i:=i) (lr:=mlR x.1 y.1 i) hx hy (by omega) i 1 (by omega)
  have go:=@zpn i i p a b d x.1 x.2 y.1 y.2 (mlR x.1 y.1 i) (by omega) (by unfold r64;omega) (by decide) (by omega) (by rw [e2];exact c1) (by rw [e2];exact c2) (Ex.exit 2,zc1 i i p a b d x.1 x.2 y.1 y.2 (mlR x.1 y.1 i) (cvS x.1 y.1 i (i+1)) ((i+1:Nat):Int))
  rw [e2,bZ] at go
  have L0:=go L2
  have hl:(mlR x.1 y.1 i).length=i:=by simp [mlR]
  rw [show mlR x.1 y.1 (i+1)=(mlR x.1 y.1 i).take i++List.take 1 [aZ (cvS x.1 y.1 i (i+1))] from zkh i] at ih
  exact zps p a b d _ _ _ _ i i _ (cvS x.1 y.1 i (i+1)) _ (by unfold r64;omega) (by unfold r64;omega) (by omega) L0 (Nat.le_refl 1) (show(i+1)*24≤_ by omega) (show i+1≤_ by omega) (by omega) ih
def muO (p:List Int) (x y:zad):zad:=zel (rdR p (mlR x.1 y.1 (x.1.length+y.1.length-1))) (aZ (xZ x.2*xZ y.2))
theorem mlR_q {x y:zad} (hx:pB x) (hy:pB y) {n:Nat} (hn:n≤80):∀l∈mlR x.1 y.1 n,pQ 8000 l:=fun l h=>by
 obtain ⟨i,hi,rfl⟩:=List.mem_map.1 h
 have:=List.mem_range.1 hi
 exact fZ (cvS_sz hx.2.1 hy.2.1 i (i+1)) (by omega)
theorem mul_fc2 (f:fieldK.ty) (x y:zad) (hf:pPF f) (hx:pB x) (hy:pB y):FC tP 27 [fieldK.val f,numK.val x,numK.val y] (numK.val (muO f.1 x y)):=by
 have hx1:=hx.1
 have hy1:=hy.1
 obtain ⟨b1,b2,b3⟩:=bb_ok hx hy
 unfold muO
 generalize hn:x.1.length+y.1.length-1=n
 have hlen:(mlR x.1 y.1 n).length=n:=by simp [mlR]
 have hpl:=pLw_of (c:=mlR x.1 y.1 n) hf.1 hf.2.1 hf.2.2 (by omega) (mlR_q hx hy (by omega)) b2 b3
 have hpc:pPF f∧pC (mlR x.1 y.1 n):=⟨hf,by omega,fun l h=>(mlR_q hx hy (by omega) l h).mono (by decide)⟩
 by_cases h0:n=0
 ·subst h0
  have:=nMl_0 f x y (zpr _ _ _ _ _ _ _ _ (by unfold r64;omega) (by omega)) hpc (hx.2.2.mono (by decide)) (hy.2.2.mono (by decide)) b1 (by rw [bZ,bZ];exact hpl)
  rw [bZ,bZ] at this
  exact this
 ·have L1:=ml_l3 (p:=f.1) (a:=f.2.1) (b:=f.2.2.1) (d:=f.2.2.2) hx hy (n:=n) (by omega) (n-1) 1 (by omega)
  obtain ⟨c1,c2⟩:=ml_c hx.2.1 hy.2.1 0 0 (by decide)
  have go:=@zpl f.1 f.2.1 f.2.2.1 f.2.2.2 x.1 x.2 y.1 y.2 (by decide) c1 c2 (Ex.exit 2,zhr f.1 f.2.1 f.2.2.1 f.2.2.2 x.1 x.2 y.1 y.2 (cvS x.1 y.1 0 1))
  rw [bZ] at go
  have L0:=zpq f.1 f.2.1 f.2.2.1 f.2.2.2 x.1 x.2 y.1 y.2 (cvS x.1 y.1 0 1) (by unfold r64;omega) (by omega) (go (zpm _ _ _ _ _ _ _ _ _)) (Nat.le_refl 1) (by decide:(0:Nat)<1) (by decide:(1:Nat)*24≤_) (by decide:(1:Nat)≤_) L1
  have tk:(mlR x.1 y.1 n).take n=mlR x.1 y.1 n:=List.take_of_length_le (by omega)
  have:=nMl_1 f x y n n (mlR x.1 y.1 n) L0 (by omega) (by rw [tk];exact hpc) (hx.2.2.mono (by decide)) (hy.2.2.mono (by decide)) b1 (by rw [bZ,bZ,tk];exact hpl)
  rw [bZ,bZ,tk] at this
  exact this
end Go.Proofs.YtagbldogmjhdpaaGreatDoor
end
section
open Go Go.Ev Go.RowKit
namespace Go.Proofs.YtagbldogmjhdpaaGreatDoor
open Go.Proofs
set_option maxRecDepth 100000
set_option maxHeartbeats 1000000
set_option linter.unusedVariables false
set_option linter.unusedSimpArgs false
noncomputable section
end
open Go.Kf
theorem gcF_gL:∀(c:List (List Int)) (g:Nat),gcF (g:Int) c=(gL g (vlL c):Int)
 | [],_=>rfl
 | l :: c,g=>by
  show gcF ((Int.gcd (g:Int) (vl l):Nat):Int) c=_
  rw [gcF_gL c];rfl
theorem dvs_sign {c:List (List Int)} {d:Int} (h:d≠0):d.sign*gcF (d.natAbs:Int) c=dvs (vlL c) d:=by
 rw [gcF_gL]
 unfold dvs
 by_cases hd:d<0
 ·rw [if_pos hd,Int.sign_eq_neg_one_of_neg hd];omega
 ·rw [if_neg hd,Int.sign_eq_one_of_pos (by omega),Int.one_mul]
theorem lsF_ok {c:List (List Int)}:∀(suf pre:List (List Int)) (n:Nat),c=pre++suf→(∀i,n≤i→i<pre.length→vl (c.getD i [])=0)→(n=0∨vl (c.getD (n-1) [])≠0)→n≤pre.length →
 (∀i,lsF n pre.length suf≤i→vl (c.getD i [])=0)∧(lsF n pre.length suf=0∨vl (c.getD (lsF n pre.length suf-1) [])≠0)∧lsF n pre.length suf≤c.length
 | [],pre,n,he,h1,h2,h3=>by
  have hl:c.length=pre.length:=by rw [he];simp
  refine ⟨fun i hi=>?_,h2,by rw [hl];exact h3⟩
  by_cases hc:i<pre.length
  ·exact h1 i hi hc
  ·rw [List.getD_eq_getElem?_getD,List.getElem?_eq_none (by omega)];rfl
 | l :: suf,pre,n,he,h1,h2,h3=>by
  have hg:c.getD pre.length []=l:=by rw [he,List.getD_eq_getElem?_getD];simp
  have hp:(pre++[l]).length=pre.length+1:=by simp
  have:=lsF_ok (c:=c) suf (pre++[l]) (if vl l=0 then n else pre.length+1) (by rw [he];simp) (fun i hi hc=>by
   rw [hp] at hc
   by_cases hz:vl l=0
   ·rw [if_pos hz] at hi
    by_cases e:i=pre.length
    ·subst e;rw [hg];exact hz
    ·exact h1 i hi (by omega)
   ·rw [if_neg hz] at hi;omega) (by
   by_cases hz:vl l=0
   ·rw [if_pos hz];exact h2
   ·rw [if_neg hz];right;rw [Nat.add_sub_cancel,hg];exact hz) (by rw [hp];split<;>omega)
  rw [hp] at this
  exact this
theorem zac (c:List (List Int)) (i:Nat):(vlL c).getD i 0=vl (c.getD i []):=zku
theorem lowR_eq {c:List (List Int)} {d:List Int} (h4:c.length≤4) (hd:vl d≠0):zel c d=gvN (zb8 (vlL c) (vl d)):=by
 have hz:=zhe (c:=vlL c) hd
 obtain ⟨_,hdv⟩:=zea (vlL c) (vl d)
 obtain ⟨l1,l2,l3⟩:=lsF_ok (c:=c) c [] 0 rfl (fun i _ h=>by simp at h) (.inl rfl) (Nat.le_refl _)
 unfold zel gvN
 simp only [dvs_sign hd]
 generalize hg:dvs (vlL c) (vl d)=g at *
 simp only [List.length_nil] at l1 l2 l3
 generalize hn:lsF 0 0 c=n at *
 refine Prod.ext ?_ ?_
 ·show (c.take n).map (fun l=>aZ (vl l / g))=(WZ (zb8 (vlL c) (vl d)).1).map aZ
  have e:(c.take n).map (fun l=>aZ (vl l / g))=((c.take n).map fun l=>vl l / g).map aZ:=by rw [List.map_map];rfl
  rw [e]
  congr 1
  have hget:∀i,((c.take n).map fun l=>vl l / g).getD i 0=if i<n then vl (c.getD i []) / g else 0:=fun i=>by
   rw [List.getD_eq_getElem?_getD,List.getElem?_map,List.getElem?_take]
   by_cases hi:i<n
   ·rw [if_pos hi,if_pos hi,List.getElem?_eq_getElem (by omega),List.getD_eq_getElem?_getD,List.getElem?_eq_getElem (by omega)];rfl
   ·rw [if_neg hi,if_neg hi];rfl
  refine zoC ?_ (zcg _) fun i=>?_
  ·rcases l2 with h0 | h0
   ·left;subst h0;simp
   ·by_cases hn0:n=0
    ·left;subst hn0;simp
    ·right
     have hl:((c.take n).map fun l=>vl l / g).length=n:=by simp;omega
     rw [List.getLastD_eq_getLast?,List.getLast?_eq_getElem?,hl,← List.getD_eq_getElem?_getD,hget,if_pos (by omega)]
     intro h
     have hdvd:g∣vl (c.getD (n-1) []):=by have:=hdv (n-1);rwa [zac] at this
     have:=Int.ediv_mul_cancel hdvd
     rw [h] at this
     exact h0 (by omega)
  ·rw [zam,zjK (fun i hi=>by rw [zac,List.getD_eq_getElem?_getD,List.getElem?_eq_none (by omega)];rfl),hget]
   unfold loC
   rw [hg,zac]
   by_cases hi:i<n
   ·rw [if_pos hi]
   ·rw [if_neg hi,l1 i (by omega),Int.zero_ediv]
 ·show aZ (vl d / g)=aZ (vl d / dvs (vlL c) (vl d))
  rw [hg]
theorem vlL_set (l:List (List Int)) (i:Nat) (x:List Int):vlL (l.set i x)=(vlL l).set i (vl x):=by simp [vlL,List.map_set]
theorem inG_vl {p:List Int} {n m:Nat} {out:List (List Int)} (hn:n≤m) (hm:m<out.length):∀k,k≤n→vlL (inG p n m (vl (out.getD m [])) out k)=zhk p (vlL out) m n k
 | 0,_=>rfl
 | k + 1,hk=>by
  have ih:=inG_vl (p:=p) hn hm k (by omega)
  unfold inG zhk
  rw [vlL_set,bZ,← zac (inG p n m (vl (out.getD m [])) out k) (m-n+k),ih]
  have e:(zhk p (vlL out) m n k).getD m 0=vl (out.getD m []):=by
   rw [zez hn (by rw [zbd];exact hm) k (by omega),if_neg (by omega),zac]
  rw [e,Int.sub_eq_add_neg]
theorem oG_vl {p:List Int} {n:Nat} {C:List Int}:∀(s:Nat) (out:List (List Int)),n+s≤out.length→out.length=C.length→(∀S,C.length=n+S→s≤S→vlL out=ouR p n C (S-s)→vlL (oG p n s out)=ouR p n C S)
 | 0,out,_,_,S,hS,_,h=>h
 | s+1,out,hl,hc,S,hS,hs,h=>by
  unfold oG
  refine oG_vl s _ (by rw [zec];omega) (by rw [zec];exact hc) S hS (by omega) ?_
  rw [inG_vl (by omega) (by omega) n (Nat.le_refl n),h]
  obtain ⟨t,ht⟩:∃t,S-s=t+1:=⟨S-s-1,by omega⟩
  rw [ht,show S-(s+1)=t by omega]
  show _=zhk p (ouR p n C t) (C.length-1-t) n n
  rw [show C.length-1-t=n+s by omega]
theorem vlL_app (a b:List (List Int)):vlL (a++b)=vlL a++vlL b:=by simp [vlL]
theorem rdR_vl (p:List Int) (c:List (List Int)) (i:Nat):(vlL (rdR p c)).getD i 0=(wZ p (p.length-1) (vlL c)).getD i 0:=by
 unfold rdR wZ
 generalize p.length-1=n
 have tk:∀(l:List (List Int)),vlL (l.take n)=(vlL l).take n:=fun l=>by simp [vlL,List.map_take]
 rw [tk,zbd]
 by_cases h:n≤c.length
 ·rw [show n-c.length=0 by omega,List.replicate_zero,List.append_nil]
  rw [oG_vl (p:=p) (C:=vlL c) (c.length-n) c (by omega) (by rw [zbd]) (c.length-n) (by rw [zbd];omega) (Nat.le_refl _) (by rw [Nat.sub_self];rfl)]
 ·rw [show c.length-n=0 by omega]
  show((vlL (c++List.replicate (n-c.length) [])).take n).getD i 0=((vlL c).take n).getD i 0
  rw [List.take_of_length_le (by rw [zbd];simp;omega),List.take_of_length_le (by rw [zbd];omega),zac,zac]
  rw [List.getD_eq_getElem?_getD,List.getD_eq_getElem?_getD]
  by_cases hi:i<c.length
  ·rw [List.getElem?_append_left hi]
  ·rw [List.getElem?_append_right (by omega),List.getElem?_eq_none (l:=c) (by omega)]
   by_cases hj:i-c.length<n-c.length
   ·rw [List.getElem?_replicate,if_pos hj];rfl
   ·rw [List.getElem?_replicate,if_neg hj]
theorem low_rd {p:List Int} (h:za7 p) (c:List (List Int)) {z:Int} (hz:z≠0):zel (rdR p c) (aZ z)=gvN (zb8 (wZ p (p.length-1) (vlL c)) z):=by
 rw [lowR_eq (by rw [zfN];have:=h.2.1;omega) (by rw [bZ];exact hz),bZ]
 rw [low_get hz (rdR_vl p c)]
theorem no_eq {p:List Int} (h:za7 p) (x:zad):noR p x=gvN (tkN p x):=low_rd h x.1 (zbs _)
theorem low_eq {p:List Int} (h:za7 p) {c:List (List Int)} {z:Int} (hz:z≠0) {u:NZ} (hu:Nrm (qO p) u) (hv:val (qO p) (vlL c) z=nv (qO p) u):zel (rdR p c) (aZ z)=gvN u:=by
 rw [low_rd h c hz]
 congr 1
 refine nv_inj (zee (ziH h) hz (zfO h)) hu ?_
 rw [zef (ziH h) hz (zfO h),zgF h,hv]
theorem zjj {p:List Int} {x:zad} (hx:Gd p x):nv (qO p) (tkN p x)=val (qO p) (vlL x.1) (xZ x.2):=(tk_ok (A:=20000) hx.1 (by decide) (fun l hl=>(hx.1.2.2.1 l hl).2) hx.1.2.2.2.2).2.1
theorem zmO {F:Nat→List Int} {n i:Nat}:((List.range n).map F).getD i []=if i<n then F i else []:=by
 rw [List.getD_eq_getElem?_getD,List.getElem?_map]
 by_cases h:i<n
 ·rw [if_pos h,List.getElem?_range h];rfl
 ·rw [if_neg h,List.getElem?_eq_none (by simp;omega)];rfl
theorem zgw {c:List (List Int)} {i:Nat} (h:c.length≤i):vl (c.getD i [])=0:=by
 rw [List.getD_eq_getElem?_getD,List.getElem?_eq_none h];rfl
theorem ad_eq {p:List Int} {x y:zad} (hx:Gd p x) (hy:Gd p y):adO p x y=adN p x y:=by
 have h:=hx.1.1
 have ⟨n3,v3⟩:=zpC (ziH h) (HZ hx) (HZ hy)
 refine low_eq h (Int.mul_ne_zero (zbs _) (zbs _)) n3 ?_
 rw [v3,zjj hx,zjj hy]
 refine Eq.trans ?_ (val_add (q:=qO p) (c:=vlL x.1) (c':=vlL y.1) (zbs x.2) (zbs y.2))
 refine zdn fun i=>?_
 rw [zdt,zaJ,zaJ,zac,zac,zac]
 unfold adR
 rw [zmO]
 by_cases hi:i<max x.1.length y.1.length
 ·rw [if_pos hi];unfold adF;rw [bZ,Int.mul_comm (vl (x.1.getD i [])),Int.mul_comm (vl (y.1.getD i []))]
 ·rw [if_neg hi,zgw (c:=x.1) (by omega),zgw (c:=y.1) (by omega),Int.mul_zero,Int.mul_zero];rfl
def smS (x y:List Int) (i:Nat):Nat→Int
 | 0=>0
 | k+1=>smS x y i k+x.getD k 0*y.getD (i-k) 0
theorem zor (a:Int) (x y:List Int) (i:Nat):∀k,smS (a :: x) y (i+1) (k+1)=a*y.getD (i+1) 0+smS x y i k
 | 0=>by simp [smS]
 | k+1=>by
  have ih:=zor a x y i k
  show smS (a :: x) y (i+1) (k+1)+x.getD k 0*y.getD (i+1-(k+1)) 0=_
  rw [ih,show i+1-(k+1)=i-k by omega,Int.add_assoc];rfl
theorem smS_nil (y:List Int) (i:Nat):∀k,smS [] y i k=0
 | 0=>rfl
 | k+1=>by unfold smS;rw [smS_nil y i k];simp
theorem zmv:∀(x y:List Int) (i:Nat),(cvZ x y).getD i 0=smS x y i (i+1)
 | [],y,i=>by rw [smS_nil];rfl
 | a :: x,y,0=>by
  show(zl8 (smZ a y) (0 :: cvZ x y)).getD 0 0=_
  rw [zdt,zaJ];simp [smS]
 | a :: x,y,i+1=>by
  show(zl8 (smZ a y) (0 :: cvZ x y)).getD (i+1) 0=_
  rw [zdt,zaJ,zor,← zmv x y i];rfl
theorem cvS_sm (x y:List (List Int)) (i:Nat):∀k,cvS x y i k=smS (vlL x) (vlL y) i k
 | 0=>rfl
 | k+1=>by unfold cvS smS;rw [cvS_sm x y i k,zac,zac]
theorem cvS_out {x y:List (List Int)} {i:Nat} (h:x.length+y.length≤i+1):∀k,k≤i+1→cvS x y i k=0
 | 0,_=>rfl
 | k+1,hk=>by
  unfold cvS
  rw [cvS_out h k (by omega)]
  by_cases hx:x.length≤k
  ·rw [zgw hx];simp
  ·rw [zgw (c:=y) (i:=i-k) (by omega)];simp
theorem ml_val {x y:List (List Int)} (i:Nat):(vlL (mlR x y (x.length+y.length-1))).getD i 0=(cvZ (vlL x) (vlL y)).getD i 0:=by
 rw [zmv,← cvS_sm,zac]
 unfold mlR
 rw [zmO]
 by_cases hi:i<x.length+y.length-1
 ·rw [if_pos hi,bZ]
 ·rw [if_neg hi,cvS_out (by omega) _ (Nat.le_refl _)];rfl
theorem mu_eq {p:List Int} {x y:zad} (hx:Gd p x) (hy:Gd p y):muO p x y=muN p x y:=by
 have h:=hx.1.1
 have ⟨n3,v3,_⟩:=zl4 h (HZ hx) (HZ hy) hx.2 hy.2
 refine low_eq h (Int.mul_ne_zero (zbs _) (zbs _)) n3 ?_
 rw [v3,zjj hx,zjj hy]
 refine Eq.trans ?_ (val_mul (q:=qO p) (qO_1 h) (c:=vlL x.1) (c':=vlL y.1) (zbs x.2) (zbs y.2))
 exact zdn ml_val
def wN:zad:=([[-1]],[1])
theorem ng_eq {p:List Int} {y:zad} (hy:Gd p y):muO p y wN=gvN (ngN (tkN p y)):=by
 have h:=hy.1.1
 have ⟨n3,v3⟩:=ng_ok (ziH h) (HZ hy)
 refine low_eq h (Int.mul_ne_zero (zbs _) (zbs _)) n3 ?_
 rw [v3,zjj hy]
 refine Eq.trans ?_ (val_neg (q:=qO p) (c:=vlL y.1) (d:=xZ y.2))
 have e:xZ wN.2=1:=rfl
 rw [e,Int.mul_one]
 refine zdn fun i=>?_
 rw [zaJ,ml_val,zmv]
 have hs:∀k,k≤i→smS (vlL y.1) (vlL wN.1) i k=0:=by
  intro k hk
  induction k with
  | zero=>rfl
  | succ k ih=>
   unfold smS
   rw [ih (by omega),show(vlL wN.1).getD (i-k) 0=0 from by
    obtain ⟨t,ht⟩:∃t,i-k=t+1:=⟨i-k-1,by omega⟩
    rw [ht];rfl]
   simp
 unfold smS
 rw [hs i (Nat.le_refl _),Nat.sub_self]
 show 0+(vlL y.1).getD i 0 * -1 = -1*(vlL y.1).getD i 0
 omega
open Go.Kf
def pRR (f:fieldK.ty) (x y:NT):Prop:=pPF f∧pB x∧pB y
def cRR (p:fieldK.ty→NT→NT→Prop) (g:List Int→NT→NT→NT) (args:List AV):M AV:=match args with
 | [r,y,z]=>do
  let f ← asK fieldK r
  let x ← asK numK y
  let x2 ← asK numK z
  tell (p f x x2)
  M.pure (.agg [.lst (.sl (.int .i64)) (g f.1 x x2).1,.sq (g f.1 x x2).2])
 | _=>fail 331
def zoV:Ctr:=(23,cRR pRR adO) :: (27,cRR pRR muO) :: (59,cK [lI (-1)] (.agg [.lst (.sl (.int .i64)) [[-1]],.sq [1]])) :: ctrB2
theorem cRR_ok {p:fieldK.ty→NT→NT→Prop} {g:List Int→NT→NT→NT} {k:FuncId} (h:∀f x y,p f x y→FC tP k [fieldK.val f,numK.val x,numK.val y] (numK.val (g f.1 x y))):jZ tP k (cRR p g):=by
 intro args _
 unfold cRR
 split
 ·exact Spec.bind (asK_spec.mono fun f hr=>Spec.bind (asK_spec.mono fun x hx=>Spec.bind (asK_spec.mono fun y hy=>Spec.bind (Spec.tell fun hp=>Spec.pure' ((h f x y hp).le (.cons hr (.cons hx (.cons hy .nil))) (Le.refl _))))))
 ·exact Spec.fail
theorem whole_m1:FC tP 59 [lI (-1)] (.agg [.lst (.sl (.int .i64)) [[-1]],.sq [1]]):=by
 have h1:pQ 20000 [(-1:Int)]:=⟨by simp,fun d hd=>by rw [List.mem_singleton.1 hd];unfold cZ;omega⟩
 have h2:pQ 20000 [(1:Int)]:=⟨by simp,fun d hd=>by rw [List.mem_singleton.1 hd];unfold cZ;omega⟩
 have e:zel [[-1]] [1]=([[-1]],[1]):=by kernel_rfl
 have:=nWh_0 (-1) (Nat.le_refl 1) (Nat.le_refl 1) (Nat.le_refl 1) ⟨⟨by simp,fun l hl=>by rw [List.mem_singleton.1 hl];exact h1⟩,h2,by decide⟩
 rw [show List.take 1 [List.take 1 [(-1:Int)]]=[[-1]] from rfl,show List.take 1 [(1:Int)]=[1] from rfl,e] at this
 exact this
theorem zcX:∀p∈zoV,jZ tP p.1 p.2:=CAll.cons (cRR_ok fun f x y h=>add_fc2 f x y h.1 h.2.1 h.2.2)<|CAll.cons (cRR_ok fun f x y h=>mul_fc2 f x y h.1 h.2.1 h.2.2)<|CAll.cons (zd2 whole_m1) zkN
theorem okB3:(eZ tP zoV bw [] kdV2).OK:=vZ zaC mixed zcX zaA
noncomputable section
theorem nSu_0 (f:fieldK.ty) (x y:zad) (h1:pRR f y ([[-OfNat.ofNat 1]],[1])) (h2:pRR f x (muO f.fst y ([[-OfNat.ofNat 1]],[1]))):FC tP 25 [fieldK.val f,numK.val x,numK.val y] (.agg [.lst KI (adO f.fst x (muO f.fst y ([[-OfNat.ofNat 1]],[1]))).fst,.sq (adO f.fst x (muO f.fst y ([[-OfNat.ofNat 1]],[1]))).snd]):=dZ okB3 60 [] (.c h1<|.c h2<|.e) [1,2]
end
open Go.Kf
theorem zmW {p:List Int} (h:za7 p) {u:NZ} (hu:Nrm (qO p) u) {m:Nat} (hb:Bd m u) (hm:m≤3000):pB (gvN u):=by
 refine ⟨?_,?_,fZ hb.1 hm⟩
 ·show((WZ u.1).map aZ).length≤40
  rw [List.length_map]
  have:=zoD hu.sh
  have:=ziH h
  omega
 ·intro l hl
  obtain ⟨z,hz,rfl⟩:=List.mem_map.1 hl
  obtain ⟨i,hi,rfl⟩:=List.getElem_of_mem hz
  have e:=zam u.1 i
  rw [List.getD_eq_getElem?_getD,List.getElem?_eq_getElem hi,Option.getD_some] at e
  exact fZ (by rw [e];exact hb.2 i) hm
theorem pB_w:pB wN:=by
 have h:∀x:Int,x.natAbs≤1→pQ 3000 [x]:=fun x hx=>⟨by simp,fun d hd=>by rw [List.mem_singleton.1 hd];unfold cZ;omega⟩
 exact ⟨by decide,fun l hl=>by rw [List.mem_singleton.1 hl];exact h _ (by decide),h _ (by decide)⟩
def pOR (f:fieldK.ty) (x y:NT):Prop:=pPF f∧pOp f.1 x y∧pB x∧pB y
theorem ad_fc3 (f:fieldK.ty) (x y:NT) (h:pOR f x y):FC tP 23 [fieldK.val f,numK.val x,numK.val y] (numK.val (adN f.1 x y)):=by
 rw [← ad_eq h.2.1.1 h.2.1.2]
 exact add_fc2 f x y h.1 h.2.2.1 h.2.2.2
theorem mu_fc3 (f:fieldK.ty) (x y:NT) (h:pOR f x y):FC tP 27 [fieldK.val f,numK.val x,numK.val y] (numK.val (muN f.1 x y)):=by
 rw [← mu_eq h.2.1.1 h.2.1.2]
 exact mul_fc2 f x y h.1 h.2.2.1 h.2.2.2
theorem su_fc3 (f:fieldK.ty) (x y:NT) (h:pOR f x y):FC tP 25 [fieldK.val f,numK.val x,numK.val y] (numK.val (suN f.1 x y)):=by
 obtain ⟨hf,⟨gx,gy⟩,bx,by'⟩:=h
 have hp:=gx.1.1
 have ⟨n2,_⟩:=ng_ok (ziH hp) (HZ gy)
 have b2:=ng_bd gy.2
 have g2:=(gv_nb hp n2 b2 (by decide)).gd (by decide)
 have b3:=zmW hp n2 b2 (by decide)
 have e:=ng_eq gy
 have e2:adO f.1 x (muO f.1 y wN)=suN f.1 x y:=by
  rw [e,ad_eq gx g2]
  unfold adN suN
  rw [tk_gv hp n2]
 rw [← e2]
 exact nSu_0 f x y ⟨hf,by',pB_w⟩ ⟨hf,bx,by show pB (muO f.1 y wN);rw [e];exact b3⟩
end Go.Proofs.YtagbldogmjhdpaaGreatDoor
end
section
open Go Go.Ev Go.RowKit
namespace Go.Proofs.YtagbldogmjhdpaaGreatDoor
open Go.Proofs
set_option maxRecDepth 100000
set_option maxHeartbeats 1000000
set_option linter.unusedVariables false
set_option linter.unusedSimpArgs false
noncomputable section
end
open Go.Kf
open Go.Kf.V (e0)
abbrev Mt3:=List (List (List Int))
def ZZ (m:Mt3) (c r:Nat):Mt3:=(m.eraseIdx c).map fun l=>l.eraseIdx r
def sgI (k:Nat) (z:Int):Int:=if k % 2=1 then -z else z
def dsR (f:Mt3→Int) (m:Mt3):Nat→Int
 | 0=>0
 | k+1=>dsR f m k+sgI k (vl ((m.getD 0 []).getD k [])*f (ZZ m 0 k))
def dtR:Nat→Mt3→Int
 | 0,_=>1
 | n+1,m=>dsR (dtR n) m (n+1)
def Mtn (n N:Nat) (m:Mt3):Prop:=m.length=n∧∀c∈m,c.length=n∧∀l∈c,pQ N l
theorem zmD {α:Type} (d:α):∀(l:List α) (k i:Nat),(l.eraseIdx k).getD i d=l.getD (skp k i) d
 | [],k,i=>by simp [skp]
 | x :: l,0,i=>by simp [skp]
 | x :: l,k+1,0=>by simp [skp]
 | x :: l,k+1,i+1=>by
  have:=zmD d l k i
  simp only [List.eraseIdx_cons_succ,List.getD_cons_succ,this]
  unfold skp
  by_cases h:i<k
  ·rw [if_pos h,if_pos (by omega)];rfl
  ·rw [if_neg h,if_neg (by omega)];rfl
theorem minR_get (m:Mt3) (c r i j:Nat):((ZZ m c r).getD j []).getD i []=((m.getD (skp c j) []).getD (skp r i) []):=by
 unfold ZZ
 have e:((m.eraseIdx c).map fun l=>l.eraseIdx r).getD j []=((m.eraseIdx c).getD j []).eraseIdx r:=by
  rw [List.getD_eq_getElem?_getD,List.getElem?_map,List.getD_eq_getElem?_getD]
  cases (m.eraseIdx c)[j]? <;> rfl
 rw [e,zmD,zmD]
theorem zmP {n N:Nat} {m:Mt3} {c r:Nat} (h:Mtn (n+1) N m) (hc:c≤n) (hr:r≤n):Mtn n N (ZZ m c r):=by
 obtain ⟨h1,h2⟩:=h
 refine ⟨?_,fun l hl=>?_⟩
 ·unfold ZZ;rw [List.length_map,List.length_eraseIdx_of_lt (by omega),h1];rfl
 ·obtain ⟨l0,hl0,rfl⟩:=List.mem_map.1 hl
  have ⟨k1,k2⟩:=h2 l0 (List.mem_of_mem_eraseIdx hl0)
  exact ⟨by rw [List.length_eraseIdx_of_lt (by omega),k1];rfl,fun x hx=>k2 x (List.mem_of_mem_eraseIdx hx)⟩
def mQ (m:Mt3) (i j:Nat):Rat:=((vl ((m.getD j []).getD i []):Int):Rat)
theorem mQ_min (m:Mt3) (c r:Nat):mQ (ZZ m c r)=fun i j=>mQ m (skp r i) (skp c j):=by
 funext i j
 unfold mQ
 rw [minR_get]
theorem zop (k:Nat) (z:Int):((sgI k z:Int):Rat)=sgn k*(z:Rat):=by
 unfold sgI sgn
 split
 ·rw [Rat.intCast_neg];grind
 ·grind
theorem znF {f:Mt3→Int} {m:Mt3} {n:Nat} (h:∀k,((f (ZZ m 0 k):Int):Rat)=det n (mQ (ZZ m 0 k))):∀k,((dsR f m k:Int):Rat)=sN k fun k=>sgn k*(mQ m k 0*det n fun i j=>mQ m (skp k i) (j+1))
 | 0=>rfl
 | k+1=>by
  unfold dsR sN
  rw [Rat.intCast_add,znF h k,zop,Rat.intCast_mul,h k,mQ_min]
  rfl
theorem zjG:∀(n:Nat) (m:Mt3),((dtR n m:Int):Rat)=det n (mQ m)
 | 0,m=>rfl
 | n+1,m=>znF (fun k=>zjG n (ZZ m 0 k)) (n+1)
theorem gD_mem {α:Type} {l:List α} {i:Nat} (d:α) (h:i<l.length):l.getD i d∈l:=by
 rw [List.getD_eq_getElem?_getD,List.getElem?_eq_getElem h];exact List.getElem_mem h
theorem sgI_sz {k i:Nat} {z:Int} (h:Sz k z):Sz k (sgI i z):=by
 unfold sgI;split
 ·exact h.neg
 ·exact h
theorem mt_q {n N:Nat} {m:Mt3} (h:Mtn n N m) (i j:Nat):pQ N ((m.getD j []).getD i []):=by
 by_cases hj:j<m.length
 ·exact zm0 (h.2 _ (gD_mem [] hj)).2 i
 ·rw [List.getD_eq_getElem?_getD (l:=m),List.getElem?_eq_none (by omega)];exact ⟨by simp,fun d hd=>by cases hd⟩
theorem dsR_sz {f:Mt3→Int} {n N A:Nat} {m:Mt3} (hm:Mtn (n+1) N m) (hf:∀m',Mtn n N m'→Sz A (f m')) (hn:n≤20):∀k,k≤n+1→Sz (N+3+A+k) (dsR f m k)
 | 0,_=>Sz.zero
 | k+1,hk=>Sz.add (dsR_sz hm hf hn k (by omega)) (sgI_sz ((mt_q hm k 0).sz.mul (hf _ (zmP hm (Nat.zero_le _) (by omega))))) (by omega) (by omega)
theorem ziW:∀ {n N:Nat} {m:Mt3},Mtn n N m→n≤20→Sz (n*(N+24)+1) (dtR n m)
 | 0,N,m,_,_=>by unfold dtR;exact Sz.lit (by decide) (by omega)
 | n+1,N,m,h,hn=>by
  have:=dsR_sz h (fun m' hm'=>ziW hm' (by omega)) (by omega) (n+1) (Nat.le_refl _)
  refine this.mono ?_
  rw [Nat.add_mul];omega
open Go.Kf
abbrev mtK:EK:=.sl (.sl (.sl (.int .i64)))
abbrev kdM:List (TypeId × EK):=(25,.sl (.sl (.int .i64))) :: kdV2
theorem zfK:(eZ tP zoV bw [] kdM).OK:=vZ zaC mixed zcX zaA
noncomputable section
abbrev zjo (s:St) (r:Ex × St):Prop:=Loops 1 tP (kZ tP 115 0) s r
abbrev zkv (a:List (List Int)) (b:List Int) (c d e:Int):St:=⟨sp 23 [(1,.lst KI a),(2,.ref 0 0),(5,aN),(6,aI 0)],[.flat [.sq b,aI c,aI d,aI e] true],[]⟩
abbrev zfv (a:List (List Int)) (b:List Int) (c d e:Int) (f:Nat) (g:Int) (i:List (List (List Int))):St:=⟨sp 23 [(1,.lst KI a),(2,.ref 0 0),(5,.own 1 0 f 1),(6,aI g)],[.flat [.sq b,aI c,aI d,aI e] true,.lst (EK.sl KI) i true],[]⟩
abbrev xMt_L0_E0 (a:List (List Int)) (b:List Int) (c d e:Int):St:=⟨sp 23 [(1,.lst KI a),(2,.ref 0 0),(5,aN),(6,aI 0)],[.flat [.sq b,aI c,aI d,aI e] true],[]⟩
abbrev zds (a:List (List Int)) (b:List Int) (c d e:Int) (f:Nat) (g:Int) (i:List (List (List Int))):St:=⟨sp 23 [(1,.lst KI a),(2,.ref 0 0),(5,.own 1 0 f 1),(6,aI g)],[.flat [.sq b,aI c,aI d,aI e] true,.lst (EK.sl KI) i true],[]⟩
theorem zrP (a:List (List Int)) (b:List Int) (d f g:Int) (h1:r64 ((b.length:Int)-1)) (h2:0<(b.length:Int)-1) (h3:(0+a.length)*24≤140737488355328) (h4:0+a.length≤4611686018427387904) (h5:0+a.length≤((List.replicate 0 []).take 0++a).length) (h6:pPF (b,d,f,g)∧pC (((List.replicate 0 []).take 0++a).take (0+a.length))) (h7:1≤List.length [rdR (b,d,f,g).fst (((List.replicate 0 []).take 0++a).take (0+a.length))]) (h8:0<(List.take 1 [rdR (b,d,f,g).fst (((List.replicate 0 []).take 0++a).take (0+a.length))]).length) (h9:(List.take 1 [rdR (b,d,f,g).fst (((List.replicate 0 []).take 0++a).take (0+a.length))]).length*24≤140737488355328) (h10:(List.take 1 [rdR (b,d,f,g).fst (((List.replicate 0 []).take 0++a).take (0+a.length))]).length≤4611686018427387904):LG zjo (zkv a b d f g) (zfv a b d f g (1) (1) ([rdR (b,d,f,g).fst (((List.replicate 0 []).take 0++a).take (0+a.length))])):=Loops.go (LS.at zfK 60 [5] [1,2,5,6] [] [1] (.i h1<|.t h2<|.t h3<|.t h4<|.c h5<|.c h6<|.c h7<|.t h8<|.t h9<|.t h10<|.e) [1,2,0,0,0,0,3,4,0,5,6,7,8,9,10,0])
theorem xMt_L0_0_1 (a:List (List Int)) (b:List Int) (c d g:Int) (h1:r64 ((b.length:Int)-1)) (h2:¬(0<(b.length:Int)-1)):zjo (zkv a b c d g) (Ex.exit 0,(xMt_L0_E0 a b c d g)):=LF (LS.at zfK 60 [] [1,2,5,6] [] [0] (.i h1<|.f h2<|.e) [1,2])
theorem zrQ (a:List (List Int)) (b:List Int) (d f g:Int) (j:Nat) (l:Int) (m:List (List (List Int))) (h1:r64 ((b.length:Int)-1)) (h2:l<(b.length:Int)-1) (h3:0≤l) (h4:l≤l) (h5:24*l≤281474976710656) (h6:l≤9223372036854775807) (h7:(l.toNat+a.length)*24≤140737488355328) (h8:l.toNat+a.length≤4611686018427387904) (h9:l.toNat≤(List.replicate l.toNat ([]:List Int)).length) (h10:l.toNat+a.length≤((List.replicate l.toNat []).take l.toNat++a).length) (h11:pPF (b,d,f,g)∧pC (((List.replicate l.toNat []).take l.toNat++a).take (l.toNat+a.length))) (h12:1≤List.length [rdR (b,d,f,g).fst (((List.replicate l.toNat []).take l.toNat++a).take (l.toNat+a.length))]) (h13:(j+(List.take 1 [rdR (b,d,f,g).fst (((List.replicate l.toNat []).take l.toNat++a).take (l.toNat+a.length))]).length)*24≤140737488355328) (h14:j+(List.take 1 [rdR (b,d,f,g).fst (((List.replicate l.toNat []).take l.toNat++a).take (l.toNat+a.length))]).length≤4611686018427387904) (h15:j≤m.length) (h16:r64 (l+1)):LG zjo (zfv a b d f g j l m) (zfv a b d f g (j+(List.take 1 [rdR (b,d,f,g).fst (((List.replicate l.toNat []).take l.toNat++a).take (l.toNat+a.length))]).length) (l+1) (m.take j++List.take 1 [rdR (b,d,f,g).fst (((List.replicate l.toNat []).take l.toNat++a).take (l.toNat+a.length))])):=Loops.go (LS.at zfK 60 [6] [1,2,5,6] [] [1] (.i h1<|.t h2<|.t h3<|.t h4<|.t h5<|.t h6<|.t h7<|.t h8<|.t h9<|.c h10<|.c h11<|.c h12<|.t h13<|.t h14<|.t h15<|.i h16<|.e) [1,2,3,4,5,6,7,8,9,10,11,12,13,14,15,16])
theorem zrR (a:List (List Int)) (b:List Int) (c d g:Int) (j:Nat) (l:Int) (m:List (List (List Int))) (h1:r64 ((b.length:Int)-1)) (h2:¬(l<(b.length:Int)-1)):zjo (zfv a b c d g j l m) (Ex.exit 0,(zds a b c d g j l m)):=LF (LS.at zfK 60 [1] [1,2,5,6] [] [0] (.i h1<|.f h2<|.e) [1,2])
theorem xMt_1 (f:fieldK.ty) (c:List (List Int)) (a:Nat) (b:Int) (d:List (List (List Int))) (hL1:zjo (zkv c f.fst f.snd.fst f.snd.snd.fst f.snd.snd.snd) (Ex.exit 0,(zds c f.fst f.snd.fst f.snd.snd.fst f.snd.snd.snd a b d))) (h2:a≤d.length):FC tP 115 [fieldK.val f,.lst (.sl (.int .i64)) c] (.lst (EK.sl KI) (d.take a)):=dZ zfK 60 [] (.v [1,2,5,6] [] hL1<|.c h2<|.e) [0,1,2]
abbrev zdr (s:St) (r:Ex × St):Prop:=Loops 0 tP (kZ tP 130 0) s r
abbrev zbX (a:List (List (List Int))) (b c d:Int):St:=⟨sp 47 [(0,.lst (EK.sl KI) a),(1,aI b),(2,aI c),(7,aN),(8,aI d)],[],[]⟩
abbrev zaY (a:List (List (List Int))) (b c:Int) (d:Nat) (e:Int) (f:List (List (List Int))):St:=⟨sp 47 [(0,.lst (EK.sl KI) a),(1,aI b),(2,aI c),(7,.own 0 0 d 1),(8,aI e)],[.lst (EK.sl KI) f true],[]⟩
abbrev ziq (a:List (List (List Int))) (b c d:Int):St:=⟨sp 47 [(0,.lst (EK.sl KI) a),(1,aI b),(2,aI c),(7,aN),(8,aI d)],[],[]⟩
abbrev zir (a:List (List (List Int))) (b c:Int) (d:Nat) (e:Int) (f:List (List (List Int))):St:=⟨sp 47 [(0,.lst (EK.sl KI) a),(1,aI b),(2,aI c),(7,.own 0 0 d 1),(8,aI e)],[.lst (EK.sl KI) f true],[]⟩
theorem zrH (a:List (List (List Int))) (b d f:Int) (h1:f<(a.length:Int)) (h2:f=b) (h3:r64 (f+1)):LG zdr (zbX a b d f) (zbX a b d (f+1)):=Loops.go (LS.at zfK 60 [] [0,1,2,7,8] [] [1,1] (.t h1<|.c (beq_iff_eq.2 h2)<|.i h3<|.e) [1,2,3])
abbrev zdp (s:St) (r:Ex × St):Prop:=Loops 0 tP (kZ tP 130 1) s r
abbrev zbq (a:List (List (List Int))) (b c d e:Int):St:=⟨sp 47 [(0,.lst (EK.sl KI) a),(1,aI b),(2,aI c),(7,aN),(8,aI d),(9,aN),(10,aI e)],[],[]⟩
abbrev zcL (a:List (List (List Int))) (b c d:Int) (e:Nat) (f:Int) (g:List (List Int)):St:=⟨sp 47 [(0,.lst (EK.sl KI) a),(1,aI b),(2,aI c),(7,aN),(8,aI d),(9,.own 0 0 e 1),(10,aI f)],[.lst KI g true],[]⟩
abbrev zfr (a:List (List (List Int))) (b c d e:Int):St:=⟨sp 47 [(0,.lst (EK.sl KI) a),(1,aI b),(2,aI c),(7,aN),(8,aI d),(9,aN),(10,aI e)],[],[]⟩
abbrev zfs (a:List (List (List Int))) (b c d:Int) (e:Nat) (f:Int) (g:List (List Int)):St:=⟨sp 47 [(0,.lst (EK.sl KI) a),(1,aI b),(2,aI c),(7,aN),(8,aI d),(9,.own 0 0 e 1),(10,aI f)],[.lst KI g true],[]⟩
theorem zrv (a:List (List (List Int))) (b d f g:Int) (h1:0≤f) (h2:f<(a.length:Int)) (h3:g<(↑((a.getD f.toNat []).length):Int)) (h4:g≠d) (h5:0≤g) (h6:1≤List.length [(a.getD f.toNat []).getD g.toNat []]) (h7:0<(List.take 1 [(a.getD f.toNat []).getD g.toNat []]).length) (h8:(List.take 1 [(a.getD f.toNat []).getD g.toNat []]).length*24≤140737488355328) (h9:(List.take 1 [(a.getD f.toNat []).getD g.toNat []]).length≤4611686018427387904) (h10:r64 (g+1)):LG zdp (zbq a b d f g) (zcL a b d f (1) (g+1) ([(a.getD f.toNat []).getD g.toNat []])):=Loops.go (LS.at zfK 60 [1] [0,1,2,7,8,9,10] [] [1,1] (.t h1<|.t h2<|.t h3<|.c (bne_iff_ne.2 h4)<|.t h5<|.c h6<|.t h7<|.t h8<|.t h9<|.i h10<|.e) [1,2,3,4,1,2,5,3,6,7,8,9,10])
theorem zrw (a:List (List (List Int))) (b d f g:Int) (h1:0≤f) (h2:f<(a.length:Int)) (h3:g<(↑((a.getD f.toNat []).length):Int)) (h4:g=d) (h5:r64 (g+1)):LG zdp (zbq a b d f g) (zbq a b d f (g+1)):=Loops.go (LS.at zfK 60 [] [0,1,2,7,8,9,10] [] [1,0] (.t h1<|.t h2<|.t h3<|.c (bne_eq_false_iff_eq.2 h4)<|.i h5<|.e) [1,2,3,4,5])
theorem zrx (a:List (List (List Int))) (b c d g:Int) (h1:0≤d) (h2:d<(a.length:Int)) (h3:¬(g<(↑((a.getD d.toNat []).length):Int))):zdp (zbq a b c d g) (Ex.exit 2,(zfr a b c d g)):=LF (LS.at zfK 60 [] [0,1,2,7,8,9,10] [] [0] (.t h1<|.t h2<|.f h3<|.e) [1,2,3])
theorem zry (a:List (List (List Int))) (b d f:Int) (g:Nat) (j:Int) (l:List (List Int)) (h1:0≤f) (h2:f<(a.length:Int)) (h3:j<(↑((a.getD f.toNat []).length):Int)) (h4:j≠d) (h5:0≤j) (h6:1≤List.length [(a.getD f.toNat []).getD j.toNat []]) (h7:(g+(List.take 1 [(a.getD f.toNat []).getD j.toNat []]).length)*24≤140737488355328) (h8:g+(List.take 1 [(a.getD f.toNat []).getD j.toNat []]).length≤4611686018427387904) (h9:g≤l.length) (h10:r64 (j+1)):LG zdp (zcL a b d f g j l) (zcL a b d f (g+(List.take 1 [(a.getD f.toNat []).getD j.toNat []]).length) (j+1) (l.take g++List.take 1 [(a.getD f.toNat []).getD j.toNat []])):=Loops.go (LS.at zfK 60 [2] [0,1,2,7,8,9,10] [] [1,1] (.t h1<|.t h2<|.t h3<|.c (bne_iff_ne.2 h4)<|.t h5<|.c h6<|.t h7<|.t h8<|.t h9<|.i h10<|.e) [1,2,3,4,1,2,5,3,6,7,8,9,10])
theorem zrz (a:List (List (List Int))) (b d f:Int) (g:Nat) (j:Int) (l:List (List Int)) (h1:0≤f) (h2:f<(a.length:Int)) (h3:j<(↑((a.getD f.toNat []).length):Int)) (h4:j=d) (h5:r64 (j+1)):LG zdp (zcL a b d f g j l) (zcL a b d f g (j+1) l):=Loops.go (LS.at zfK 60 [0] [0,1,2,7,8,9,10] [] [1,0] (.t h1<|.t h2<|.t h3<|.c (bne_eq_false_iff_eq.2 h4)<|.i h5<|.e) [1,2,3,4,5])
theorem zrA (a:List (List (List Int))) (b c d:Int) (g:Nat) (i:Int) (j:List (List Int)) (h1:0≤d) (h2:d<(a.length:Int)) (h3:¬(i<(↑((a.getD d.toNat []).length):Int))):zdp (zcL a b c d g i j) (Ex.exit 2,(zfs a b c d g i j)):=LF (LS.at zfK 60 [0] [0,1,2,7,8,9,10] [] [0] (.t h1<|.t h2<|.f h3<|.e) [1,2,3])
theorem zrI (a:List (List (List Int))) (b d f g:Int) (h1:f<(a.length:Int)) (h2:f≠b) (hL1:zdp (zbq a b d f (0)) (Ex.exit 2,(zfr a b d f g))) (h4:1≤1) (h5:r64 (f+1)):LG zdr (zbX a b d f) (zaY a b d (1) (f+1) ([[]])):=Loops.go (LS.at zfK 60 [1] [0,1,2,7,8] [] [1,0] (.t h1<|.c (beq_false_of_ne h2)<|.v [0,1,2,7,8,9,10] [] hL1<|.c h4<|.i h5<|.e) [1,2,0,3,4,0,0,0,5])
theorem zrJ (a:List (List (List Int))) (b d f:Int) (g:Nat) (j:Int) (l:List (List Int)) (h1:f<(a.length:Int)) (h2:f≠b) (hL1:zdp (zbq a b d f (0)) (Ex.exit 2,(zfs a b d f g j l))) (h4:g≤l.length) (h5:1≤List.length [l.take g]) (h6:0<(List.take 1 [l.take g]).length) (h7:(List.take 1 [l.take g]).length*24≤140737488355328) (h8:(List.take 1 [l.take g]).length≤4611686018427387904) (h9:r64 (f+1)):LG zdr (zbX a b d f) (zaY a b d (1) (f+1) ([l.take g])):=Loops.go (LS.at zfK 60 [2] [0,1,2,7,8] [] [1,0] (.t h1<|.c (beq_false_of_ne h2)<|.v [0,1,2,7,8,9,10] [] hL1<|.c h4<|.c h5<|.t h6<|.t h7<|.t h8<|.i h9<|.e) [1,2,0,3,4,5,6,7,8,9])
theorem zrK (a:List (List (List Int))) (b c d:Int) (h1:¬(d<(a.length:Int))):zdr (zbX a b c d) (Ex.exit 0,(ziq a b c d)):=LF (LS.at zfK 60 [] [0,1,2,7,8] [] [0] (.f h1<|.e) [1])
theorem zrL (a:List (List (List Int))) (b d:Int) (f:Nat) (g:Int) (j:List (List (List Int))) (h1:g<(a.length:Int)) (h2:g=b) (h3:r64 (g+1)):LG zdr (zaY a b d f g j) (zaY a b d f (g+1) j):=Loops.go (LS.at zfK 60 [0] [0,1,2,7,8] [] [1,1] (.t h1<|.c (beq_iff_eq.2 h2)<|.i h3<|.e) [1,2,3])
abbrev zdq (s:St) (r:Ex × St):Prop:=Loops 1 tP (kZ tP 130 1) s r
abbrev zbr (a:List (List (List Int))) (b c:Int) (d:Nat) (e:Int) (f:List (List (List Int))) (g:Int):St:=⟨sp 47 [(0,.lst (EK.sl KI) a),(1,aI b),(2,aI c),(7,.own 0 0 d 1),(8,aI e),(9,aN),(10,aI g)],[.lst (EK.sl KI) f true],[]⟩
abbrev zcM (a:List (List (List Int))) (b c:Int) (d:Nat) (e:Int) (f:List (List (List Int))) (g:Nat) (i:Int) (j:List (List Int)):St:=⟨sp 47 [(0,.lst (EK.sl KI) a),(1,aI b),(2,aI c),(7,.own 0 0 d 1),(8,aI e),(9,.own 1 0 g 1),(10,aI i)],[.lst (EK.sl KI) f true,.lst KI j true],[]⟩
abbrev zft (a:List (List (List Int))) (b c:Int) (d:Nat) (e:Int) (f:List (List (List Int))) (g:Int):St:=⟨sp 47 [(0,.lst (EK.sl KI) a),(1,aI b),(2,aI c),(7,.own 0 0 d 1),(8,aI e),(9,aN),(10,aI g)],[.lst (EK.sl KI) f true],[]⟩
abbrev zfu (a:List (List (List Int))) (b c:Int) (d:Nat) (e:Int) (f:List (List (List Int))) (g:Nat) (i:Int) (j:List (List Int)):St:=⟨sp 47 [(0,.lst (EK.sl KI) a),(1,aI b),(2,aI c),(7,.own 0 0 d 1),(8,aI e),(9,.own 1 0 g 1),(10,aI i)],[.lst (EK.sl KI) f true,.lst KI j true],[]⟩
theorem zrB (a:List (List (List Int))) (b d:Int) (f:Nat) (g:Int) (j:List (List (List Int))) (l:Int) (h1:0≤g) (h2:g<(a.length:Int)) (h3:l<(↑((a.getD g.toNat []).length):Int)) (h4:l≠d) (h5:0≤l) (h6:1≤List.length [(a.getD g.toNat []).getD l.toNat []]) (h7:0<(List.take 1 [(a.getD g.toNat []).getD l.toNat []]).length) (h8:(List.take 1 [(a.getD g.toNat []).getD l.toNat []]).length*24≤140737488355328) (h9:(List.take 1 [(a.getD g.toNat []).getD l.toNat []]).length≤4611686018427387904) (h10:r64 (l+1)):LG zdq (zbr a b d f g j l) (zcM a b d f g j (1) (l+1) ([(a.getD g.toNat []).getD l.toNat []])):=Loops.go (LS.at zfK 60 [2] [0,1,2,7,8,9,10] [] [1,1] (.t h1<|.t h2<|.t h3<|.c (bne_iff_ne.2 h4)<|.t h5<|.c h6<|.t h7<|.t h8<|.t h9<|.i h10<|.e) [1,2,3,4,1,2,5,3,6,7,8,9,10])
theorem zrC (a:List (List (List Int))) (b d:Int) (f:Nat) (g:Int) (j:List (List (List Int))) (l:Int) (h1:0≤g) (h2:g<(a.length:Int)) (h3:l<(↑((a.getD g.toNat []).length):Int)) (h4:l=d) (h5:r64 (l+1)):LG zdq (zbr a b d f g j l) (zbr a b d f g j (l+1)):=Loops.go (LS.at zfK 60 [] [0,1,2,7,8,9,10] [] [1,0] (.t h1<|.t h2<|.t h3<|.c (bne_eq_false_iff_eq.2 h4)<|.i h5<|.e) [1,2,3,4,5])
theorem zrD (a:List (List (List Int))) (b c:Int) (d:Nat) (g:Int) (i:List (List (List Int))) (j:Int) (h1:0≤g) (h2:g<(a.length:Int)) (h3:¬(j<(↑((a.getD g.toNat []).length):Int))):zdq (zbr a b c d g i j) (Ex.exit 2,(zft a b c d g i j)):=LF (LS.at zfK 60 [] [0,1,2,7,8,9,10] [] [0] (.t h1<|.t h2<|.f h3<|.e) [1,2,3])
theorem zrE (a:List (List (List Int))) (b d:Int) (f:Nat) (g:Int) (j:List (List (List Int))) (l:Nat) (m:Int) (n:List (List Int)) (h1:0≤g) (h2:g<(a.length:Int)) (h3:m<(↑((a.getD g.toNat []).length):Int)) (h4:m≠d) (h5:0≤m) (h6:1≤List.length [(a.getD g.toNat []).getD m.toNat []]) (h7:(l+(List.take 1 [(a.getD g.toNat []).getD m.toNat []]).length)*24≤140737488355328) (h8:l+(List.take 1 [(a.getD g.toNat []).getD m.toNat []]).length≤4611686018427387904) (h9:l≤n.length) (h10:r64 (m+1)):LG zdq (zcM a b d f g j l m n) (zcM a b d f g j (l+(List.take 1 [(a.getD g.toNat []).getD m.toNat []]).length) (m+1) (n.take l++List.take 1 [(a.getD g.toNat []).getD m.toNat []])):=Loops.go (LS.at zfK 60 [3] [0,1,2,7,8,9,10] [] [1,1] (.t h1<|.t h2<|.t h3<|.c (bne_iff_ne.2 h4)<|.t h5<|.c h6<|.t h7<|.t h8<|.t h9<|.i h10<|.e) [1,2,3,4,1,2,5,3,6,7,8,9,10])
theorem zrF (a:List (List (List Int))) (b d:Int) (f:Nat) (g:Int) (j:List (List (List Int))) (l:Nat) (m:Int) (n:List (List Int)) (h1:0≤g) (h2:g<(a.length:Int)) (h3:m<(↑((a.getD g.toNat []).length):Int)) (h4:m=d) (h5:r64 (m+1)):LG zdq (zcM a b d f g j l m n) (zcM a b d f g j l (m+1) n):=Loops.go (LS.at zfK 60 [1] [0,1,2,7,8,9,10] [] [1,0] (.t h1<|.t h2<|.t h3<|.c (bne_eq_false_iff_eq.2 h4)<|.i h5<|.e) [1,2,3,4,5])
theorem zrG (a:List (List (List Int))) (b c:Int) (d:Nat) (g:Int) (i:List (List (List Int))) (j:Nat) (l:Int) (m:List (List Int)) (h1:0≤g) (h2:g<(a.length:Int)) (h3:¬(l<(↑((a.getD g.toNat []).length):Int))):zdq (zcM a b c d g i j l m) (Ex.exit 2,(zfu a b c d g i j l m)):=LF (LS.at zfK 60 [1] [0,1,2,7,8,9,10] [] [0] (.t h1<|.t h2<|.f h3<|.e) [1,2,3])
theorem zrM (a:List (List (List Int))) (b d:Int) (f:Nat) (g:Int) (j:List (List (List Int))) (l:Int) (h1:g<(a.length:Int)) (h2:g≠b) (hL1:zdq (zbr a b d f g j (0)) (Ex.exit 2,(zft a b d f g j l))) (h4:1≤1) (h5:(f+1)*24≤140737488355328) (h6:f+1≤4611686018427387904) (h7:f≤j.length) (h8:r64 (g+1)):LG zdr (zaY a b d f g j) (zaY a b d (f+1) (g+1) (j.take f++List.take 1 [[]])):=Loops.go (LS.at zfK 60 [2] [0,1,2,7,8] [] [1,0] (.t h1<|.c (beq_false_of_ne h2)<|.v [0,1,2,7,8,9,10] [] hL1<|.c h4<|.t h5<|.t h6<|.t h7<|.i h8<|.e) [1,2,0,3,4,5,6,7,8])
theorem zrN (a:List (List (List Int))) (b d:Int) (f:Nat) (g:Int) (j:List (List (List Int))) (l:Nat) (m:Int) (n:List (List Int)) (h1:g<(a.length:Int)) (h2:g≠b) (hL1:zdq (zbr a b d f g j (0)) (Ex.exit 2,(zfu a b d f g j l m n))) (h4:l≤n.length) (h5:1≤List.length [n.take l]) (h6:(f+(List.take 1 [n.take l]).length)*24≤140737488355328) (h7:f+(List.take 1 [n.take l]).length≤4611686018427387904) (h8:f≤j.length) (h9:r64 (g+1)):LG zdr (zaY a b d f g j) (zaY a b d (f+(List.take 1 [n.take l]).length) (g+1) (j.take f++List.take 1 [n.take l])):=Loops.go (LS.at zfK 60 [3] [0,1,2,7,8] [] [1,0] (.t h1<|.c (beq_false_of_ne h2)<|.v [0,1,2,7,8,9,10] [] hL1<|.c h4<|.c h5<|.t h6<|.t h7<|.t h8<|.i h9<|.e) [1,2,0,3,4,5,6,7,8,9])
theorem zrO (a:List (List (List Int))) (b c:Int) (d:Nat) (g:Int) (i:List (List (List Int))) (h1:¬(g<(a.length:Int))):zdr (zaY a b c d g i) (Ex.exit 0,(zir a b c d g i)):=LF (LS.at zfK 60 [0] [0,1,2,7,8] [] [0] (.f h1<|.e) [1])
theorem xMn_0 (m:mtK.ty) (c r a:Int) (hL1:zdr (zbX m c r (0)) (Ex.exit 0,(ziq m c r a))):FC tP 130 [.lst (.sl (.sl (.int .i64))) m,lI c,lI r] (aN):=dZ zfK 60 [] (.v [0,1,2,7,8] [] hL1<|.e) [0,1]
theorem xMn_1 (m:mtK.ty) (c r:Int) (a:Nat) (b:Int) (d:List (List (List Int))) (hL1:zdr (zbX m c r (0)) (Ex.exit 0,(zir m c r a b d))) (h2:a≤d.length):FC tP 130 [.lst (.sl (.sl (.int .i64))) m,lI c,lI r] (.lst (EK.sl KI) (d.take a)):=dZ zfK 60 [] (.v [0,1,2,7,8] [] hL1<|.c h2<|.e) [0,1,2]
end
open Go.Kf
theorem zgu {α:Type} {d:α} {P:St→Ex × St→Prop} {x:Ex} {S0 E0:Int→St} {S1 E1:Nat→Int→List α→St} (l:List α) (r:Nat)
    (a0:∀k:Nat,k<l.length→k≠r→∀q,P (S1 1 (k+1) [l.getD k d]) q→P (S0 k) q)
    (b0:∀k:Nat,k<l.length→k=r→∀q,P (S0 (k+1)) q→P (S0 k) q)
    (c0:P (S0 l.length) (x,E0 l.length))
    (a1:∀(k:Nat) (lr:List α),k<l.length→k≠r→lr.length≤k→∀q,P (S1 (lr.length+1) (k+1) (lr++[l.getD k d])) q→P (S1 lr.length k lr) q)
    (b1:∀(k:Nat) (lr:List α),k<l.length→k=r→∀q,P (S1 lr.length (k+1) lr) q→P (S1 lr.length k lr) q)
    (c1:∀lr,P (S1 lr.length l.length lr) (x,E1 lr.length l.length lr)):∀m k:Nat,k+m=l.length →
    (∀lr,lr=(l.take k).eraseIdx r→P (S1 lr.length k lr) (x,E1 (l.eraseIdx r).length l.length (l.eraseIdx r))) ∧
    ((l.take k).eraseIdx r=[]→(l.eraseIdx r=[]→P (S0 k) (x,E0 l.length))∧(l.eraseIdx r≠[]→P (S0 k) (x,E1 (l.eraseIdx r).length l.length (l.eraseIdx r))))
  | 0,k,hk=>by
    simp_all
  | m + 1, k,hk=>by
    have hlt:k<l.length:=by omega
    obtain ⟨i1,i2⟩:=zgu l r a0 b0 c0 a1 b1 c1 m (k+1) (by omega)
    have ht:l.take (k+1)=l.take k++[l.getD k d]:=by
      simp_all
    have hl:(l.take k).length=k:=by rw [List.length_take];omega
    rw [ht] at i1 i2
    by_cases hr:k=r
    · have e:(l.take k++[l.getD k d]).eraseIdx r=l.take k:=by
        grind
      have e2:(l.take k).eraseIdx r=l.take k:=by simp_all
      rw [e] at i1 i2
      rw [e2]
      exact ⟨fun lr h=>b1 k lr hlt hr _ (i1 lr h),fun h=>⟨fun h2=>b0 k hlt hr _ ((i2 h).1 h2),fun h2=>b0 k hlt hr _ ((i2 h).2 h2)⟩⟩
    · have e:(l.take k++[l.getD k d]).eraseIdx r=(l.take k).eraseIdx r++[l.getD k d]:=by
        by_cases h:r<k
        · grind
        · rw [List.eraseIdx_append_of_length_le (by omega),List.eraseIdx_of_length_le (l:=l.take k) (by omega),List.eraseIdx_of_length_le (l:=[l.getD k d]) (by simp;omega)]
      rw [e] at i1
      have hle:((l.take k).eraseIdx r).length≤k:=by have:=List.length_eraseIdx_le (l.take k) r;omega
      refine ⟨fun lr h=>a1 k lr hlt hr (by rw [h];exact hle) _ ?_,fun h=>?_⟩
      · have:=i1 (lr++[l.getD k d]) (by rw [h])
        rw [List.length_append] at this
        exact this
      · have:=i1 [l.getD k d] (by rw [h];rfl)
        have hne:l.eraseIdx r≠[]:=fun h0=>by
          have e3:l.eraseIdx r=(l.take (k+1)++l.drop (k+1)).eraseIdx r:=by rw [List.take_append_drop]
          have e4:(l.eraseIdx r).length≠0:=by
            rw [List.length_eraseIdx]
            split
            · omega
            · omega
          rw [h0] at e4;exact e4 rfl
        exact ⟨fun h2=>absurd h2 hne,fun _=>a0 k hlt hr _ this⟩
theorem mn_in0 {m:Mt3} {c r i:Nat} (hi:i<m.length) (h5:(m.getD i []).length≤1000) :
    ((m.getD i []).eraseIdx r=[]→zdp (zbq m c r i 0) (Ex.exit 2,zfr m c r i (m.getD i []).length)) ∧
    ((m.getD i []).eraseIdx r≠[]→zdp (zbq m c r i 0) (Ex.exit 2,zfs m c r i ((m.getD i []).eraseIdx r).length (m.getD i []).length ((m.getD i []).eraseIdx r))):=by
  refine (zgu (d:=[]) (P:=zdp) (S0:=zbq m c r i) (E0:=zfr m c r i) (S1:=zcL m c r i) (E1:=zfs m c r i) (m.getD i []) r ?_ ?_ ?_ ?_ ?_ ?_ (m.getD i []).length 0 (by omega)).2 (by simp)
  · exact fun k hk hr q h=>zrv m c r i k (by omega) (by omega) (Int.ofNat_lt.2 hk) (by omega) (by omega) (by simp) (by simp) (by simp) (by simp) (by unfold r64;omega) h
  · exact fun k hk hr q h=>zrw m c r i k (by omega) (by omega) (Int.ofNat_lt.2 hk) (by omega) (by unfold r64;omega) h
  · exact zrx m c r i _ (by omega) (by omega) (fun h=>absurd (Int.ofNat_lt.1 h) (Nat.lt_irrefl _))
  · exact fun k lr hk hr hl q h=>by
      have:=@zry m c r i lr.length k lr (by omega) (by omega) (Int.ofNat_lt.2 hk) (by omega) (by omega) (by simp) (by simp;omega) (by simp;omega) (Nat.le_refl _) (by unfold r64;omega) q
      simp_all
  · exact fun k lr hk hr q h=>zrz m c r i lr.length k lr (by omega) (by omega) (Int.ofNat_lt.2 hk) (by omega) (by unfold r64;omega) h
  · exact fun lr=>zrA m c r i lr.length _ lr (by omega) (by omega) (fun h=>absurd (Int.ofNat_lt.1 h) (Nat.lt_irrefl _))
theorem mn_in1 {m:Mt3} {c r i n:Nat} {o:Mt3} (hi:i<m.length) (h5:(m.getD i []).length≤1000) :
    ((m.getD i []).eraseIdx r=[]→zdq (zbr m c r n i o 0) (Ex.exit 2,zft m c r n i o (m.getD i []).length)) ∧
    ((m.getD i []).eraseIdx r≠[]→zdq (zbr m c r n i o 0) (Ex.exit 2,zfu m c r n i o ((m.getD i []).eraseIdx r).length (m.getD i []).length ((m.getD i []).eraseIdx r))):=by
  refine (zgu (d:=[]) (P:=zdq) (S0:=zbr m c r n i o) (E0:=zft m c r n i o) (S1:=zcM m c r n i o) (E1:=zfu m c r n i o) (m.getD i []) r ?_ ?_ ?_ ?_ ?_ ?_ (m.getD i []).length 0 (by omega)).2 (by simp)
  · exact fun k hk hr q h=>zrB m c r n i o k (by omega) (by omega) (Int.ofNat_lt.2 hk) (by omega) (by omega) (by simp) (by simp) (by simp) (by simp) (by unfold r64;omega) h
  · exact fun k hk hr q h=>zrC m c r n i o k (by omega) (by omega) (Int.ofNat_lt.2 hk) (by omega) (by unfold r64;omega) h
  · exact zrD m c r n i o _ (by omega) (by omega) (fun h=>absurd (Int.ofNat_lt.1 h) (Nat.lt_irrefl _))
  · exact fun k lr hk hr hl q h=>by
      have:=@zrE m c r n i o lr.length k lr (by omega) (by omega) (Int.ofNat_lt.2 hk) (by omega) (by omega) (by simp) (by simp;omega) (by simp;omega) (Nat.le_refl _) (by unfold r64;omega) q
      simp_all
  · exact fun k lr hk hr q h=>zrF m c r n i o lr.length k lr (by omega) (by omega) (Int.ofNat_lt.2 hk) (by omega) (by unfold r64;omega) h
  · exact fun lr=>zrG m c r n i o lr.length _ lr (by omega) (by omega) (fun h=>absurd (Int.ofNat_lt.1 h) (Nat.lt_irrefl _))
theorem map_era {α β:Type} (f:α→β):∀(l:List α) (c:Nat),(l.map f).eraseIdx c=(l.eraseIdx c).map f
 | [],_=>rfl
 | _ :: _,0=>rfl
 | x :: l,c+1=>by simp [map_era f l c]
theorem minor_fc (m:Mt3) (c r:Nat) (h1:m.length≤1000) (h2:∀l∈m,l.length≤1000):FC tP 130 [.lst (.sl (.sl (.int .i64))) m,lI c,lI r] (.lst (.sl (.sl (.int .i64))) (ZZ m c r)):=by
 have hl:(m.map fun l=>l.eraseIdx r).length=m.length:=List.length_map _
 have hg:∀k,k<m.length→(m.map fun l=>l.eraseIdx r).getD k []=(m.getD k []).eraseIdx r:=fun k hk=>by
  simp_all
 have h5:∀k,k<m.length→(m.getD k []).length≤1000:=fun k hk=>h2 _ (gD_mem [] hk)
 have L:=(zgu (d:=[]) (P:=zdr) (x:=Ex.exit 0) (S0:=zbX m c r) (E0:=ziq m c r) (S1:=zaY m c r) (E1:=zir m c r) (m.map fun l=>l.eraseIdx r) c (by
  rw [hl]
  intro k hk hc q h
  rw [hg k hk] at h
  by_cases he:(m.getD k []).eraseIdx r=[]
  ·rw [he] at h
   exact zrI m c r k _ (by omega) (by omega) ((mn_in0 hk (h5 k hk)).1 he) (Nat.le_refl 1) (by unfold r64;omega) h
  ·refine zrJ m c r k _ _ _ (by omega) (by omega) ((mn_in0 hk (h5 k hk)).2 he) (Nat.le_refl _) (by simp) (by simp) (by simp) (by simp) (by unfold r64;omega) ?_
   simp_all) (by
  rw [hl]
  exact fun k hk hc q h=>zrH m c r k (by omega) (by omega) (by unfold r64;omega) h) (by
  rw [hl]
  exact zrK m c r _ (by omega)) (by
  rw [hl]
  intro k lr hk hc hle q h
  rw [hg k hk] at h
  by_cases he:(m.getD k []).eraseIdx r=[]
  ·rw [he] at h
   refine zrM m c r lr.length k lr _ (by omega) (by omega) ((mn_in1 hk (h5 k hk)).1 he) (Nat.le_refl 1) (by omega) (by omega) (Nat.le_refl _) (by unfold r64;omega) ?_
   simp_all
  ·refine zrN m c r lr.length k lr _ _ _ (by omega) (by omega) ((mn_in1 hk (h5 k hk)).2 he) (Nat.le_refl _) (by simp) (by simp;omega) (by simp;omega) (Nat.le_refl _) (by unfold r64;omega) ?_
   simp_all) (by
  rw [hl]
  exact fun k lr hk hc q h=>zrL m c r lr.length k lr (by omega) (by omega) (by unfold r64;omega) h) (by
  rw [hl]
  exact fun lr=>zrO m c r lr.length _ lr (by omega)) m.length 0 (by rw [hl];omega)).2 (by simp)
 have e:ZZ m c r=(m.map fun l=>l.eraseIdx r).eraseIdx c:=(map_era _ m c).symm
 rw [e]
 by_cases he:(m.map fun l=>l.eraseIdx r).eraseIdx c=[]
 ·rw [he]
  exact(xMn_0 m c r _ (L.1 he)).le (LeL.refl _) (zeg _)
 ·have:=xMn_1 m c r _ _ _ (L.2 he) (Nat.le_refl _)
  simp_all
def mtR (p:List Int) (c:List (List Int)) (n:Nat):Mt3:=(List.range n).map fun k=>rdR p (List.replicate k []++c)
theorem rp_tk (c:List (List Int)) (k:Nat):((List.replicate (Int.toNat (k:Int)) ([]:List Int)).take (Int.toNat (k:Int))++c).take (Int.toNat (k:Int)+c.length)=List.replicate k []++c:=by
 rw [Int.toNat_natCast,List.take_of_length_le (l:=List.replicate k []) (by simp),List.take_of_length_le (by simp)]
theorem rp_pC {c:List (List Int)} {k N:Nat} (hk:k≤5) (hc:c.length≤60) (hq:∀l∈c,pQ N l) (hN:N≤20000):pC (List.replicate k []++c):=
 ⟨by grind,fun l hl=>by
  rcases List.mem_append.1 hl with h | h
  ·rw [List.eq_of_mem_replicate h];exact ⟨by simp,fun d hd=>by cases hd⟩
  ·exact(hq l h).mono hN⟩
theorem mt_loop {p:List Int} {a b d:Int} {c:List (List Int)} {n:Nat} (hn:p.length=n+1) (hf:pPF (p,a,b,d)) (hc:c.length≤60) (hq:∀l∈c,pQ 20000 l):∀m k:Nat,k+m=n→1≤k →
 zjo (zfv c p a b d k k (mtR p c k)) (Ex.exit 0,zds c p a b d n n (mtR p c n))
 | 0,k,hk,_=>by
  obtain rfl:k=n:=by omega
  exact zrR c p a b d k k _ (by unfold r64;have h5:p.length≤5:=hf.2.1;omega) (by omega)
 | m + 1,k,hk,h1=>by
  have h5:p.length≤5:=hf.2.1
  have ih:=mt_loop (a:=a) (b:=b) (d:=d) hn hf hc hq m (k+1) (by omega) (by omega)
  have hl:(mtR p c k).length=k:=by simp [mtR]
  have e:=rp_tk c k
  have go:=@zrQ c p a b d k k (mtR p c k) (by unfold r64;omega) (by omega) (by omega) (Int.le_refl _) (by omega) (by omega) (by omega) (by omega) (by simp) (by simp)
   ⟨hf,by rw [e];exact rp_pC (by omega) hc hq (Nat.le_refl _)⟩ (by simp) (show(k+1)*24≤_ by omega) (show k+1≤_ by omega) (by omega) (by unfold r64;omega) (Ex.exit 0,zds c p a b d n n (mtR p c n))
  rw [e,List.take_of_length_le (l:=mtR p c k) (by omega)] at go
  refine go ?_
  have key:mtR p c (k+1)=mtR p c k++List.take 1 [rdR p (List.replicate k []++c)]:=by
   unfold mtR;rw [List.range_succ,List.map_append];rfl
  rw [key] at ih
  exact ih
theorem matrix_fc (f:fieldK.ty) (c:List (List Int)) (hf:pPF f) (hc:c.length≤60) (hq:∀l∈c,pQ 20000 l):FC tP 115 [fieldK.val f,.lst (.sl (.int .i64)) c] (.lst (.sl (.sl (.int .i64))) (mtR f.1 c (f.1.length-1))):=by
 obtain ⟨p,a,b,d⟩:=f
 have h2:2≤p.length:=hf.1
 have h5:p.length≤5:=hf.2.1
 obtain ⟨n,hn⟩:∃n,p.length=n+1:=⟨p.length-1,by omega⟩
 have L:=mt_loop (a:=a) (b:=b) (d:=d) hn hf hc hq (n-1) 1 (by omega) (by omega)
 have e:=rp_tk c 0
 have go:=@zrP c p a b d (by unfold r64;omega) (by omega) (by omega) (by omega) (by simp) ⟨hf,by
  have:=rp_pC (k:=0) (by decide) hc hq (Nat.le_refl _)
  simp_all⟩ (by simp) (by simp) (by simp) (by simp) (Ex.exit 0,zds c p a b d n n (mtR p c n))
 have e':(((List.replicate 0 ([]:List Int)).take 0++c).take (0+c.length))=List.replicate 0 []++c:=e
 rw [e'] at go
 have:=xMt_1 (p,a,b,d) c n n (mtR p c n) (go L) (by simp [mtR])
 rw [List.take_of_length_le (by simp [mtR])] at this
 simp_all
def pMn (m:Mt3) (c r:Int):Prop:=0≤c∧0≤r∧m.length≤1000∧∀l∈m,l.length≤1000
def cMn (args:List AV):M AV:=match args with
 | [x,y,z]=>do
  let m ← asK mtK x
  let c ← asK (.int .i64) y
  let r ← asK (.int .i64) z
  tell (pMn m c r)
  M.pure (.lst (.sl (.sl (.int .i64))) (ZZ m c.toNat r.toNat))
 | _=>fail 350
def ctrDm (q:Mt3→Prop) (g:Mt3→Int):Ctr:=(114,cD1 mtK q (fun m=>.ni (g m))) :: (130,cMn) :: zoV
theorem cMn_ok:jZ tP 130 cMn:=by
 intro args _
 unfold cMn
 split
 ·refine Spec.bind (asK_spec.mono fun m hm=>Spec.bind (asK_spec.mono fun c hc=>Spec.bind (asK_spec.mono fun r hr=>Spec.bind (Spec.tell fun h=>Spec.pure' ?_))))
  have:=minor_fc m c.toNat r.toNat h.2.2.1 h.2.2.2
  rw [Int.toNat_of_nonneg h.1,Int.toNat_of_nonneg h.2.1] at this
  exact this.le (.cons hm (.cons hc (.cons hr .nil))) (Le.refl _)
 ·exact Spec.fail
theorem okDm {q:Mt3→Prop} {g:Mt3→Int} (h:∀m,q m→FC tP 114 [.lst (.sl (.sl (.int .i64))) m] (.ni (g m))):(eZ tP (ctrDm q g) bw [] kdM).OK:=vZ zaC mixed (CAll.cons (zer h)<|CAll.cons cMn_ok zcX) zaA
noncomputable section
theorem dm_0 (q:Mt3→Prop) (g:Mt3→Int) (h:∀m,q m→FC tP 114 [.lst (.sl (.sl (.int .i64))) m] (.ni (g m))) (m:mtK.ty) (h1:(m.length:Int)=0) (h2:1≤1):FC tP 114 [.lst (.sl (.sl (.int .i64))) m] (.sq [1]):=dZ (okDm h) 60 [1] (.c (beq_iff_eq.2 h1)<|.c h2<|.e) [1,2]
abbrev zmA (s:St) (r:Ex × St):Prop:=Loops 0 tP (kZ tP 114 0) s r
abbrev zmB (a:List (List (List Int))):St:=⟨sp 36 [(0,.lst (EK.sl KI) a),(3,aN),(4,aI 0)],[],[]⟩
abbrev zd9 (a:List (List (List Int))) (b c:Int):St:=⟨sp 36 [(0,.lst (EK.sl KI) a),(3,.ni b),(4,aI c)],[],[]⟩
abbrev dm_L0_E0 (a:List (List (List Int))):St:=⟨sp 36 [(0,.lst (EK.sl KI) a),(3,aN),(4,aI 0)],[],[]⟩
abbrev zdv (a:List (List (List Int))) (b c:Int):St:=⟨sp 36 [(0,.lst (EK.sl KI) a),(3,.ni b),(4,aI c)],[],[]⟩
theorem dm_L0_0_0 {q:Mt3→Prop} {g:Mt3→Int} (h:∀m,q m→FC tP 114 [.lst (.sl (.sl (.int .i64))) m] (.ni (g m))) (a:List (List (List Int))) (h1:0<(a.length:Int)) (h2:0<(↑((a.getD 0 []).length):Int)) (h3:pMn a 0 0) (h4:q (ZZ a 0 0)) (h5:pMu ((a.getD 0 []).getD 0 []) (aZ (g (ZZ a 0 0)))) (h6:pAd [] (aZ (vl ((a.getD 0 []).getD 0 [])*vl (aZ (g (ZZ a 0 0)))))):LG zmA (zmB a) (zd9 a (0+vl (aZ (vl ((a.getD 0 []).getD 0 [])*vl (aZ (g (ZZ a 0 0)))))) (1)):=Loops.go (LS.at (okDm h) 60 [] [0,3,4] [] [1] (.t h1<|.t h2<|.c h3<|.c h4<|.c h5<|.c h6<|.e) [1,0,1,0,2,3,4,5,0,6,0])
theorem dm_L0_0_1 {q:Mt3→Prop} {g:Mt3→Int} (h:∀m,q m→FC tP 114 [.lst (.sl (.sl (.int .i64))) m] (.ni (g m))) (a:List (List (List Int))) (h1:¬(0<(a.length:Int))):zmA (zmB a) (Ex.exit 0,(dm_L0_E0 a)):=LF (LS.at (okDm h) 60 [] [0,3,4] [] [0] (.f h1<|.e) [1])
theorem dm_L0_1_0 {q:Mt3→Prop} {g:Mt3→Int} (h:∀m,q m→FC tP 114 [.lst (.sl (.sl (.int .i64))) m] (.ni (g m))) (a:List (List (List Int))) (b d:Int) (h1:d<(a.length:Int)) (h2:0<(a.length:Int)) (h3:0≤d) (h4:d<(↑((a.getD 0 []).length):Int)) (h5:pMn a 0 d) (h6:q (ZZ a 0 d.toNat)) (h7:pMu ((a.getD 0 []).getD d.toNat []) (aZ (g (ZZ a 0 d.toNat)))) (h8:Int.tmod d 2=1) (h9:pX (aZ (vl ((a.getD 0 []).getD d.toNat [])*vl (aZ (g (ZZ a 0 d.toNat)))))) (h10:pAd (aZ b) (aZ (-vl (aZ (vl ((a.getD 0 []).getD d.toNat [])*vl (aZ (g (ZZ a 0 d.toNat)))))))) (h11:r64 (d+1)):LG zmA (zd9 a b d) (zd9 a (vl (aZ b)+vl (aZ (-vl (aZ (vl ((a.getD 0 []).getD d.toNat [])*vl (aZ (g (ZZ a 0 d.toNat)))))))) (d+1)):=Loops.go (LS.at (okDm h) 60 [] [0,3,4] [] [1,1] (.t h1<|.t h2<|.t h3<|.t h4<|.c h5<|.c h6<|.c h7<|.c (beq_iff_eq.2 h8)<|.c h9<|.c h10<|.i h11<|.e) [1,0,2,3,4,5,6,7,0,8,9,10,11])
theorem dm_L0_1_1 {q:Mt3→Prop} {g:Mt3→Int} (h:∀m,q m→FC tP 114 [.lst (.sl (.sl (.int .i64))) m] (.ni (g m))) (a:List (List (List Int))) (b d:Int) (h1:d<(a.length:Int)) (h2:0<(a.length:Int)) (h3:0≤d) (h4:d<(↑((a.getD 0 []).length):Int)) (h5:pMn a 0 d) (h6:q (ZZ a 0 d.toNat)) (h7:pMu ((a.getD 0 []).getD d.toNat []) (aZ (g (ZZ a 0 d.toNat)))) (h8:Int.tmod d 2≠1) (h9:pAd (aZ b) (aZ (vl ((a.getD 0 []).getD d.toNat [])*vl (aZ (g (ZZ a 0 d.toNat)))))) (h10:r64 (d+1)):LG zmA (zd9 a b d) (zd9 a (vl (aZ b)+vl (aZ (vl ((a.getD 0 []).getD d.toNat [])*vl (aZ (g (ZZ a 0 d.toNat)))))) (d+1)):=Loops.go (LS.at (okDm h) 60 [] [0,3,4] [] [1,0] (.t h1<|.t h2<|.t h3<|.t h4<|.c h5<|.c h6<|.c h7<|.c (beq_false_of_ne h8)<|.c h9<|.i h10<|.e) [1,0,2,3,4,5,6,7,0,8,9,10])
theorem dm_L0_1_2 {q:Mt3→Prop} {g:Mt3→Int} (h:∀m,q m→FC tP 114 [.lst (.sl (.sl (.int .i64))) m] (.ni (g m))) (a:List (List (List Int))) (b c:Int) (h1:¬(c<(a.length:Int))):zmA (zd9 a b c) (Ex.exit 0,(zdv a b c)):=LF (LS.at (okDm h) 60 [] [0,3,4] [] [0] (.f h1<|.e) [1])
theorem dm_2 (q:Mt3→Prop) (g:Mt3→Int) (h:∀m,q m→FC tP 114 [.lst (.sl (.sl (.int .i64))) m] (.ni (g m))) (m:mtK.ty) (a b:Int) (h1:(m.length:Int)≠0) (hL1:zmA (zmB m) (Ex.exit 0,(zdv m a b))):FC tP 114 [.lst (.sl (.sl (.int .i64))) m] (.ni a):=dZ (okDm h) 60 [0] (.c (beq_false_of_ne h1)<|.v [0,3,4] [] hL1<|.e) [1,0,2]
end
open Go.Kf
theorem dt_c {n N:Nat} {m:Mt3} (hm:Mtn (n+1) N m) (hn:n≤3) (hN:N≤5000) (k:Nat) (hk:k≤n) :
 pMu ((m.getD 0 []).getD k []) (aZ (dtR n (ZZ m 0 k)))∧Sz 30000 (vl ((m.getD 0 []).getD k [])*dtR n (ZZ m 0 k))∧Sz 30000 (dsR (dtR n) m k)∧Mtn n N (ZZ m 0 k)∧pMn m 0 k∧k<(m.getD 0 []).length:=by
 have h0:0<m.length:=by rw [hm.1];omega
 have hq:=mt_q hm k 0
 have hmn:=zmP (c:=0) (r:=k) hm (Nat.zero_le _) hk
 have h20:n*(N+24)+1≤15073:=by
  have:n*(N+24)≤3*5024:=Nat.mul_le_mul hn (by omega)
  omega
 have hs:=ziW hmn (by omega)
 have hs2:=dsR_sz hm (A:=n*(N+24)+1) (fun m' h'=>ziW h' (by omega)) (by omega) k (by omega)
 have hl:=(hm.2 _ (gD_mem [] h0)).1
 refine ⟨⟨hq.mono (by omega),fZ hs (by omega)⟩,(hq.sz.mul hs).mono (by omega),hs2.mono (by omega),hmn,⟨by omega,by omega,by rw [hm.1];omega,fun l hl=>by rw [(hm.2 l hl).1];omega⟩,by omega⟩
theorem dt_loop {n N:Nat} {m:Mt3} (h:∀m',Mtn n N m'→FC tP 114 [.lst (.sl (.sl (.int .i64))) m'] (.ni (dtR n m'))) (hm:Mtn (n+1) N m) (hn:n≤3) (hN:N≤5000):∀j k:Nat,k+j=n+1→1≤k →
    zmA (zd9 m (dsR (dtR n) m k) k) (Ex.exit 0,zdv m (dtR (n+1) m) (n+1:Nat))
  | 0,k,hk,_=>by
    obtain rfl:k=n+1:=by omega
    exact dm_L0_1_2 h m _ _ (by rw [hm.1];omega)
  | j + 1,k,hk,h1=>by
    have ih:=dt_loop h hm hn hN j (k+1) (by omega) (by omega)
    obtain ⟨c1,c2,c3,c4,c5,c6⟩:=dt_c hm hn hN k (by omega)
    have e1:Int.toNat (k:Int)=k:=rfl
    have hm2:Int.tmod (k:Int) 2=((k % 2:Nat):Int):=rfl
    have q1:pAd (aZ (dsR (dtR n) m k)) (aZ (vl ((m.getD 0 []).getD k [])*vl (aZ (dtR n (ZZ m 0 k))))):=⟨fZ c3 (by decide),by rw [bZ];exact fZ c2 (by decide)⟩
    by_cases hp:k % 2=1
    · have go:=@dm_L0_1_0 _ _ h m (dsR (dtR n) m k) k (by rw [hm.1];omega) (by rw [hm.1];omega) (by omega) (Int.ofNat_lt.2 c6) c5 (by rw [e1];exact c4) (by rw [e1];exact c1) (by rw [hm2];omega) (by rw [e1,bZ];exact fZ c2 (by decide))
        ⟨q1.1,by rw [e1,bZ,bZ];exact fZ c2.neg (by decide)⟩ (by unfold r64;omega) (Ex.exit 0,zdv m (dtR (n+1) m) (n+1:Nat))
      rw [e1,bZ,bZ,bZ,bZ] at go
      refine go ?_
      have e:dsR (dtR n) m (k+1)=dsR (dtR n) m k + -(vl ((m.getD 0 []).getD k [])*dtR n (ZZ m 0 k)):=by show _+sgI k _=_;unfold sgI;rw [if_pos hp]
      rw [e] at ih
      exact ih
    · have go:=@dm_L0_1_1 _ _ h m (dsR (dtR n) m k) k (by rw [hm.1];omega) (by rw [hm.1];omega) (by omega) (Int.ofNat_lt.2 c6) c5 (by rw [e1];exact c4) (by rw [e1];exact c1) (by rw [hm2];omega)
        ⟨q1.1,by rw [e1];exact q1.2⟩ (by unfold r64;omega) (Ex.exit 0,zdv m (dtR (n+1) m) (n+1:Nat))
      rw [e1,bZ,bZ,bZ] at go
      refine go ?_
      have e:dsR (dtR n) m (k+1)=dsR (dtR n) m k+vl ((m.getD 0 []).getD k [])*dtR n (ZZ m 0 k):=by show _+sgI k _=_;unfold sgI;rw [if_neg hp]
      rw [e] at ih
      exact ih
theorem det_fc {N:Nat} (hN:N≤5000):∀(n:Nat) (m:Mt3),n≤4→Mtn n N m→FC tP 114 [.lst (.sl (.sl (.int .i64))) m] (.ni (dtR n m))
 | 0,m,_,hm=>by
  have:=dm_0 (fun _=>False) (fun _=>0) (fun _ h=>h.elim) m (by rw [hm.1];rfl) (Nat.le_refl _)
  exact this.res fun E v hv=>hv.toNi (l:=[1]) rfl rfl
 | n+1,m,hn,hm=>by
  have h:=fun m' hm'=>det_fc hN n m' (by omega) hm'
  obtain ⟨c1,c2,c3,c4,c5,c6⟩:=dt_c hm (by omega) hN 0 (Nat.zero_le _)
  have L:=dt_loop h hm (by omega) hN n 1 (by omega) (Nat.le_refl _)
  have go:=@dm_L0_0_0 _ _ h m (by rw [hm.1];omega) (Int.ofNat_lt.2 c6) c5 c4 c1 ⟨⟨by simp,fun d hd=>by cases hd⟩,by rw [bZ];exact fZ c2 (by decide)⟩ (Ex.exit 0,zdv m (dtR (n+1) m) (n+1:Nat))
  rw [bZ,bZ] at go
  exact dm_2 _ _ h m _ _ (by rw [hm.1];omega) (go L)
def pDt3 (m:Mt3):Prop:=m.length≤4∧Mtn m.length 5000 m
theorem det_fc2 (m:Mt3) (h:pDt3 m):FC tP 114 [.lst (.sl (.sl (.int .i64))) m] (.ni (dtR m.length m)):=det_fc (Nat.le_refl _) _ m h.1 h.2
def pMtx (f:fieldK.ty) (c:List (List Int)):Prop:=pPF f∧c.length≤60∧∀l∈c,pQ 20000 l
def ctrM4:Ctr:=(115,cD2 fieldK (.sl (.sl (.int .i64))) pMtx (fun f c=>.lst (.sl (.sl (.int .i64))) (mtR f.1 c (f.1.length-1)))) :: (114,cD1 mtK pDt3 (fun m=>.ni (dtR m.length m))) :: (130,cMn) :: zoV
theorem ctrM4_all:∀p∈ctrM4,jZ tP p.1 p.2:=CAll.cons (zb5 fun f c h=>matrix_fc f c h.1 h.2.1 h.2.2)<|CAll.cons (zer det_fc2)<|CAll.cons cMn_ok zcX
theorem okM4:(eZ tP ctrM4 bw [] kdM).OK:=vZ zaC mixed ctrM4_all zaA
noncomputable section
abbrev zmL (s:St) (r:Ex × St):Prop:=Loops 3 tP (kZ tP 83 0) s r
abbrev zmM (a:List (List (List Int))) (b:List Int) (c d e:Int) (f:List (List Int)) (g:List Int):St:=⟨sp 41 [(3,.ref 1 0),(4,.ref 2 0),(5,.lst (EK.sl KI) a),(6,aN),(7,aI 0)],[.flat [.sq b,aI c,aI d,aI e] true,.flat [.lst KI f,.sq g] true,.flat [aN,aN] true],[]⟩
abbrev zed (a:List (List (List Int))) (b:List Int) (c d e:Int) (f:List (List Int)) (g:List Int) (i:Nat) (j:Int) (l:List (List Int)):St:=⟨sp 41 [(3,.ref 1 0),(4,.ref 2 0),(5,.lst (EK.sl KI) a),(6,.own 3 0 i 1),(7,aI j)],[.flat [.sq b,aI c,aI d,aI e] true,.flat [.lst KI f,.sq g] true,.flat [aN,aN] true,.lst KI l true],[]⟩
abbrev iv_L0_E0 (a:List (List (List Int))) (b:List Int) (c d e:Int) (f:List (List Int)) (g:List Int):St:=⟨sp 41 [(3,.ref 1 0),(4,.ref 2 0),(5,.lst (EK.sl KI) a),(6,aN),(7,aI 0)],[.flat [.sq b,aI c,aI d,aI e] true,.flat [.lst KI f,.sq g] true,.flat [aN,aN] true],[]⟩
abbrev zdz (a:List (List (List Int))) (b:List Int) (c d e:Int) (f:List (List Int)) (g:List Int) (i:Nat) (j:Int) (l:List (List Int)):St:=⟨sp 41 [(3,.ref 1 0),(4,.ref 2 0),(5,.lst (EK.sl KI) a),(6,.own 3 0 i 1),(7,aI j)],[.flat [.sq b,aI c,aI d,aI e] true,.flat [.lst KI f,.sq g] true,.flat [aN,aN] true,.lst KI l true],[]⟩
theorem iv_L0_0_0 (a:List (List (List Int))) (b:List Int) (d f g:Int) (i:List (List Int)) (j:List Int) (h1:0<(a.length:Int)) (h2:pMn a 0 0) (h3:pDt3 (ZZ a 0 0)) (h4:pQ 20000 (i,j).snd) (h5:pMu (aZ (dtR (ZZ a 0 0).length (ZZ a 0 0))) (aZ (xZ (i,j).snd))) (h6:1≤List.length [aZ (vl (aZ (dtR (ZZ a 0 0).length (ZZ a 0 0)))*vl (aZ (xZ (i,j).snd)))]) (h7:0<(List.take 1 [aZ (vl (aZ (dtR (ZZ a 0 0).length (ZZ a 0 0)))*vl (aZ (xZ (i,j).snd)))]).length) (h8:(List.take 1 [aZ (vl (aZ (dtR (ZZ a 0 0).length (ZZ a 0 0)))*vl (aZ (xZ (i,j).snd)))]).length*24≤140737488355328) (h9:(List.take 1 [aZ (vl (aZ (dtR (ZZ a 0 0).length (ZZ a 0 0)))*vl (aZ (xZ (i,j).snd)))]).length≤4611686018427387904):LG zmL (zmM a b d f g i j) (zed a b d f g i j (1) (1) ([aZ (vl (aZ (dtR (ZZ a 0 0).length (ZZ a 0 0)))*vl (aZ (xZ (i,j).snd)))])):=Loops.go (LS.at okM4 60 [4] [3,4,5,6,7] [] [1] (.t h1<|.c h2<|.c h3<|.c h4<|.c h5<|.c h6<|.t h7<|.t h8<|.t h9<|.e) [1,2,3,4,5,0,6,7,8,9,0])
theorem iv_L0_0_1 (a:List (List (List Int))) (b:List Int) (c d g:Int) (i:List (List Int)) (j:List Int) (h1:¬(0<(a.length:Int))):zmL (zmM a b c d g i j) (Ex.exit 0,(iv_L0_E0 a b c d g i j)):=LF (LS.at okM4 60 [] [3,4,5,6,7] [] [0] (.f h1<|.e) [1])
theorem iv_L0_1_0 (a:List (List (List Int))) (b:List Int) (d f g:Int) (j:List (List Int)) (l:List Int) (m:Nat) (n:Int) (o:List (List Int)) (h1:n<(a.length:Int)) (h2:pMn a n 0) (h3:pDt3 (ZZ a n.toNat 0)) (h4:pQ 20000 (j,l).snd) (h5:pMu (aZ (dtR (ZZ a n.toNat 0).length (ZZ a n.toNat 0))) (aZ (xZ (j,l).snd))) (h6:Int.tmod n 2=1) (h7:pX (aZ (vl (aZ (dtR (ZZ a n.toNat 0).length (ZZ a n.toNat 0)))*vl (aZ (xZ (j,l).snd))))) (h8:1≤List.length [aZ (-vl (aZ (vl (aZ (dtR (ZZ a n.toNat 0).length (ZZ a n.toNat 0)))*vl (aZ (xZ (j,l).snd)))))]) (h9:(m+(List.take 1 [aZ (-vl (aZ (vl (aZ (dtR (ZZ a n.toNat 0).length (ZZ a n.toNat 0)))*vl (aZ (xZ (j,l).snd)))))]).length)*24≤140737488355328) (h10:m+(List.take 1 [aZ (-vl (aZ (vl (aZ (dtR (ZZ a n.toNat 0).length (ZZ a n.toNat 0)))*vl (aZ (xZ (j,l).snd)))))]).length≤4611686018427387904) (h11:m≤o.length) (h12:r64 (n+1)):LG zmL (zed a b d f g j l m n o) (zed a b d f g j l (m+(List.take 1 [aZ (-vl (aZ (vl (aZ (dtR (ZZ a n.toNat 0).length (ZZ a n.toNat 0)))*vl (aZ (xZ (j,l).snd)))))]).length) (n+1) (o.take m++List.take 1 [aZ (-vl (aZ (vl (aZ (dtR (ZZ a n.toNat 0).length (ZZ a n.toNat 0)))*vl (aZ (xZ (j,l).snd)))))])):=Loops.go (LS.at okM4 60 [5] [3,4,5,6,7] [] [1,1] (.t h1<|.c h2<|.c h3<|.c h4<|.c h5<|.c (beq_iff_eq.2 h6)<|.c h7<|.c h8<|.t h9<|.t h10<|.t h11<|.i h12<|.e) [1,2,3,4,5,0,6,7,8,9,10,11,12])
theorem iv_L0_1_1 (a:List (List (List Int))) (b:List Int) (d f g:Int) (j:List (List Int)) (l:List Int) (m:Nat) (n:Int) (o:List (List Int)) (h1:n<(a.length:Int)) (h2:pMn a n 0) (h3:pDt3 (ZZ a n.toNat 0)) (h4:pQ 20000 (j,l).snd) (h5:pMu (aZ (dtR (ZZ a n.toNat 0).length (ZZ a n.toNat 0))) (aZ (xZ (j,l).snd))) (h6:Int.tmod n 2≠1) (h7:1≤List.length [aZ (vl (aZ (dtR (ZZ a n.toNat 0).length (ZZ a n.toNat 0)))*vl (aZ (xZ (j,l).snd)))]) (h8:(m+(List.take 1 [aZ (vl (aZ (dtR (ZZ a n.toNat 0).length (ZZ a n.toNat 0)))*vl (aZ (xZ (j,l).snd)))]).length)*24≤140737488355328) (h9:m+(List.take 1 [aZ (vl (aZ (dtR (ZZ a n.toNat 0).length (ZZ a n.toNat 0)))*vl (aZ (xZ (j,l).snd)))]).length≤4611686018427387904) (h10:m≤o.length) (h11:r64 (n+1)):LG zmL (zed a b d f g j l m n o) (zed a b d f g j l (m+(List.take 1 [aZ (vl (aZ (dtR (ZZ a n.toNat 0).length (ZZ a n.toNat 0)))*vl (aZ (xZ (j,l).snd)))]).length) (n+1) (o.take m++List.take 1 [aZ (vl (aZ (dtR (ZZ a n.toNat 0).length (ZZ a n.toNat 0)))*vl (aZ (xZ (j,l).snd)))])):=Loops.go (LS.at okM4 60 [5] [3,4,5,6,7] [] [1,0] (.t h1<|.c h2<|.c h3<|.c h4<|.c h5<|.c (beq_false_of_ne h6)<|.c h7<|.t h8<|.t h9<|.t h10<|.i h11<|.e) [1,2,3,4,5,0,6,7,8,9,10,11])
theorem iv_L0_1_2 (a:List (List (List Int))) (b:List Int) (c d g:Int) (i:List (List Int)) (j:List Int) (l:Nat) (m:Int) (n:List (List Int)) (h1:¬(m<(a.length:Int))):zmL (zed a b c d g i j l m n) (Ex.exit 0,(zdz a b c d g i j l m n)):=LF (LS.at okM4 60 [3] [3,4,5,6,7] [] [0] (.f h1<|.e) [1])
theorem iv_1 (f:fieldK.ty) (x:zad) (a:Nat) (b:Int) (d:List (List Int)) (h1:pPF f∧pC x.fst) (h2:pMtx f (rdR f.fst x.fst)) (hL1:zmL (zmM (mtR f.fst (rdR f.fst x.fst) (f.fst.length-1)) f.fst f.snd.fst f.snd.snd.fst f.snd.snd.snd x.fst x.snd) (Ex.exit 0,(zdz (mtR f.fst (rdR f.fst x.fst) (f.fst.length-1)) f.fst f.snd.fst f.snd.snd.fst f.snd.snd.snd x.fst x.snd a b d))) (h4:pDt3 (mtR f.fst (rdR f.fst x.fst) (f.fst.length-1))) (h5:a≤d.length) (h6:pLw (d.take a) (aZ (dtR (mtR f.fst (rdR f.fst x.fst) (f.fst.length-1)).length (mtR f.fst (rdR f.fst x.fst) (f.fst.length-1))))):FC tP 83 [fieldK.val f,numK.val x] (.agg [.lst KI (zel (d.take a) (aZ (dtR (mtR f.fst (rdR f.fst x.fst) (f.fst.length-1)).length (mtR f.fst (rdR f.fst x.fst) (f.fst.length-1))))).fst,.sq (zel (d.take a) (aZ (dtR (mtR f.fst (rdR f.fst x.fst) (f.fst.length-1)).length (mtR f.fst (rdR f.fst x.fst) (f.fst.length-1))))).snd]):=dZ okM4 60 [] (.c h1<|.c h2<|.v [3,4,5,6,7] [] hL1<|.c h4<|.c h5<|.c h6<|.e) [1,2,0,3,4,5,6]
end
open Go.Kf
def pSx (x:zad):Prop:=x.1.length≤10∧(∀l∈x.1,pQ 30 l)∧pQ 30 x.2
theorem rdR_q {p:List Int} {c:List (List Int)} {A:Nat} (hp:∀x∈p,x.natAbs≤1000) (hl:A+5*c.length≤90000) (hc:∀l∈c,pQ A l):∀l∈rdR p c,pQ (A+5*c.length) l:=fun l h=>by
 have:=oG_q (n:=p.length-1) hp (c.length-(p.length-1)) A (c++List.replicate (p.length-1-c.length) []) (fun l h=>by
  rcases List.mem_append.1 h with h | h
  ·exact hc l h
  ·rw [List.eq_of_mem_replicate h];exact ⟨by simp,fun d hd=>by cases hd⟩) (by omega) l (List.mem_of_mem_take h)
 exact this.mono (by omega)
theorem mtR_mt {p:List Int} {c:List (List Int)} {A:Nat} (hp:∀x∈p,x.natAbs≤1000) (h5:p.length≤5) (h2:c.length≤100) (hA:A≤5000) (hc:∀l∈c,pQ A l):Mtn (p.length-1) (A+5*(c.length+4)) (mtR p c (p.length-1)):=by
 refine ⟨by simp [mtR],fun l hl=>?_⟩
 obtain ⟨k,hk,rfl⟩:=List.mem_map.1 hl
 have hk:=List.mem_range.1 hk
 refine ⟨zfN,fun x hx=>?_⟩
 have hlen:(List.replicate k ([]:List Int)++c).length=k+c.length:=by simp
 have:=rdR_q (A:=A) (c:=List.replicate k []++c) hp (by omega) (fun l hl=>by
  rcases List.mem_append.1 hl with h | h
  ·rw [List.eq_of_mem_replicate h];exact ⟨by simp,fun d hd=>by cases hd⟩
  ·exact hc l h) x hx
 exact this.mono (by omega)
theorem Mtn.mono {n N M:Nat} {m:Mt3} (h:Mtn n N m) (hN:N≤M):Mtn n M m:=⟨h.1,fun c hc=>⟨(h.2 c hc).1,fun l hl=>((h.2 c hc).2 l hl).mono hN⟩⟩
def cofI (m:Mt3) (b:Int) (i:Nat):Int:=sgI i (dtR (ZZ m i 0).length (ZZ m i 0)*b)
def zfF (m:Mt3) (b:Int) (k:Nat):List (List Int):=(List.range k).map fun i=>aZ (cofI m b i)
theorem cof_c {n:Nat} {m:Mt3} {d:List Int} (hm:Mtn (n+1) 120 m) (hn:n≤3) (hd:pQ 30 d) (i:Nat) (hi:i≤n) :
 pMn m i 0∧pDt3 (ZZ m i 0)∧pMu (aZ (dtR (ZZ m i 0).length (ZZ m i 0))) (aZ (xZ d))∧Sz 500 (dtR (ZZ m i 0).length (ZZ m i 0)*xZ d):=by
 have hmn:=zmP (c:=i) (r:=0) hm hi (Nat.zero_le _)
 have h20:n*(120+24)+1≤433:=by
  omega
 have hs:=ziW hmn (by omega)
 have sb:=zfY hd (by decide)
 rw [hmn.1]
 exact ⟨⟨by omega,by omega,by rw [hm.1];omega,fun l hl=>by rw [(hm.2 l hl).1];omega⟩,⟨by rw [hmn.1];omega,by rw [hmn.1];exact hmn.mono (by decide)⟩,⟨fZ hs (by omega),fZ sb (by decide)⟩,(hs.mul sb).mono (by omega)⟩
theorem iv_loop {n:Nat} {m:Mt3} {p:List Int} {a b d:Int} {x:zad} (hm:Mtn (n+1) 120 m) (hn:n≤3) (hd:pQ 30 x.2):∀j k:Nat,k+j=n+1→1≤k →
    zmL (zed m p a b d x.1 x.2 k k (zfF m (xZ x.2) k)) (Ex.exit 0,zdz m p a b d x.1 x.2 (n+1:Nat) (n+1:Nat) (zfF m (xZ x.2) (n+1)))
  | 0,k,hk,_=>by
    obtain rfl:k=n+1:=by omega
    exact iv_L0_1_2 m p a b d x.1 x.2 _ _ _ (by rw [hm.1];omega)
  | j + 1,k,hk,h1=>by
    have ih:=iv_loop (p:=p) (a:=a) (b:=b) (d:=d) hm hn hd j (k+1) (by omega) (by omega)
    obtain ⟨c1,c2,c3,c4⟩:=cof_c hm hn hd k (by omega)
    have e1:Int.toNat (k:Int)=k:=rfl
    have hm2:Int.tmod (k:Int) 2=((k % 2:Nat):Int):=rfl
    have hl:(zfF m (xZ x.2) k).length=k:=by simp [zfF]
    have key:zfF m (xZ x.2) (k+1)=(zfF m (xZ x.2) k).take k++List.take 1 [aZ (cofI m (xZ x.2) k)]:=zkh k
    rw [key] at ih
    unfold cofI sgI at ih
    by_cases hp:k % 2=1
    · have go:=@iv_L0_1_0 m p a b d x.1 x.2 k k (zfF m (xZ x.2) k) (by rw [hm.1];omega) c1 (by rw [e1];exact c2) (hd.mono (by decide)) (by rw [e1];exact c3) (by rw [hm2];omega)
        (by rw [e1,bZ,bZ];exact fZ c4 (by decide)) (Nat.le_refl 1) (show(k+1)*24≤_ by omega) (show k+1≤_ by omega) (by omega) (by unfold r64;omega) (Ex.exit 0,zdz m p a b d x.1 x.2 (n+1:Nat) (n+1:Nat) (zfF m (xZ x.2) (n+1)))
      rw [e1,bZ,bZ,bZ] at go
      simp_all
    · have go:=@iv_L0_1_1 m p a b d x.1 x.2 k k (zfF m (xZ x.2) k) (by rw [hm.1];omega) c1 (by rw [e1];exact c2) (hd.mono (by decide)) (by rw [e1];exact c3) (by rw [hm2];omega)
        (Nat.le_refl 1) (show(k+1)*24≤_ by omega) (show k+1≤_ by omega) (by omega) (by unfold r64;omega) (Ex.exit 0,zdz m p a b d x.1 x.2 (n+1:Nat) (n+1:Nat) (zfF m (xZ x.2) (n+1)))
      rw [e1,bZ,bZ] at go
      simp_all
def mtX (p:List Int) (x:zad):Mt3:=mtR p (rdR p x.1) (p.length-1)
def ivO (p:List Int) (x:zad):zad:=zel (zfF (mtX p x) (xZ x.2) (p.length-1)) (aZ (dtR (p.length-1) (mtX p x)))
theorem mtX_mt {p:List Int} {x:zad} (hp:∀x∈p,x.natAbs≤1000) (h5:p.length≤5) (hx:pSx x):Mtn (p.length-1) 120 (mtX p x):=by
 have hx1:=hx.1
 have hq:=rdR_q hp (by omega) hx.2.1
 have hl:(rdR p x.1).length=p.length-1:=zfN
 have h0:=mtR_mt (c:=rdR p x.1) (A:=30+5*x.1.length) hp h5 (by omega) (by omega) hq
 refine ⟨h0.1,fun c hc=>⟨(h0.2 c hc).1,fun l hl2=>((h0.2 c hc).2 l hl2).mono (by omega)⟩⟩
theorem zo7 (f:fieldK.ty) (x:zad) (hf:pPF f) (hx:pSx x) (hd:dtR (f.1.length-1) (mtX f.1 x)≠0):FC tP 83 [fieldK.val f,numK.val x] (numK.val (ivO f.1 x)):=by
 obtain ⟨p,a,b,d⟩:=f
 have h2:2≤p.length:=hf.1
 have h5:p.length≤5:=hf.2.1
 have hp:∀x∈p,x.natAbs≤1000:=hf.2.2
 replace hd:dtR (p.length-1) (mtX p x)≠0:=hd
 obtain ⟨n,hn⟩:∃n,p.length-1=n+1:=⟨p.length-2,by omega⟩
 have hx1:=hx.1
 have hm:=mtX_mt hp h5 hx
 have hq:=rdR_q hp (by omega) hx.2.1
 have hl:(rdR p x.1).length=p.length-1:=zfN
 have hM:mtR p (rdR p x.1) (p.length-1)=mtX p x:=rfl
 show FC tP 83 _ (numK.val (ivO p x))
 unfold ivO
 have hds:=ziW hm (by omega)
 generalize mtX p x=m at *
 rw [hn] at hm hd hds ⊢
 have h20:(n+1)*(120+24)+1≤577:=by
  omega
 obtain ⟨c1,c2,c3,c4⟩:=cof_c hm (by omega) hx.2.2 0 (Nat.zero_le _)
 have L:=iv_loop (p:=p) (a:=a) (b:=b) (d:=d) hm (by omega) hx.2.2 n 1 (by omega) (Nat.le_refl _)
 have go:=@iv_L0_0_0 m p a b d x.1 x.2 (by rw [hm.1];omega) c1 c2 (hx.2.2.mono (by decide)) c3 (Nat.le_refl 1) (by decide:(0:Nat)<1) (by decide:(1:Nat)*24≤_) (by decide:(1:Nat)≤_) (Ex.exit 0,zdz m p a b d x.1 x.2 (n+1:Nat) (n+1:Nat) (zfF m (xZ x.2) (n+1)))
 rw [bZ,bZ] at go
 have tk:(zfF m (xZ x.2) (n+1)).take (n+1)=zfF m (xZ x.2) (n+1):=List.take_of_length_le (by simp [zfF])
 have hlw:pLw (zfF m (xZ x.2) (n+1)) (aZ (dtR (n+1) m)):=⟨⟨by simp [zfF];omega,fun l hl=>by
  obtain ⟨i,hi,rfl⟩:=List.mem_map.1 hl
  have hi:=List.mem_range.1 hi
  obtain ⟨_,_,_,c4⟩:=cof_c hm (by omega) hx.2.2 i (by omega)
  exact fZ (sgI_sz c4) (by decide)⟩,fZ hds (by omega),by rw [bZ];exact hd⟩
 have:=iv_1 (p,a,b,d) x (n+1) (n+1:Nat) (zfF m (xZ x.2) (n+1)) ⟨hf,by omega,fun l hl=>(hx.2.1 l hl).mono (by decide)⟩ ⟨hf,(by grind),fun l hl=>(hq l hl).mono (by omega)⟩
 rw [hM,hm.1] at this
 have:=this (go L) ⟨by rw [hm.1];omega,by rw [hm.1];exact hm.mono (by decide)⟩ (by simp [zfF]) (by rw [tk];exact hlw)
 rw [tk] at this
 exact this
end Go.Proofs.YtagbldogmjhdpaaGreatDoor
end
section
open Go Go.Ev Go.RowKit
namespace Go.Proofs.YtagbldogmjhdpaaGreatDoor
open Go.Proofs
set_option maxRecDepth 100000
set_option maxHeartbeats 1000000
set_option linter.unusedVariables false
set_option linter.unusedSimpArgs false
noncomputable section
end
open Go.Kf
theorem pv_cast (z:Int):∀l:List Int,pvQ (qL l) (z:Rat)=((pv l z:Int):Rat)
 | []=>rfl
 | c :: l=>by
  show(c:Rat)+(z:Rat)*pvQ (qL l) z=((pv l z*z+c:Int):Rat)
  rw [pv_cast z l,Rat.intCast_add,Rat.intCast_mul,Rat.add_comm,Rat.mul_comm]
theorem qL_snoc (q:List Int):qL (q++[1])=qL q++[1]:=by simp [qL]
theorem int2 {u v:Int} {t:Rat} (h:t*t=(u:Rat)*t+(v:Rat)):∃z:Int,t=z:=by
 refine zkj (l:=[-v,-u]) ?_
 have e:qL [-v,-u]++[1]=[-(v:Rat),-(u:Rat),1]:=by simp [qL,Rat.intCast_neg]
 rw [e]
 simp only [pvQ]
 grind
theorem irr_of {p:List Int} (h2:2≤p.length) (h5:p.length≤5) (h1:p.getD (p.length-1) 0=1) (hr:¬Red p):Irr (qL (qO p)++[1]):=by
 have hp:p=qO p++[1]:=by
  have hl:p.length-1<p.length:=by omega
  have:p[p.length-1]=1:=by rw [List.getD_eq_getElem?_getD,List.getElem?_eq_getElem hl] at h1;exact h1
  have e:=List.take_succ_eq_append_getElem hl
  rw [this,show p.length-1+1=p.length by omega,List.take_length] at e
  exact e
 have hroot:p.length≠2→∀t,pvQ (qL (qO p)++[1]) t≠0:=fun hn t ht=>by
  obtain ⟨z,rfl⟩:=zkj ht
  rw [← qL_snoc,← hp,pv_cast] at ht
  exact hr ⟨hn,.inl ⟨z,Rat.intCast_inj.1 ht⟩⟩
 refine ⟨fun hn=>hroot fun h=>?_,fun q0 q1 q2 q3 hP a b c d e3 e2 e1 e0=>?_⟩
 ·rw [List.length_append,zbA,List.length_take,List.length_singleton] at hn
  omega
 ·rw [← qL_snoc,← hp] at hP
  match p,hP with
  | [p0, p1,p2,p3,p4],hP=>
   simp only [qL,List.map_cons,List.map_nil,List.cons.injEq,and_true] at hP
   obtain ⟨rfl,rfl,rfl,rfl,_⟩:=hP
   have hs:∃S:Int,b+d=S:=by
    refine zkj (l:=[4*p0*p2-p1*p1-p0*(p3*p3),p1*p3-4*p0,-p2]) ?_
    have e:qL [4*p0*p2-p1*p1-p0*(p3*p3),p1*p3-4*p0,-p2]++[1]=[4*(p0:Rat)*p2-p1*p1-p0*(p3*p3),p1*p3-4*p0,-(p2:Rat),1]:=by
     simp [qL,Rat.intCast_sub,Rat.intCast_mul,Rat.intCast_neg]
    rw [e]
    simp only [pvQ]
    generalize (p0:Rat)=x0 at *
    generalize (p1:Rat)=x1 at *
    generalize (p2:Rat)=x2 at *
    generalize (p3:Rat)=x3 at *
    subst e0 e1 e2 e3
    grind
   obtain ⟨S,hS⟩:=hs
   obtain ⟨B,rfl⟩:=int2 (u:=S) (v:=-p0) (t:=b) (by rw [Rat.intCast_neg,← hS];grind)
   have hD:d=((S-B:Int):Rat):=by rw [Rat.intCast_sub];grind
   obtain ⟨A,rfl⟩:=int2 (u:=p3) (v:=S-p2) (t:=a) (by rw [Rat.intCast_sub];grind)
   have hC:c=((p3-A:Int):Rat):=by rw [Rat.intCast_sub];grind
   subst hD hC
   have i0:p0=B*(S-B):=Rat.intCast_inj.1 (by rw [Rat.intCast_mul];exact e0)
   have i2:p2=B+(S-B)+A*(p3-A):=Rat.intCast_inj.1 (by rw [Rat.intCast_add,Rat.intCast_add,Rat.intCast_mul];exact e2)
   have i1:p1=A*(S-B)+B*(p3-A):=Rat.intCast_inj.1 (by rw [Rat.intCast_add,Rat.intCast_mul,Rat.intCast_mul];exact e1)
   refine hr ⟨by simp,?_⟩
   by_cases hz:p0=0
   ·left;exact ⟨0,zj4 hz⟩
   ·right
    have hB:B≠0:=fun h=>by rw [h,Int.zero_mul] at i0;exact hz i0
    refine ⟨rfl,B,hB,⟨S-B,i0⟩,A,?_,?_⟩
    ·show B+Int.tdiv p0 B+A*(p3-A)=p2
     rw [i0,Int.mul_tdiv_cancel_left _ hB];exact i2.symm
    ·show A*Int.tdiv p0 B+B*(p3-A)=p1
     rw [i0,Int.mul_tdiv_cancel_left _ hB];exact i1.symm
open Go.Kf
def pIvO (f:fieldK.ty) (x:zad):Prop:=pPF f∧pSx x∧dtR (f.1.length-1) (mtX f.1 x)≠0
def ctrM5:Ctr:=(21,cD2 fieldK numK (fun f x=>pPF f∧pB x) (fun f x=>.agg [.lst (.sl (.int .i64)) (noR f.1 x).1,.sq (noR f.1 x).2])) :: (83,cD2 fieldK numK pIvO (fun f x=>.agg [.lst (.sl (.int .i64)) (ivO f.1 x).1,.sq (ivO f.1 x).2])) :: zoV
theorem ctrM5_all:∀p∈ctrM5,jZ tP p.1 p.2:=CAll.cons (zb5 fun f x h=>zi8 f x h.1 h.2)<|CAll.cons (zb5 fun f x h=>zo7 f x h.1 h.2.1 h.2.2) zcX
theorem okM5:(eZ tP ctrM5 bw [] kdV2).OK:=vZ zaC mixed ctrM5_all zaA
noncomputable section
theorem qu_0 (f:fieldK.ty) (x y:zad) (h1:pPF f∧pB y) (h2:(↑((noR f.fst y).fst.length):Int)=0):FC tP 18 [fieldK.val f,numK.val x,numK.val y] (.tup [.agg [aN,aN],aI 12]):=dZ okM5 60 [1] (.c h1<|.c (beq_iff_eq.2 h2)<|.e) [1,2]
theorem qu_1 (f:fieldK.ty) (x y:zad) (h1:pPF f∧pB y) (h2:(↑((noR f.fst y).fst.length):Int)≠0) (h3:pIvO f y) (h4:pRR f x (ivO f.fst y)):FC tP 18 [fieldK.val f,numK.val x,numK.val y] (.tup [.agg [.lst KI (muO f.fst x (ivO f.fst y)).fst,.sq (muO f.fst x (ivO f.fst y)).snd],aI 0]):=dZ okM5 60 [0] (.c h1<|.c (beq_false_of_ne h2)<|.c h3<|.c h4<|.e) [1,2,3,4]
end
open Go.Kf
open Go.Kf.V (e0)
def ivW (p:List Int) (y:zad):NZ:=zb8 (vlL (zfF (mtX p y) (xZ y.2) (p.length-1))) (dtR (p.length-1) (mtX p y))
theorem ivO_eq {p:List Int} {y:zad} (h5:p.length≤5) (hd:dtR (p.length-1) (mtX p y)≠0):ivO p y=gvN (ivW p y):=by
 unfold ivO ivW
 rw [lowR_eq (by simp [zfF];omega) (by rw [bZ];exact hd),bZ]
theorem ev_rd {p:List Int} (hP:za7 p) (c:List (List Int)):ev (qO p).length (pV (qO p)) (qL (vlL (rdR p c)))=ev (qO p).length (pV (qO p)) (qL (vlL c)):=by
 have h1:=zgF hP (c:=vlL c) (d:=1)
 rw [← zdn (q:=qO p) (d:=1) (rdR_vl p c)] at h1
 unfold val at h1
 have h2:=congrArg (V.sm ((1:Int):Rat)) h1
 rw [zb3,zb3,Rat.mul_inv_cancel _ (za8 (d:=1) (by decide)),zf8,zf8] at h2
 exact h2
theorem znG {n:Nat} {P:V} (l:List Rat):∀j,ev n P (List.replicate j 0++l)=Tn n P j (ev n P l)
 | 0=>rfl
 | j+1=>by
  show V.add (V.sm 0 e0) (T n P (ev n P (List.replicate j 0++l)))=T n P (Tn n P j (ev n P l))
  rw [znG l j,zak];exact LZ _
theorem mtX_col {p:List Int} (hP:za7 p) (y:zad) {j:Nat} (hj:j<p.length-1) (i:Nat):mQ (mtX p y) i j=mx (qO p).length (pV (qO p)) (ev (qO p).length (pV (qO p)) (qL (vlL y.1))) i j:=by
 have hl:=zdT hP
 have hg:(mtX p y).getD j []=rdR p (List.replicate j []++rdR p y.1):=by
  unfold mtX mtR
  simp_all
 have e1:qL (vlL (List.replicate j []++rdR p y.1))=List.replicate j 0++qL (vlL (rdR p y.1)):=by
  rw [vlL_app]
  have:vlL (List.replicate j [])=List.replicate j 0:=by unfold vlL;rw [List.map_replicate];rfl
  rw [this]
  simp [qL]
 have e2:=congrFun (ev_rd hP (List.replicate j []++rdR p y.1)) i
 rw [e1,znG,ev_rd hP y.1,zdw (by rw [zbA,zbd,zfN];omega)] at e2
 replace e2:(qL (vlL (rdR p (List.replicate j []++rdR p y.1)))).getD i 0=_:=e2
 rw [zbz] at e2
 show _=Tn _ _ j _ i
 rw [← e2]
 unfold mQ
 rw [hg,zac]
theorem zha:∀(n:Nat) {m m':Nat→Nat→Rat},(∀i j,j<n→m i j=m' i j)→det n m=det n m'
 | 0,_,_,_=>rfl
 | n+1,m,m',h=>zcF _ fun k _=>by
  rw [h k 0 (by omega),zha n (m:=fun i j=>m (skp k i) (j+1)) (m':=fun i j=>m' (skp k i) (j+1)) fun i j hj=>h _ _ (by omega)]
theorem cof_congr {n:Nat} {m m':Nat→Nat→Rat} (h:∀i j,j<n→m i j=m' i j) (i:Nat):cof n m i=cof n m' i:=by
 unfold cof
 rw [zha (n-1) (m:=fun r c=>m (r+1) (skp i c)) (m':=fun r c=>m' (r+1) (skp i c)) fun r c hc=>h _ _ (by unfold skp;split<;>omega)]
theorem cofI_cast {n:Nat} {m:Mt3} (hm:m.length=n+1) (b:Int) {i:Nat} (hi:i≤n):((cofI m b i:Int):Rat)=cof (n+1) (mQ m) i*(b:Rat):=by
 have hl:(ZZ m i 0).length=n:=by unfold ZZ;grind
 unfold cofI cof
 rw [zop,Rat.intCast_mul,hl,zjG,mQ_min,show n+1-1=n by omega,← Rat.mul_assoc]
 rfl
theorem ivW_ok {p:List Int} (hP:za7 p) (hI:Irr (qL (qO p)++[1])) {y:zad} (hy:Gd p y) (hs:pSx y) (hz:nv (qO p) (tkN p y)≠V.zero) :
 dtR (p.length-1) (mtX p y)≠0∧Nrm (qO p) (ivW p y)∧Go.Kf.mul (qO p).length (pV (qO p)) (nv (qO p) (ivW p y)) (nv (qO p) (tkN p y))=e0∧Bd 600 (ivW p y):=by
 have h1:=qO_1 hP
 have h4:=ziH hP
 have hl:=zdT hP
 have h5:=hP.2.1
 obtain ⟨n,hn⟩:∃n,p.length-1=n+1:=⟨p.length-2,by have:=hP.1;omega⟩
 have hm:=mtX_mt hP.2.2 h5 hs
 have hb0:=zbs y.2
 have hbR:((xZ y.2:Int):Rat)≠0:=za8 hb0
 have hf:=zjj hy
 unfold val at hf
 have hcol:=fun i j (hj:j<p.length-1)=>mtX_col hP y hj i
 generalize hF:ev (qO p).length (pV (qO p)) (qL (vlL y.1))=F0 at *
 have hS:Sup (qO p).length F0:=by rw [← hF];exact zfo h1 _
 have hF0:F0≠V.zero:=fun h=>hz (by rw [hf,h,zb4])
 have hdet:=det_ne h1 h4 hI hS hF0
 have hdc:((dtR (p.length-1) (mtX p y):Int):Rat)=det (qO p).length (mx (qO p).length (pV (qO p)) F0):=by
  rw [zjG,hl]
  exact zha _ fun i j hj=>by rw [hcol i j hj,hl]
 have hd:dtR (p.length-1) (mtX p y)≠0:=fun h=>hdet (by rw [← hdc,h];rfl)
 have hlen:(vlL (zfF (mtX p y) (xZ y.2) (p.length-1))).length=(qO p).length:=by rw [zbd,hl];simp [zfF]
 have hsh:zmg (qO p) (vlL (zfF (mtX p y) (xZ y.2) (p.length-1))):=zm6 (by omega)
 have hget:∀i,i<p.length-1→(vlL (zfF (mtX p y) (xZ y.2) (p.length-1))).getD i 0=cofI (mtX p y) (xZ y.2) i:=fun i hi=>by
  rw [zac];unfold zfF;rw [zmO,if_pos hi,bZ]
 have hvW:nv (qO p) (ivW p y)=V.sm (((xZ y.2:Int):Rat)*(det (qO p).length (mx (qO p).length (pV (qO p)) F0))⁻¹) (cofV (qO p).length (mx (qO p).length (pV (qO p)) F0)):=by
  unfold ivW
  rw [zef h4 hd hsh]
  unfold val
  rw [zdw (by rw [zbA,hlen];exact Nat.le_refl _),hdc]
  funext i
  show _*(qL (vlL (zfF (mtX p y) (xZ y.2) (p.length-1)))).getD i 0=_*(if i<(qO p).length then _ else 0)
  rw [zbz]
  by_cases hi:i<(qO p).length
  ·rw [if_pos hi,hget i (by omega),cofI_cast (n:=n) (by rw [hm.1,hn]) _ (by omega)]
   rw [show n+1=(qO p).length by omega,cof_congr (m':=mx (qO p).length (pV (qO p)) F0) (fun i j hj=>hcol i j (by omega)) i]
   grind
  ·rw [if_neg hi,hsh i (by omega)]
   simp
 refine ⟨hd,zee h4 hd hsh,?_,?_⟩
 ·rw [hvW,hf,zkp h1 _ (zou _) (zdm hS),zi6,cof_mul h1 h4 hS,zb3,zb3]
  have e:((xZ y.2:Int):Rat)*(det (qO p).length (mx (qO p).length (pV (qO p)) F0))⁻¹*((xZ y.2:Int):Rat)⁻¹*det (qO p).length (mx (qO p).length (pV (qO p)) F0)=1:=by
   grind
  rw [e];exact zf8 _
 ·refine zlk hd ?_ fun i=>?_
  ·have:=ziW hm (by omega)
   refine this.mono ?_
   omega
  ·by_cases hi:i<p.length-1
   ·rw [hget i hi]
    rw [hn] at hm
    obtain ⟨_,_,_,c4⟩:=cof_c hm (by omega) hs.2.2 i (by omega)
    exact(sgI_sz c4).mono (by decide)
   ·rw [hsh i (by omega)];exact Sz.zero
def isZ (u:NZ):Prop:=WZ u.1=[]
instance {u:NZ}:Decidable (isZ u):=inferInstanceAs (Decidable (WZ u.1=[]))
theorem zmK {p:List Int} {u:NZ} (hu:Nrm (qO p) u):isZ u↔nv (qO p) u=V.zero:=by
 have hp:=hu.pos
 have hR:=za8 (d:=u.2) (by omega)
 constructor
 ·intro h
  unfold nv val
  rw [ev_get u.1 [] fun i=>by rw [← zam,show WZ u.1=[] from h]]
  exact zb4 _
 ·intro h
  unfold nv val at h
  rw [znH fun i hi=>by rw [zbz,hu.sh i hi];rfl] at h
  have hz:∀i,u.1.getD i 0=0:=fun i=>by
   have h2:=congrFun h i
   replace h2:((u.2:Int):Rat)⁻¹*(qL u.1).getD i 0=0:=h2
   rw [zbz] at h2
   have h3:=congrArg (fun r=>((u.2:Int):Rat)*r) h2
   simp only [← Rat.mul_assoc,Rat.mul_inv_cancel _ hR,Rat.one_mul,Rat.mul_zero] at h3
   simp_all
  refine zoC (b:=[]) (zcg _) (.inl rfl) fun i=>?_
  rw [zam,hz i];rfl
def quN (p:List Int) (x y:NT):NT:=if isZ (tkN p y) then([],[]) else gvN (tmN p (tkN p x) (ivW p y))
def quE (p:List Int) (y:NT):Int:=if isZ (tkN p y) then 12 else 0
def quA (p:List Int) (x y:NT):AV:=.tup [.agg [.lst (.sl (.int .i64)) (quN p x y).1,.sq (quN p x y).2],lI (quE p y)]
def pQu (p:List Int) (x y:NT):Prop:=Irr (qL (qO p)++[1])∧Gd p x∧Gd p y∧pSx y
theorem quo_fc3 (f:fieldK.ty) (x y:NT) (h:pPF f∧pQu f.1 x y∧pB x∧pB y):FC tP 18 [fieldK.val f,numK.val x,numK.val y] (quA f.1 x y):=by
 obtain ⟨hf,⟨hI,gx,gy,sy⟩,bx,by'⟩:=h
 have hP:=gx.1.1
 have hN:(noR f.1 y).1.length=(WZ (tkN f.1 y).1).length:=by rw [no_eq hP];exact List.length_map _
 by_cases hz:isZ (tkN f.1 y)
 ·have:=qu_0 f x y ⟨hf,by'⟩ (by rw [hN,show WZ (tkN f.1 y).1=[] from hz];rfl)
  unfold quA quN quE
  rw [if_pos hz,if_pos hz]
  exact this.res fun E v hv=>hv.tup2 (fun _ hu=>hu.agg2 (fun _ h=>zeg _ E _ h) (fun _ h=>h.toSq (l:=[]) rfl)) fun _ hu=>hu
 ·have hv:nv (qO f.1) (tkN f.1 y)≠V.zero:=fun h=>hz ((zmK (HZ gy)).2 h)
  obtain ⟨hd,hn,_,hb⟩:=ivW_ok hP hI gy sy hv
  have e:=ivO_eq (y:=y) hP.2.1 hd
  have gi:Gd f.1 (gvN (ivW f.1 y)):=(gv_nb hP hn hb (by decide)).gd (by decide)
  have:=qu_1 f x y ⟨hf,by'⟩ (by rw [hN];intro h0;exact hz (List.eq_nil_of_length_eq_zero (by omega))) ⟨hf,sy,hd⟩ ⟨hf,bx,by rw [e];exact zmW hP hn hb (by decide)⟩
  unfold quA quN quE
  rw [if_neg hz,if_neg hz]
  rw [e,mu_eq gx gi] at this
  unfold muN at this
  rw [tk_gv hP hn] at this
  exact this
def pChr (p t:List Int) (x:N5):Prop:=t=trZ p∧za7 p∧∃m f,Vz p m x f∧m≤100
def cChr (args:List AV):M AV:=match args with
 | [r,y]=>do
  let q ← asRT r
  let x ← asK nuK y
  tell (pChr q.1 q.2 x)
  M.pure (.tup [.lst nuK (csT q.1 q.2 x (q.1.length-1)),nuK.val (roT q.1 x (csT q.1 q.2 x (q.1.length-1)) (q.1.length-2))])
 | _=>fail 346
def cZr (args:List AV):M AV:=match args with
 | [y]=>do
  let x ← asK nuK y
  M.pure (.lit (.bool (decide (isZ (ofN x)))))
 | _=>fail 347
noncomputable def ctrQu (L:Nat→N5):Ctr:=(77,cZr) :: (78,cChr) :: (81,cFr L) :: (80,cTT L) :: ctrQ2
def lsT (p t:List Int) (u:N5):N5:=(csT p t u (p.length-1)).getD (((csT p t u (p.length-1)).length:Int)-1).toNat dN
theorem cChr_ok:jZ tP 78 cChr:=by
 intro args _
 unfold cChr
 split
 ·refine Spec.bind (asRT_spec.mono fun q hq=>Spec.bind (asK_spec.mono fun x hx=>Spec.bind (Spec.tell fun h=>Spec.pure' ?_)))
  obtain ⟨p,t⟩:=q
  obtain ⟨ht,hP,m,f,hv,hm⟩:=h
  simp only at ht hP hv hq ⊢
  subst ht
  exact(char_fc hP hv hm).le (.cons hq (.cons hx .nil)) (Le.refl _)
 ·exact Spec.fail
theorem cZr_ok:jZ tP 77 cZr:=by
 intro args _
 unfold cZr
 split
 ·refine Spec.bind (asK_spec.mono fun x hx=>Spec.pure' ?_)
  obtain ⟨a,b,c,e,d⟩:=x
  exact(zero_fc a b c e d).le (.cons hx .nil) (Le.refl _)
 ·exact Spec.fail
theorem ctrQu_all {L:Nat→N5}:∀p∈ctrQu L,jZ tP p.1 p.2:=CAll.cons cZr_ok<|CAll.cons cChr_ok<|CAll.cons cFr_ok<|CAll.cons cTT_ok zg5
theorem okQu (L:Nat→N5):(eZ tP (ctrQu L) bw [] kdQ2).OK:=vZ zaC mixed ctrQu_all zaA
noncomputable section
theorem qo_0 (p t:List Int) (x y:numK.ty) (L:Nat→N5) (h1:pTk p y.1 y.2) (h2:isZ (ofN (toN (tkN p y)))):FC tP 17 [reT (.lst .whole p) (.lst .whole t),numK.val x,numK.val y] (.tup [.agg [.lit (.slice none 0 0),.lit (.slice none 0 0)],lI 12]):=dZ (okQu L) 60 [1] (.c h1<|.t h2<|.e) (ux [1,1005,2])
theorem qo_1 (p t:List Int) (x y:numK.ty) (L:Nat→N5) (h1:pTk p y.1 y.2) (h2:¬isZ (ofN (toN (tkN p y)))) (h3:pChr p t (toN (tkN p y))) (h4:r64 (((csT p t (toN (tkN p y)) (p.length-1)).length:Int)-1)) (h5:0≤((csT p t (toN (tkN p y)) (p.length-1)).length:Int)-1) (h6:((csT p t (toN (tkN p y)) (p.length-1)).length:Int)-1<((csT p t (toN (tkN p y)) (p.length-1)).length:Int)) (h7:zgb p [(lsT p t (toN (tkN p y))).2.2.2.2] (-(lsT p t (toN (tkN p y))).1)∧frT p (lsT p t (toN (tkN p y))).2.2.2.2 (-(lsT p t (toN (tkN p y))).1)=L 994) (h8:(za7 p∧pP5 (roT p (toN (tkN p y)) (csT p t (toN (tkN p y)) (p.length-1)) (p.length-2)) (L 994))∧tmT p (roT p (toN (tkN p y)) (csT p t (toN (tkN p y)) (p.length-1)) (p.length-2)) (L 994)=L 993) (h9:pTk p x.1 x.2) (h10:(za7 p∧pP5 (toN (tkN p x)) (L 993))∧tmT p (toN (tkN p x)) (L 993)=L 992) (h11:pGvN (ofN (L 992))):FC tP 17 [reT (.lst .whole p) (.lst .whole t),numK.val x,numK.val y] (.tup [numK.val (gvN (ofN (L 992))),lI 0]):=dZ (okQu L) 60 [0] (.c h1<|.f h2<|.c h3<|.i h4<|.t h5<|.t h6<|.c h7<|.c h8<|.c h9<|.c h10<|.c h11<|.o<|.e) (ux [1,1005,2,1005,3,4,5,6,1032,7,1010,8,1010,8,0,0,0,7,1010,8,0,9,1010,10,1005,11])
end
open Go.Kf
end Go.Proofs.YtagbldogmjhdpaaGreatDoor
end
