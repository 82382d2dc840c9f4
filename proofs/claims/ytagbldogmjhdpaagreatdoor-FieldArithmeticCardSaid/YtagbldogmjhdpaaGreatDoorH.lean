/- Part of a proof about a given program: see the last module of the claim. -/
import Derived.Test.YtagbldogmjhdpaaGreatDoorG
import Derived.Test.YtagbldogmjhdpaaGreatDoorE
import Derived.Shelf.Strings.Builder1
import Derived.Shelf.Strings.Builder2
import Derived.Shelf.Strings.OnBuilder
import Derived.Shelf.Strings.BuilderF
import Derived.Shelf.Strings.BuilderK
import Derived.Shelf.Strconv.Itoa0
import Derived.Shelf.Strconv.Itoa1
import Derived.Shelf.LaysM
import Derived.Shelf.Strconv.Itoa2
import Derived.Shelf.Strconv.Itoa3
import Derived.Shelf.Strings.Prefix
import Derived.Shelf.Bits.Mul64
import Derived.Shelf.Strings.Repeat
import Derived.Test.YtagbldogmjhdpaaGreatDoorProg
import Derived.WalkKit
import Derived.BigCall
import Derived.Test.YtagbldogmjhdpaaGreatDoorC
import Derived.Test.YtagbldogmjhdpaaGreatDoorF
section
open Go Go.Ev Go.RowKit
namespace Go.Proofs.YtagbldogmjhdpaaGreatDoor
open Go.Proofs
set_option maxRecDepth 100000
set_option maxHeartbeats 1000000
set_option linter.unusedVariables false
set_option linter.unusedSimpArgs false
def pOne (f:fieldK.ty):Prop:=zgc f.1 f.2.1 f.2.2.1 f.2.2.2
instance tOne {f:fieldK.ty}:Tst (pOne f):=⟨false,fun h=>by cases h⟩
def cCo (args:List AV):M AV:=match args with
 | [x,.fn f []]=>if f=109 then do
  let l ← ofOpt 212 (ints? x)
  tell (l.length≤1000)
  M.pure (.lit (.bool (zd1 l)))
  else fail 305
 | _=>fail 305
noncomputable def ctrP4:Ctr:=(108,cCo) :: (111,cD1 fieldK pOne (fun f=>.lit (.bool (zmb f.1 f.2.1 f.2.2.1 f.2.2.2)))) :: ctrP3
theorem cCo_ok:jZ tP 108 cCo:=by
 intro args _
 unfold cCo
 split
 ·split
  ·rename_i hf
   subst hf
   exact Spec.bind (Spec.ofOpt fun l hl=>Spec.bind (Spec.tell fun hp=>Spec.pure' ((zmr l hp).arg2 (fun E v hv=>hv.toSq hl) (fun E v hv=>hv))))
  ·exact Spec.fail
 ·exact Spec.fail
theorem zk3:∀p∈ctrP4,jZ tP p.1 p.2:=CAll.cons cCo_ok<|CAll.cons (zer fun f h=>one_fc f.1 f.2.1 f.2.2.1 f.2.2.2 h) zk2
theorem zmU:(eZ tP ctrP4 bw [] kdP).OK:=vZ zaC mixed zk3 zaA
noncomputable section
theorem ck_0 (p:List Int) (a b d:Int) (h1:(p.length:Int)≥2) (h2:¬((p.length:Int)≤5)):FC tP 34 [.agg [.sq p,lI a,lI b,lI d]] (aI 10):=dZ zmU 60 [1,1] (.t h1<|.y h2<|.e) [1,2]
theorem ck_1 (p:List Int) (a b d:Int) (h1:(p.length:Int)≥2) (h2:(p.length:Int)≤5) (h3:p.length≤1000) (h4:zd1 p=true):FC tP 34 [.agg [.sq p,lI a,lI b,lI d]] (aI 2):=dZ zmU 60 [1,0,1] (.t h1<|.x h2<|.c h3<|.c h4<|.e) [1,2,3,4]
theorem ck_2 (p:List Int) (a b d:Int) (h1:(p.length:Int)≥2) (h2:(p.length:Int)≤5) (h3:p.length≤1000) (h4:zd1 p=false) (h5:d≥1) (h6:¬(d≤1000000)):FC tP 34 [.agg [.sq p,lI a,lI b,lI d]] (aI 2):=dZ zmU 60 [1,0,0,1,1] (.t h1<|.x h2<|.c h3<|.c h4<|.t h5<|.y h6<|.e) [1,2,3,4,5,6]
theorem ck_3 (p:List Int) (a b d:Int) (h1:(p.length:Int)≥2) (h2:(p.length:Int)≤5) (h3:p.length≤1000) (h4:zd1 p=false) (h5:d≥1) (h6:d≤1000000) (h7:a≥-1000000) (h8:¬(a≤1000000)):FC tP 34 [.agg [.sq p,lI a,lI b,lI d]] (aI 2):=dZ zmU 60 [1,0,0,1,0,1,1] (.t h1<|.x h2<|.c h3<|.c h4<|.t h5<|.x h6<|.t h7<|.y h8<|.e) [1,2,3,4,5,6,7,8]
theorem ck_4 (p:List Int) (a b d:Int) (h1:(p.length:Int)≥2) (h2:(p.length:Int)≤5) (h3:p.length≤1000) (h4:zd1 p=false) (h5:d≥1) (h6:d≤1000000) (h7:a≥-1000000) (h8:a≤1000000) (h9:b≥-1000000) (h10:¬(b≤1000000)):FC tP 34 [.agg [.sq p,lI a,lI b,lI d]] (aI 2):=dZ zmU 60 [1,0,0,1,0,1,0,1,1] (.t h1<|.x h2<|.c h3<|.c h4<|.t h5<|.x h6<|.t h7<|.x h8<|.t h9<|.y h10<|.e) [1,2,3,4,5,6,7,8,9,10]
theorem ck_5 (p:List Int) (a b d:Int) (h1:(p.length:Int)≥2) (h2:(p.length:Int)≤5) (h3:p.length≤1000) (h4:zd1 p=false) (h5:d≥1) (h6:d≤1000000) (h7:a≥-1000000) (h8:a≤1000000) (h9:b≥-1000000) (h10:b≤1000000) (h11:r64 ((p.length:Int)-1)) (h12:0≤(p.length:Int)-1) (h13:(p.length:Int)-1<(p.length:Int)) (h14:((p.length:Int)-1).toNat<p.length) (h15:p.getD ((p.length:Int)-1).toNat 0≠1):FC tP 34 [.agg [.sq p,lI a,lI b,lI d]] (aI 3):=dZ zmU 60 [1,0,0,1,0,1,0,1,0,1] (.t h1<|.x h2<|.c h3<|.c h4<|.t h5<|.x h6<|.t h7<|.x h8<|.t h9<|.x h10<|.i h11<|.t h12<|.t h13<|.t h14<|.c (bne_iff_ne.2 h15)<|.e) [1,2,3,4,5,6,7,8,9,10,11,12,13,14,15]
theorem ck_6 (p:List Int) (a b d:Int) (h1:(p.length:Int)≥2) (h2:(p.length:Int)≤5) (h3:p.length≤1000) (h4:zd1 p=false) (h5:d≥1) (h6:d≤1000000) (h7:a≥-1000000) (h8:a≤1000000) (h9:b≥-1000000) (h10:b≤1000000) (h11:r64 ((p.length:Int)-1)) (h12:0≤(p.length:Int)-1) (h13:(p.length:Int)-1<(p.length:Int)) (h14:((p.length:Int)-1).toNat<p.length) (h15:p.getD ((p.length:Int)-1).toNat 0=1) (h16:zcx p) (h17:red p=true):FC tP 34 [.agg [.sq p,lI a,lI b,lI d]] (aI 3):=dZ zmU 60 [1,0,0,1,0,1,0,1,0,0,1] (.t h1<|.x h2<|.c h3<|.c h4<|.t h5<|.x h6<|.t h7<|.x h8<|.t h9<|.x h10<|.i h11<|.t h12<|.t h13<|.t h14<|.c (bne_eq_false_iff_eq.2 h15)<|.c h16<|.c h17<|.e) [1,2,3,4,5,6,7,8,9,10,11,12,13,14,15,16,17]
theorem ck_7 (p:List Int) (a b d:Int) (h1:(p.length:Int)≥2) (h2:(p.length:Int)≤5) (h3:p.length≤1000) (h4:zd1 p=false) (h5:d≥1) (h6:d≤1000000) (h7:a≥-1000000) (h8:a≤1000000) (h9:b≥-1000000) (h10:b≤1000000) (h11:r64 ((p.length:Int)-1)) (h12:0≤(p.length:Int)-1) (h13:(p.length:Int)-1<(p.length:Int)) (h14:((p.length:Int)-1).toNat<p.length) (h15:p.getD ((p.length:Int)-1).toNat 0=1) (h16:zcx p) (h17:red p=false) (h18:a > b):FC tP 34 [.agg [.sq p,lI a,lI b,lI d]] (aI 9):=dZ zmU 60 [1,0,0,1,0,1,0,1,0,0,0,1] (.t h1<|.x h2<|.c h3<|.c h4<|.t h5<|.x h6<|.t h7<|.x h8<|.t h9<|.x h10<|.i h11<|.t h12<|.t h13<|.t h14<|.c (bne_eq_false_iff_eq.2 h15)<|.c h16<|.c h17<|.t h18<|.e) [1,2,3,4,5,6,7,8,9,10,11,12,13,14,15,16,17,18]
theorem ck_8 (p:List Int) (a b d:Int) (h1:(p.length:Int)≥2) (h2:(p.length:Int)≤5) (h3:p.length≤1000) (h4:zd1 p=false) (h5:d≥1) (h6:d≤1000000) (h7:a≥-1000000) (h8:a≤1000000) (h9:b≥-1000000) (h10:b≤1000000) (h11:r64 ((p.length:Int)-1)) (h12:0≤(p.length:Int)-1) (h13:(p.length:Int)-1<(p.length:Int)) (h14:((p.length:Int)-1).toNat<p.length) (h15:p.getD ((p.length:Int)-1).toNat 0=1) (h16:zcx p) (h17:red p=false) (h18:¬(a > b)) (h19:pOne (p,a,b,d)) (h20:zmb (p,a,b,d).fst (p,a,b,d).snd.fst (p,a,b,d).snd.snd.fst (p,a,b,d).snd.snd.snd=false):FC tP 34 [.agg [.sq p,lI a,lI b,lI d]] (aI 11):=dZ zmU 60 [1,0,0,1,0,1,0,1,0,0,0,0,1] (.t h1<|.x h2<|.c h3<|.c h4<|.t h5<|.x h6<|.t h7<|.x h8<|.t h9<|.x h10<|.i h11<|.t h12<|.t h13<|.t h14<|.c (bne_eq_false_iff_eq.2 h15)<|.c h16<|.c h17<|.f h18<|.c h19<|.c (congrArg Bool.not h20)<|.e) [1,2,3,4,5,6,7,8,9,10,11,12,13,14,15,16,17,18,19,20]
theorem ck_9 (p:List Int) (a b d:Int) (h1:(p.length:Int)≥2) (h2:(p.length:Int)≤5) (h3:p.length≤1000) (h4:zd1 p=false) (h5:d≥1) (h6:d≤1000000) (h7:a≥-1000000) (h8:a≤1000000) (h9:b≥-1000000) (h10:b≤1000000) (h11:r64 ((p.length:Int)-1)) (h12:0≤(p.length:Int)-1) (h13:(p.length:Int)-1<(p.length:Int)) (h14:((p.length:Int)-1).toNat<p.length) (h15:p.getD ((p.length:Int)-1).toNat 0=1) (h16:zcx p) (h17:red p=false) (h18:¬(a > b)) (h19:pOne (p,a,b,d)) (h20:zmb (p,a,b,d).fst (p,a,b,d).snd.fst (p,a,b,d).snd.snd.fst (p,a,b,d).snd.snd.snd=true):FC tP 34 [.agg [.sq p,lI a,lI b,lI d]] (aI 0):=dZ zmU 60 [1,0,0,1,0,1,0,1,0,0,0,0,0] (.t h1<|.x h2<|.c h3<|.c h4<|.t h5<|.x h6<|.t h7<|.x h8<|.t h9<|.x h10<|.i h11<|.t h12<|.t h13<|.t h14<|.c (bne_eq_false_iff_eq.2 h15)<|.c h16<|.c h17<|.f h18<|.c h19<|.c (congrArg Bool.not h20)<|.e) [1,2,3,4,5,6,7,8,9,10,11,12,13,14,15,16,17,18,19,20]
theorem ck_10 (p:List Int) (a b d:Int) (h1:(p.length:Int)≥2) (h2:(p.length:Int)≤5) (h3:p.length≤1000) (h4:zd1 p=false) (h5:d≥1) (h6:d≤1000000) (h7:a≥-1000000) (h8:a≤1000000) (h9:¬(b≥-1000000)):FC tP 34 [.agg [.sq p,lI a,lI b,lI d]] (aI 2):=dZ zmU 60 [1,0,0,1,0,1,0,0] (.t h1<|.x h2<|.c h3<|.c h4<|.t h5<|.x h6<|.t h7<|.x h8<|.f h9<|.e) [1,2,3,4,5,6,7,8,9]
theorem ck_11 (p:List Int) (a b d:Int) (h1:(p.length:Int)≥2) (h2:(p.length:Int)≤5) (h3:p.length≤1000) (h4:zd1 p=false) (h5:d≥1) (h6:d≤1000000) (h7:¬(a≥-1000000)):FC tP 34 [.agg [.sq p,lI a,lI b,lI d]] (aI 2):=dZ zmU 60 [1,0,0,1,0,0] (.t h1<|.x h2<|.c h3<|.c h4<|.t h5<|.x h6<|.f h7<|.e) [1,2,3,4,5,6,7]
theorem ck_12 (p:List Int) (a b d:Int) (h1:(p.length:Int)≥2) (h2:(p.length:Int)≤5) (h3:p.length≤1000) (h4:zd1 p=false) (h5:¬(d≥1)):FC tP 34 [.agg [.sq p,lI a,lI b,lI d]] (aI 2):=dZ zmU 60 [1,0,0,0] (.t h1<|.x h2<|.c h3<|.c h4<|.f h5<|.e) [1,2,3,4,5]
theorem ck_13 (p:List Int) (a b d:Int) (h1:¬((p.length:Int)≥2)):FC tP 34 [.agg [.sq p,lI a,lI b,lI d]] (aI 10):=dZ zmU 60 [0] (.f h1<|.e) [1]
end
open Go.Kf
noncomputable def zbw (p:List Int) (a b d:Int):Int:=
 if p.length<2∨5<p.length then 10
 else if zd1 p=true then 2
 else if d<1∨1000000<d∨a < -1000000∨1000000<a∨b < -1000000∨1000000<b then 2
 else if p.getD (p.length-1) 0≠1∨red p=true then 3
 else if b<a then 9
 else if zmb p a b d=false then 11 else 0
theorem zmo {p:List Int} {a b d:Int} (h:p.length<2∨5<p.length):zbw p a b d=10:=if_pos h
theorem zmn {p:List Int} {a b d:Int} (h:2≤p.length∧p.length≤5) (h2:zd1 p=true):zbw p a b d=2:=by
 unfold zbw;rw [if_neg (by omega),if_pos h2]
theorem zmp {p:List Int} {a b d:Int} (h:2≤p.length∧p.length≤5) (h3:d<1∨1000000<d∨a < -1000000∨1000000<a∨b < -1000000∨1000000<b):zbw p a b d=2:=by
 unfold zbw;rw [if_neg (by omega)]
 by_cases h2:zd1 p=true
 ·rw [if_pos h2]
 ·rw [if_neg h2,if_pos h3]
structure ChkR (p:List Int) (a b d:Int):Prop where
 l2:2≤p.length
 l5:p.length≤5
 bg:zd1 p=false
 d1:1≤d
 d2:d≤1000000
 a1:-1000000≤a
 a2:a≤1000000
 b1:-1000000≤b
 b2:b≤1000000
theorem ChkR.eq {p:List Int} {a b d:Int} (h:ChkR p a b d):zbw p a b d=if p.getD (p.length-1) 0≠1∨red p=true then 3 else if b<a then 9 else if zmb p a b d=false then 11 else 0:=by
 obtain ⟨l2,l5,bg,d1,d2,a1,a2,b1,b2⟩:=h
 conv=>lhs;unfold zbw
 rw [if_neg (by omega),if_neg (by rw [bg];decide),if_neg (by omega)]
theorem ChkR.rd {p:List Int} {a b d:Int} (h:ChkR p a b d):zcx p:=⟨h.l2,h.l5,bigc_f h.bg⟩
theorem ChkR.ro {p:List Int} {a b d:Int} (h:ChkR p a b d):zgc p a b d:=⟨h.rd,by have:=h.a1;have:=h.a2;omega,by have:=h.b1;have:=h.b2;omega,by have:=h.d1;have:=h.d2;omega⟩
theorem zg1 (p:List Int) (a b d:Int):ChkR p a b d∨(p.length<2∨5<p.length)∨(2≤p.length∧p.length≤5∧zd1 p=true)∨(2≤p.length∧p.length≤5∧zd1 p=false∧(d<1∨1000000<d∨a < -1000000∨1000000<a∨b < -1000000∨1000000<b)):=by
 by_cases h:p.length<2∨5<p.length
 ·exact .inr (.inl h)
 cases h2:zd1 p with
 | true=>exact .inr (.inr (.inl ⟨by omega,by omega,rfl⟩))
 | false=>
  by_cases h3:d<1∨1000000<d∨a < -1000000∨1000000<a∨b < -1000000∨1000000<b
  ·exact .inr (.inr (.inr ⟨by omega,by omega,rfl,h3⟩))
  ·exact .inl ⟨by omega,by omega,h2,by omega,by omega,by omega,by omega,by omega,by omega⟩
theorem check_fc (p:List Int) (a b d:Int):FC tP 34 [.agg [.sq p,lI a,lI b,lI d]] (lI (zbw p a b d)):=by
 rcases zg1 p a b d with h | h | ⟨l2,l5,bg⟩ | ⟨l2,l5,bg,h⟩
 ·have hrd:=h.rd
  have hro:=h.ro
  rw [h.eq]
  obtain ⟨l2,l5,bg,d1,d2,a1,a2,b1,b2⟩:=h
  have e1:Int.toNat ((p.length:Int)-1)=p.length-1:=by omega
  by_cases c1:p.getD (p.length-1) 0=1
  ·cases c2:red p with
   | true=>
    rw [if_pos (.inr rfl)]
    exact ck_6 p a b d (by omega) (by omega) (by omega) bg (by omega) (by omega) (by omega) (by omega) (by omega) (by omega) (by omega) (by omega) (by omega) (by omega) (by rw [e1];exact c1) hrd c2
   | false=>
    rw [if_neg (by simp only [c1,ne_eq,not_true_eq_false,false_or,Bool.false_eq_true,not_false_eq_true])]
    by_cases c3:b<a
    ·rw [if_pos c3]
     exact ck_7 p a b d (by omega) (by omega) (by omega) bg (by omega) (by omega) (by omega) (by omega) (by omega) (by omega) (by omega) (by omega) (by omega) (by omega) (by rw [e1];exact c1) hrd c2 c3
    ·rw [if_neg c3]
     cases c4:zmb p a b d with
     | false=>
      rw [if_pos rfl]
      exact ck_8 p a b d (by omega) (by omega) (by omega) bg (by omega) (by omega) (by omega) (by omega) (by omega) (by omega) (by omega) (by omega) (by omega) (by omega) (by rw [e1];exact c1) hrd c2 c3 hro c4
     | true=>
      rw [if_neg (by decide)]
      exact ck_9 p a b d (by omega) (by omega) (by omega) bg (by omega) (by omega) (by omega) (by omega) (by omega) (by omega) (by omega) (by omega) (by omega) (by omega) (by rw [e1];exact c1) hrd c2 c3 hro c4
  ·rw [if_pos (.inl c1)]
   exact ck_5 p a b d (by omega) (by omega) (by omega) bg (by omega) (by omega) (by omega) (by omega) (by omega) (by omega) (by omega) (by omega) (by omega) (by omega) (by rw [e1];exact c1)
 ·rw [zmo h]
  by_cases l2:p.length<2
  ·exact ck_13 p a b d (by omega)
  ·exact ck_0 p a b d (by omega) (by omega)
 ·rw [zmn ⟨l2,l5⟩ bg]
  exact ck_1 p a b d (by omega) (by omega) (by omega) bg
 ·rw [zmp ⟨l2,l5⟩ h]
  by_cases d1:1≤d
  ·by_cases d2:d≤1000000
   ·by_cases a1:-1000000≤a
    ·by_cases a2:a≤1000000
     ·by_cases b1:-1000000≤b
      ·exact ck_4 p a b d (by omega) (by omega) (by omega) bg d1 d2 a1 a2 b1 (by omega)
      ·exact ck_10 p a b d (by omega) (by omega) (by omega) bg d1 d2 a1 a2 b1
     ·exact ck_3 p a b d (by omega) (by omega) (by omega) bg d1 d2 a1 a2
    ·exact ck_11 p a b d (by omega) (by omega) (by omega) bg d1 d2 a1
   ·exact ck_2 p a b d (by omega) (by omega) (by omega) bg d1 d2
  ·exact ck_12 p a b d (by omega) (by omega) (by omega) bg d1
def cFd (p:List Int→Int→Int→Int→Prop) [∀l a b d,Tst (p l a b d)] (r:List Int→Int→Int→Int→AV) (args:List AV):M AV:=match args with
 | [x]=>do
  let f ← asK fieldK x
  match f with
  | (l,a,b,d)=>do
   tellD (p l a b d) (Tst.b (p l a b d))
   gives (r l a b d)
 | _=>fail 306
theorem ziP {P:Program} {f:FuncId} {p:List Int→Int→Int→Int→Prop} [∀l a b d,Tst (p l a b d)] {r:List Int→Int→Int→Int→AV} (h:∀l a b d,p l a b d→FC P f [.agg [.sq l,lI a,lI b,lI d]] (r l a b d)):jZ P f (cFd p r):=by
 intro args _
 unfold cFd
 split
 ·refine Spec.bind (asK_spec.mono fun f hf=>?_)
  obtain ⟨l,a,b,d⟩:=f
  exact Spec.bind (Spec.tellD Tst.ok fun hp=>Spec.gives ((h l a b d hp).le (.cons hf .nil) (Le.refl _)))
 ·exact Spec.fail
noncomputable section
theorem cli_0 (p:List Int) (h1:p≠[]) (h2:(0+p.length)*8≤140737488355328) (h3:0+p.length≤4611686018427387904) (h4:0+p.length≤(List.take 0 []++p).length):FC tP 100 [.sq p] (.sq ((List.take 0 []++p).take (0+p.length))):=dZ zmU 60 [] (.c (congrArg Bool.not (zaV h1))<|.t h2<|.t h3<|.c (show decide (p.length=p.length)=true from decide_eq_true rfl)<|.c h4<|.e) [1,2,3,0,4,5]
end
def pCl (p:List Int):Prop:=p≠[]∧p.length≤100000
instance tCl {p:List Int}:Tst (pCl p):=⟨match p with | []=>false | _ :: _=>Nat.ble p.length 100000,fun h=>by
 cases p with
 | nil=>cases h
 | cons x l=>exact ⟨by simp,Nat.le_of_ble_eq_true h⟩⟩
theorem clone_fc (p:List Int) (h:pCl p):FC tP 100 [.sq p] (.sq p):=by
 have:=cli_0 p h.1 (by have:=h.2;omega) (by have:=h.2;omega) (by simp)
 rw [show List.take (0+p.length) (List.take 0 []++p)=p by simp] at this
 exact this
theorem Le.lst_slW (l:List Int):Le (.lst .whole l) (.sl (uZ .W l) l.length):=fun E v h=>by
 cases h with
 | lst h=>rw [← zd5];exact h
def pRdT (p:List Int) (_ _ _:Int):Prop:=zcx p
instance tRdT {p:List Int} {a b d:Int}:Tst (pRdT p a b d):=⟨false,fun h=>by cases h⟩
noncomputable def ctrP5:Ctr:=(146,cPWW zcw (fun l a b=>lI (zaf l a b).sign)) :: (101,cFd pRdT (fun l _ _ _=>.sl (uZ .W l) l.length)) :: (100,cL pCl (fun p=>.sq p)) ::
 (34,cFd (fun _ _ _ _=>True) (fun l a b d=>lI (zbw l a b d))) :: ctrP4
theorem zg4:∀p∈ctrP5,jZ tP p.1 p.2:=CAll.cons (cPWW_ok zh4)<|CAll.cons (ziP fun l a b d h=>(zhB l a b d h).le (LeL.refl _) (Le.lst_slW l))<|CAll.cons (zjt clone_fc)<|CAll.cons (ziP fun l a b d _=>check_fc l a b d) zk3
theorem okP5:(eZ tP ctrP5 bw).OK:=JZ zg4
noncomputable def ctrP7:Ctr:=(146,cLWW zcw (fun l a b=>lI (zaf l a b).sign)) :: (101,cFd pRdT (fun l _ _ _=>.lst .whole l)) :: ctrP5
theorem ctrP7_all:∀p∈ctrP7,jZ tP p.1 p.2:=CAll.cons (cLWW_ok zjg)<|CAll.cons (ziP fun l a b d h=>zhB l a b d h) zg4
theorem zrV:(eZ tP ctrP7 bw [] kdP).OK:=vZ zaC mixed ctrP7_all zaA
noncomputable section
abbrev zmV (s:St) (r:Ex × St):Prop:=Loops 3 tP (kZ tP 33 0) s r
abbrev zjX (a:Int) (b:List Int) (c d e:Int) (f:List Int):St:=⟨sp 103 [(5,.ref 1 0),(6,aI a),(7,aI 1)],[.flat [.sq b,aI c,aI d,aI e] true,.flat [.sq b,aI c,aI d,aI e,.lst EK.whole b,.own 2 0 1 2,aD c,.wd c,aD d,.wd d,aD e,.wd e] true,.lst EK.whole f true],[1,0,2]⟩
abbrev zhx (a:Int) (b:List Int) (c d e:Int) (f:List Int) (g:Int) (i:Nat) (j:List Int):St:=⟨sp 103 [(5,.ref 1 0),(6,aI a),(7,aI g)],[.flat [.sq b,aI c,aI d,aI e] true,.flat [.sq b,aI c,aI d,aI e,.lst EK.whole b,.own 3 0 i 2,aD c,.wd c,aD d,.wd d,aD e,.wd e] true,.dead,.lst EK.whole j true],[1,0,2]⟩
abbrev znZ (a:Int) (b:List Int) (c d e:Int) (f:List Int):St:=⟨sp 103 [(5,.ref 1 0),(6,aI a),(7,aI 1)],[.flat [.sq b,aI c,aI d,aI e] true,.flat [.sq b,aI c,aI d,aI e,.lst EK.whole b,.own 2 0 1 2,aD c,.wd c,aD d,.wd d,aD e,.wd e] true,.lst EK.whole f true],[1,0,2]⟩
abbrev zeG (a:Int) (b:List Int) (c d e:Int) (f:List Int) (g:Int) (i:Nat) (j:List Int):St:=⟨sp 103 [(5,.ref 1 0),(6,aI a),(7,aI g)],[.flat [.sq b,aI c,aI d,aI e] true,.flat [.sq b,aI c,aI d,aI e,.lst EK.whole b,.own 3 0 i 2,aD c,.wd c,aD d,.wd d,aD e,.wd e] true,.dead,.lst EK.whole j true],[1,0,2]⟩
abbrev op_L1 (s:St) (r:Ex × St):Prop:=Loops 4 tP (kZ tP 33 1) s r
abbrev op_L1_0 (a:Int) (b:List Int) (c d e:Int) (f:List Int) (g:Int):St:=⟨sp 103 [(5,.ref 1 0),(6,aI a),(7,aI 1),(8,.ref 3 0),(9,aI 1)],[.flat [.sq b,aI c,aI d,aI e] true,.flat [.sq b,aI c,aI d,aI e,.lst EK.whole b,.own 2 0 1 2,aD c,.wd c,aD d,.wd d,aD e,.wd e] true,.lst EK.whole f true,.flat [aD g,.wd g] true],[0,1,2]⟩
abbrev znY (a:Int) (b:List Int) (c d e:Int) (f:List Int) (g:Int):St:=⟨sp 103 [(5,.ref 1 0),(6,aI a),(7,aI 1),(8,.ref 3 0),(9,aI 1)],[.flat [.sq b,aI c,aI d,aI e] true,.flat [.sq b,aI c,aI d,aI e,.lst EK.whole b,.own 2 0 1 2,aD c,.wd c,aD d,.wd d,aD e,.wd e] true,.lst EK.whole f true,.flat [aD g,.wd g] true],[0,1,2]⟩
theorem op_L1_0_0 (a:Int) (b:List Int) (c d f:Int) (g:List Int) (i:Int):op_L1 (op_L1_0 a b c d f g i) (Ex.exit 2,(znY a b c d f g i)):=LF (LS.at zrV 60 [] [5,6,7,8,9] [0,1,2] [] (.e) [])
theorem op_L4_0_0 (a:Int) (b:List Int) (d f g:Int) (j:List Int) (h1:1<a) (h2:r64 (a-1)) (h3:0≤a-1) (h4:a-1<(b.length:Int)) (h5:cZ 1) (h6:decide (b.getD (a-1).toNat 0<OfNat.ofNat 0)=decide (b.getD (a-1).toNat 0<0)) (h7:pDD (b.getD (a-1).toNat 0) 1) (hL1:op_L1 (op_L1_0 a b d f g j (b.getD (a-1).toNat 0*1)) (Ex.exit 2,(znY a b d f g j (b.getD (a-1).toNat 0*1)))) (h9:1≤List.length [-(b.getD (a-1).toNat 0*1)]) (h10:(1+(List.take 1 [-(b.getD (a-1).toNat 0*1)]).length)*32≤140737488355328) (h11:1+(List.take 1 [-(b.getD (a-1).toNat 0*1)]).length≤4611686018427387904) (h12:1≤j.length):LG zmV (zjX a b d f g j) (zhx a b d f g j (2) (2) (j.take 1++List.take 1 [-(b.getD (a-1).toNat 0*1)])):=Loops.go (LS.at zrV 60 [5] [5,6,7] [1,0,2] [1] (.t h1<|.i h2<|.t h3<|.t h4<|.c h5<|.c h6<|.c h7<|.v [5,6,7,8,9] [0,1,2] hL1<|.c h9<|.t h10<|.t h11<|.t h12<|.e) [1,2,3,4,5,6,0,7,6,0,7,0,5,6,0,7,0,0,8,0,0,0,9,10,11,12,0,0,0,9,10,11,12,0,9,10,11,12,0,0,0])
theorem op_L4_0_1 (a:Int) (b:List Int) (c d g:Int) (i:List Int) (h1:¬(1<a)):zmV (zjX a b c d g i) (Ex.exit 0,(znZ a b c d g i)):=LF (LS.at zrV 60 [] [5,6,7] [1,0,2] [0] (.f h1<|.e) [1])
abbrev op_L3 (s:St) (r:Ex × St):Prop:=Loops 5 tP (kZ tP 33 1) s r
abbrev zhw (a b:Int) (c:List Int) (d e f:Int) (g:Nat) (i:List Int) (j l:Int):St:=⟨sp 103 [(5,.ref 1 0),(6,aI a),(7,aI b),(8,.ref 4 0),(9,aI j)],[.flat [.sq c,aI d,aI e,aI f] true,.flat [.sq c,aI d,aI e,aI f,.lst EK.whole c,.own 3 0 g 2,aD d,.wd d,aD e,.wd e,aD f,.wd f] true,.dead,.lst EK.whole i true,.flat [aD l,.wd l] true],[0,1,2,4]⟩
abbrev zgA (a b:Int) (c:List Int) (d e f:Int) (g:Nat) (i:List Int) (j l:Int):St:=⟨sp 103 [(5,.ref 1 0),(6,aI a),(7,aI b),(8,.ref 4 0),(9,aI j)],[.flat [.sq c,aI d,aI e,aI f] true,.flat [.sq c,aI d,aI e,aI f,.lst EK.whole c,.own 3 0 g 2,aD d,.wd d,aD e,.wd e,aD f,.wd f] true,.dead,.lst EK.whole i true,.flat [aD l,.wd l] true],[0,1,2,4]⟩
theorem op_L3_0_0 (a b:Int) (d:List Int) (f g j:Int) (l:Nat) (m:List Int) (n o:Int) (h1:n<b) (h2:r64 (a-n)) (h3:0≤a-n) (h4:a-n<(d.length:Int)) (h5:r64 (b-n)) (h6:0≤b-n) (h7:b-n<(l:Int)) (h8:(b-n).toNat<m.length) (h9:decide (d.getD (a-n).toNat 0<OfNat.ofNat 0)=decide (d.getD (a-n).toNat 0<0)) (h10:decide (m.getD (b-n).toNat 0<OfNat.ofNat 0)=decide (m.getD (b-n).toNat 0<0)) (h11:pDD (d.getD (a-n).toNat 0) (m.getD (b-n).toNat 0)) (h12:pDD o (d.getD (a-n).toNat 0*m.getD (b-n).toNat 0)) (h13:r64 (n+1)):LG op_L3 (zhw a b d f g j l m n o) (zhw a b d f g j l m (n+1) (o+d.getD (a-n).toNat 0*m.getD (b-n).toNat 0)):=Loops.go (LS.at zrV 60 [] [5,6,7,8,9] [0,1,2,4] [1] (.t h1<|.i h2<|.t h3<|.t h4<|.i h5<|.t h6<|.t h7<|.t h8<|.c h9<|.c h10<|.c h11<|.c h12<|.i h13<|.e) [1,2,3,4,5,6,7,8,9,10,11,0,0,12,9,10,11,0,0,12,0,13])
theorem op_L3_0_1 (a b:Int) (c:List Int) (d g i:Int) (j:Nat) (l:List Int) (m n:Int) (h1:¬(m<b)):op_L3 (zhw a b c d g i j l m n) (Ex.exit 2,(zgA a b c d g i j l m n)):=LF (LS.at zrV 60 [] [5,6,7,8,9] [0,1,2,4] [0] (.f h1<|.e) [1])
theorem op_L4_1_0 (a:Int) (b:List Int) (d f g:Int) (j:List Int) (l:Int) (m:Nat) (n:List Int) (o p:Int) (h1:l<a) (h2:r64 (a-l)) (h3:0≤a-l) (h4:a-l<(b.length:Int)) (h5:cZ l) (h6:decide (b.getD (a-l).toNat 0<OfNat.ofNat 0)=decide (b.getD (a-l).toNat 0<0)) (h7:pDD (b.getD (a-l).toNat 0) l) (hL1:op_L3 (zhw a l b d f g m n (1) (b.getD (a-l).toNat 0*l)) (Ex.exit 2,(zgA a l b d f g m n o p))) (h9:1≤List.length [-p]) (h10:(m+(List.take 1 [-p]).length)*32≤140737488355328) (h11:m+(List.take 1 [-p]).length≤4611686018427387904) (h12:m≤n.length) (h13:r64 (l+1)):LG zmV (zhx a b d f g j l m n) (zhx a b d f g j (l+1) (m+(List.take 1 [-p]).length) (n.take m++List.take 1 [-p])):=Loops.go (LS.at zrV 60 [6] [5,6,7] [1,0,2] [1] (.t h1<|.i h2<|.t h3<|.t h4<|.c h5<|.c h6<|.c h7<|.v [5,6,7,8,9] [0,1,2,4] hL1<|.c h9<|.t h10<|.t h11<|.t h12<|.i h13<|.e) [1,2,3,4,5,6,0,7,6,0,7,0,5,6,0,7,0,0,8,0,0,0,9,10,11,12,0,0,0,9,10,11,12,0,9,10,11,12,0,0,13])
theorem op_L4_1_1 (a:Int) (b:List Int) (c d g:Int) (i:List Int) (j:Int) (l:Nat) (m:List Int) (h1:¬(j<a)):zmV (zhx a b c d g i j l m) (Ex.exit 0,(zeG a b c d g i j l m)):=LF (LS.at zrV 60 [3] [5,6,7] [1,0,2] [0] (.f h1<|.e) [1])
theorem op_2 (p:List Int) (a b d:Int) (h1:zbw p a b d=0) (h2:pCl p) (h3:pRdT p a b d) (h4:cZ a) (h5:cZ b) (h6:cZ d) (h7:r64 ((p.length:Int)-1)) (h8:cZ ((p.length:Int)-1)) (hL1:zmV (zjX ((p.length:Int)-1) p a b d ([(p.length:Int)-1])) (Ex.exit 0,(znZ ((p.length:Int)-1) p a b d ([(p.length:Int)-1])))) (h10:¬((p.length:Int)-1 > 1)) (h11:1≤List.length [(p.length:Int)-1]):FC tP 33 [.agg [.sq p,lI a,lI b,lI d]] (.tup [.pd [.sq p,aI a,aI b,aI d,.lst EK.whole p,.lst EK.whole [(p.length:Int)-1],aD a,.wd a,aD b,.wd b,aD d,.wd d] 0,aI 0]):=dZ zrV 60 [0,0] (.c (bne_eq_false_iff_eq.2 h1)<|.c h2<|.c h3<|.c h4<|.c h5<|.c h6<|.i h7<|.c h8<|.v [5,6,7] [1,0,2] hL1<|.f h10<|.c h11<|.e) [0,1,2,3,4,5,6,7,8,0,0,9,10,11]
abbrev op_L6 (s:St) (r:Ex × St):Prop:=Loops 4 tP (kZ tP 33 2) s r
abbrev zeh (a:List Int) (b c d:Int) (e:Nat) (f:List Int) (g i j l:Int):St:=⟨sp 103 [(5,.ref 1 0),(97,aI g)],[.flat [.sq a,aI b,aI c,aI d] true,.flat [.sq a,aI b,aI c,aI d,.lst EK.whole a,.own 3 0 e 2,aD i,.wd i,aD j,.wd j,aD l,.wd l] true,.dead,.lst EK.whole f true],[1,0,2]⟩
abbrev zjY (a:List Int) (b c d:Int) (e:Nat) (f:List Int) (g i j l:Int):St:=⟨sp 103 [(5,.ref 1 0),(97,aI g)],[.flat [.sq a,aI b,aI c,aI d] true,.flat [.sq a,aI b,aI c,aI d,.lst EK.whole a,.own 3 0 e 2,aD i,.wd i,aD j,.wd j,aD l,.wd l] true,.dead,.lst EK.whole f true],[1,0,2]⟩
theorem op_L6_0_0 (a:List Int) (b d f:Int) (g:Nat) (j:List Int) (l m n o:Int) (h1:l<64) (h2:pDD m n) (h3:pDD o o) (h4:zcw a m o) (h5:zcw a (m+n) (o+o)) (h6:r64 ((zaf a m o).sign*(zaf a (m+n) (o+o)).sign)) (h7:(zaf a m o).sign*(zaf a (m+n) (o+o)).sign<0) (h8:pDD m m) (h9:r64 (l+1)):LG op_L6 (zeh a b d f g j l m n o) (zeh a b d f g j (l+1) (m+m) (m+n) (o+o)):=Loops.go (LS.at zrV 60 [] [5,97] [1,0,2] [1,1] (.t h1<|.c h2<|.c h3<|.c h4<|.c h5<|.i h6<|.t h7<|.c h8<|.i h9<|.e) (ux [1,0,0,2,0,0,3,0,0,0,3,0,0,3,0,0,0,3,0,0,3,1005,2,0,0,3,0,0,3,0,0,0,2,0,0,3,0,0,0,2,0,0,3,0,0,3,0,0,0,2,0,0,3,1005,4,0,0,5,6,7,0,0,8,0,0,8,0,9]))
theorem op_L6_0_1 (a:List Int) (b d g:Int) (j:Nat) (l:List Int) (m n o p:Int) (h1:m<64) (h2:pDD n o) (h3:pDD p p) (h4:zcw a n p) (h5:zcw a (n+o) (p+p)) (h6:r64 ((zaf a n p).sign*(zaf a (n+o) (p+p)).sign)) (h7:¬((zaf a n p).sign*(zaf a (n+o) (p+p)).sign<0)) (h8:pDD o o) (h9:r64 (m+1)):LG op_L6 (zeh a b d g j l m n o p) (zeh a b d g j l (m+1) (n+o) (o+o) (p+p)):=Loops.go (LS.at zrV 60 [] [5,97] [1,0,2] [1,0] (.t h1<|.c h2<|.c h3<|.c h4<|.c h5<|.i h6<|.f h7<|.c h8<|.i h9<|.e) (ux [1,0,0,2,0,0,3,0,0,0,3,0,0,3,0,0,0,3,0,0,3,1005,2,0,0,3,0,0,3,0,0,0,2,0,0,3,0,0,0,2,0,0,3,0,0,3,0,0,0,2,0,0,3,1005,4,0,0,5,6,7,0,0,8,0,0,8,0,9]))
theorem op_L6_0_2 (a:List Int) (b c d:Int) (g:Nat) (i:List Int) (j l m n:Int) (h1:¬(j<64)):op_L6 (zeh a b c d g i j l m n) (Ex.exit 4,(zjY a b c d g i j l m n)):=LF (LS.at zrV 60 [] [5,97] [1,0,2] [0] (.f h1<|.e) [1])
theorem op_3 (p:List Int) (a b d f:Int) (g:Nat) (j:List Int) (l m n o:Int) (h1:zbw p a b d=0) (h2:pCl p) (h3:pRdT p a b d) (h4:cZ a) (h5:cZ b) (h6:cZ d) (h7:r64 ((p.length:Int)-1)) (h8:cZ ((p.length:Int)-1)) (hL1:zmV (zjX ((p.length:Int)-1) p a b d ([(p.length:Int)-1])) (Ex.exit 0,(zeG ((p.length:Int)-1) p a b d ([(p.length:Int)-1]) f g j))) (h10:(p.length:Int)-1 > 1) (hL2:op_L6 (zeh p a b d g j (0) a b d) (Ex.exit 4,(zjY p a b d g j l m n o))) (h12:g≤j.length):FC tP 33 [.agg [.sq p,lI a,lI b,lI d]] (.tup [.pd [.sq p,aI a,aI b,aI d,.lst EK.whole p,.lst EK.whole (j.take g),aD m,.wd m,aD n,.wd n,aD o,.wd o] 0,aI 0]):=dZ zrV 60 [0,1] (.c (bne_eq_false_iff_eq.2 h1)<|.c h2<|.c h3<|.c h4<|.c h5<|.c h6<|.i h7<|.c h8<|.v [5,6,7] [1,0,2] hL1<|.t h10<|.v [5,97] [1,0,2] hL2<|.c h12<|.e) [0,1,2,3,4,5,6,7,8,0,0,9,10,0,11,12]
end
open Go.Kf
def hvG (p:List Int):Nat→Int→Int→Int→Int × Int × Int
 | 0,lo,hi,d=>(lo,hi,d)
 | k+1,lo,hi,d=>if(zaf p lo d).sign*(zaf p (lo+hi) (d+d)).sign<0 then hvG p k (lo+lo) (lo+hi) (d+d) else hvG p k (lo+hi) (hi+hi) (d+d)
def trI (p tr:List Int) (n k:Nat):Nat→Int
 | 0=>p.getD (n-k) 0*(k:Int)
 | j+1=>trI p tr n k j+p.getD (n-(j+1)) 0*tr.getD (k-(j+1)) 0
def trL (p:List Int) (n:Nat):Nat→List Int
 | 0=>[(n:Int)]
 | j+1=>trL p n j++[-(trI p (trL p n j) n (j+1) j)]
def trZ (p:List Int):List Int:=trL p (p.length-1) (p.length-2)
theorem zfU (p:List Int) (n:Nat):∀j,(trL p n j).length=j+1
 | 0=>rfl
 | j+1=>by unfold trL;rw [List.length_append,zfU p n j];rfl
theorem zoA {p tr:List Int} {n k A:Nat} (hp:∀j,Sz 1 (p.getD j 0)) (ht:∀j,Sz A (tr.getD j 0)) (hk:k≤100):∀j,Sz (A+3+j) (trI p tr n k j)
 | 0=>by
  unfold trI
  exact((hp _).mul (Sz.lit (z:=(k:Int)) (k:=1) (by omega) (by decide))).mono (by omega)
 | j+1=>by
  unfold trI
  exact Sz.add (zoA hp ht hk j) ((hp _).mul (ht _)) (by omega) (by omega)
theorem trL_sz {p:List Int} {n:Nat} (hp:∀j,Sz 1 (p.getD j 0)) (hn:n≤100):∀j,j≤90→∀i,Sz (1+100*j) ((trL p n j).getD i 0)
 | 0,_,i=>by
  unfold trL
  cases i with
  | zero=>exact Sz.lit (z:=(n:Int)) (by omega) (by decide)
  | succ i=>exact Sz.zero
 | j + 1,hj,i=>by
  have ih:=trL_sz hp hn j (by omega)
  have hl:=zfU p n j
  unfold trL
  rw [List.getD_eq_getElem?_getD]
  by_cases h:i<j+1
  ·rw [List.getElem?_append_left (by omega),← List.getD_eq_getElem?_getD];exact(ih i).mono (by omega)
  ·rw [List.getElem?_append_right (by omega),hl]
   by_cases h2:i=j+1
   ·subst h2
    simp only [Nat.sub_self,List.getElem?_cons_zero,Option.getD_some]
    exact(zoA hp ih (by omega) j).neg.mono (by omega)
   ·rw [List.getElem?_eq_none (by simp;omega)];exact Sz.zero
def hvC (p:List Int):Nat:=if p.length=2 then 0 else 64
def oA (p:List Int) (a b d lo hi den:Int):AV:=.pd [.sq p,lI a,lI b,lI d,.lst .whole p,.lst .whole (trZ p),.lit (.bool (decide (lo<0))),.wd lo,.lit (.bool (decide (hi<0))),.wd hi,.lit (.bool (decide (den<0))),.wd den] 0
def openA (p:List Int) (a b d:Int):AV:=oA p a b d (hvG p (hvC p) a b d).1 (hvG p (hvC p) a b d).2.1 (hvG p (hvC p) a b d).2.2
theorem sgn_r64 (x y:Int):r64 (x.sign*y.sign):=by
 rcases sgn3 x with e | e | e<;>rcases sgn3 y with f | f | f<;>rw [e,f]<;>decide
theorem zpy {x y:Int} {m:Nat} (h1:Sz m x) (h2:Sz m y) (hm:m≤1048576):pDD x y:=⟨rZ h1 hm,rZ h2 hm⟩
theorem znm {p:List Int} {a b d:Int} (h:zbw p a b d=0):ChkR p a b d:=by
 rcases zg1 p a b d with k | k | ⟨l2,l5,bg⟩ | ⟨l2,l5,bg,k⟩
 ·exact k
 ·rw [zmo k] at h;cases h
 ·rw [zmn ⟨l2,l5⟩ bg] at h;cases h
 ·rw [zmp ⟨l2,l5⟩ k] at h;cases h
theorem op_hv {p:List Int} {tr:List Int} {a b d:Int} {m0:Nat} (hl:p.length≤5) (hp:SzL 20000 p):∀(k:Nat) (lo hi den i:Int) (m:Nat),i+k=64→0≤i→Sz m lo→Sz m hi→Sz m den→m+k≤1000 →
 op_L6 (zeh p a b d m0 tr i lo hi den) (Ex.exit 4,zjY p a b d m0 tr 64 (hvG p k lo hi den).1 (hvG p k lo hi den).2.1 (hvG p k lo hi den).2.2)
 | 0,lo,hi,den,i,m,hi0,hi1,h1,h2,h3,hm=>by
  obtain rfl:i=64:=by omega
  exact op_L6_0_2 p a b d m0 tr 64 lo hi den (by omega)
 | k + 1,lo,hi,den,i,m,hi0,hi1,h1,h2,h3,hm=>by
  have a1:Sz (m+1) (lo+hi):=h1.add h2 (by omega) (by omega)
  have a2:Sz (m+1) (den+den):=h3.add h3 (by omega) (by omega)
  have a3:Sz (m+1) (lo+lo):=h1.add h1 (by omega) (by omega)
  have a4:Sz (m+1) (hi+hi):=h2.add h2 (by omega) (by omega)
  have hp1:zcw p lo den:=⟨Nat.ble_eq_true_of_le hl,hp,h1.mono (by omega),h3.mono (by omega)⟩
  have hp2:zcw p (lo+hi) (den+den):=⟨Nat.ble_eq_true_of_le hl,hp,a1.mono (by omega),a2.mono (by omega)⟩
  unfold hvG
  by_cases hb:(zaf p lo den).sign*(zaf p (lo+hi) (den+den)).sign<0
  ·rw [if_pos hb]
   have ih:=op_hv (tr:=tr) (a:=a) (b:=b) (d:=d) (m0:=m0) hl hp k (lo+lo) (lo+hi) (den+den) (i+1) (m+1) (by omega) (by omega) a3 a1 a2 (by omega)
   exact op_L6_0_0 p a b d m0 tr i lo hi den (by omega) (zpy h1 h2 (by omega)) (zpy h3 h3 (by omega)) hp1 hp2 (sgn_r64 _ _) hb (zpy h1 h1 (by omega)) (by omega) ih
  ·rw [if_neg hb]
   have ih:=op_hv (tr:=tr) (a:=a) (b:=b) (d:=d) (m0:=m0) hl hp k (lo+hi) (hi+hi) (den+den) (i+1) (m+1) (by omega) (by omega) a1 a4 a2 (by omega)
   exact op_L6_0_1 p a b d m0 tr i lo hi den (by omega) (zpy h1 h2 (by omega)) (zpy h3 h3 (by omega)) hp1 hp2 (sgn_r64 _ _) hb (zpy h2 h2 (by omega)) (by omega) ih
theorem op_in {p tr:List Int} {a b d:Int} {n k A:Nat} (hp:∀j,Sz 1 (p.getD j 0)) (ht:∀j,Sz A (tr.getD j 0)) (hA:A≤20000) (hk:k<n) (hn:n<p.length) (h5:p.length≤5) (hl:tr.length=k):∀(m j:Nat),j+1+m=k →
 op_L3 (zhw n k p a b d k tr ((j:Int)+1) (trI p tr n k j)) (Ex.exit 2,zgA n k p a b d k tr k (trI p tr n k (k-1)))
 | 0,j,hj=>by
  obtain rfl:k=j+1:=by omega
  exact op_L3_0_1 n (j+1:Nat) p a b d (j+1) tr ((j:Int)+1) _ (by omega)
 | m + 1,j,hj=>by
  have ih:=op_in (a:=a) (b:=b) (d:=d) hp ht hA hk hn h5 hl m (j+1) (by omega)
  have e1:Int.toNat ((n:Int)-((j:Int)+1))=n-(j+1):=by omega
  have e2:Int.toNat ((k:Int)-((j:Int)+1))=k-(j+1):=by omega
  have fz:∀ {z:Int} {j:Nat},Sz j z→j≤1048576→zag z:=fun h h2=>rZ h h2
  have s1:=zoA (n:=n) (k:=k) hp ht (by omega) j
  have go:=@op_L3_0_0 n k p a b d k tr ((j:Int)+1) (trI p tr n k j) (by omega) (by omega) (by omega) (by omega) (by omega) (by omega) (by omega) (by rw [e2];omega) rfl rfl
   (by rw [e1,e2];exact ⟨fz (hp _) (by decide),fz (ht _) (by omega)⟩) (by rw [e1,e2];exact ⟨fz s1 (by omega),fz ((hp _).mul (ht _)) (by omega)⟩) (by omega) (Ex.exit 2,zgA n k p a b d k tr k (trI p tr n k (k-1)))
  rw [e1,e2] at go
  exact go ih
theorem op_out {p l2:List Int} {a b d:Int} {n:Nat} (hp:∀j,Sz 1 (p.getD j 0)) (hn:n<p.length) (h5:p.length≤5):∀(m j:Nat),j+2+m=n →
 zmV (zhx n p a b d l2 ((j:Int)+2) (j+2) (trL p n (j+1))) (Ex.exit 0,zeG n p a b d l2 n n (trL p n (n-1)))
 | 0,j,hj=>by
  obtain rfl:n=j+2:=by omega
  have:=op_L4_1_1 (j+2:Nat) p a b d l2 ((j:Int)+2) (j+2) (trL p (j+2) (j+1)) (by omega)
  exact this
 | m + 1,j,hj=>by
  have ih:=op_out (l2:=l2) (a:=a) (b:=b) (d:=d) hp hn h5 m (j+1) (by omega)
  have e1:Int.toNat ((n:Int)-((j:Int)+2))=n-(j+2):=by omega
  have hl:=zfU p n (j+1)
  have hz:=trL_sz (p:=p) (n:=n) hp (by omega) (j+1) (by omega)
  have K:=op_in (a:=a) (b:=b) (d:=d) (n:=n) (k:=j+2) hp hz (by omega) (by omega) hn h5 (by omega) (j+1) 0 (by omega)
  have fz:∀ {z:Int} {j:Nat},Sz j z→j≤1048576→zag z:=fun h h2=>rZ h h2
  have go:=@op_L4_1_0 n p a b d l2 ((j:Int)+2) (j+2) (trL p n (j+1)) ((j+2:Nat):Int) (trI p (trL p n (j+1)) n (j+2) (j+1)) (by omega) (by omega) (by omega) (by omega) (by unfold cZ;omega) rfl
   (by rw [e1];exact ⟨fz (hp _) (by decide),fz (j:=1) (Sz.lit (z:=(j:Int)+2) (by omega) (by decide)) (by decide)⟩)
   (by rw [e1];exact K) (by simp) (by simp;omega) (by simp;omega) (by omega) (by omega) (Ex.exit 0,zeG n p a b d l2 n n (trL p n (n-1)))
  rw [show List.take (j+2) (trL p n (j+1))=trL p n (j+1) from List.take_of_length_le (by omega)] at go
  refine go ?_
  rw [show((j+1:Nat):Int)+2=(j:Int)+2+1 by omega] at ih
  exact ih
theorem szL1 {p:List Int} (h:∀c∈p,c.natAbs≤1000):SzL 20000 p:=szL_of (zgO fun c hc=>by have:=h c hc;exact Sz.lit (by omega) (by decide))
theorem open_fc (p:List Int) (a b d:Int) (h0:zbw p a b d=0):FC tP 33 [.agg [.sq p,lI a,lI b,lI d]] (.tup [openA p a b d,lI 0]):=by
 have hr:=znm h0
 have hrd:=hr.rd
 obtain ⟨r1,r2,r3,r4,r5,r6⟩:-1000000≤a∧a≤1000000∧-1000000≤b∧b≤1000000∧1≤d∧d≤1000000:=⟨hr.a1,hr.a2,hr.b1,hr.b2,hr.d1,hr.d2⟩
 have l2:=hr.l2
 have l5:=hr.l5
 have hp:∀j,Sz 1 (p.getD j 0):=zgO fun c hc=>by have:=hrd.2.2 c hc;exact Sz.lit (by omega) (by decide)
 have hne:p≠[]:=fun e=>by rw [e] at l2;simp at l2
 obtain ⟨n,hn⟩:∃n,p.length=n+1:=⟨p.length-1,by omega⟩
 have eN:(p.length:Int)-1=(n:Int):=by omega
 have fl:∀x:Int,x.natAbs≤1000000→cZ x:=fun x hx=>by unfold cZ;omega
 unfold openA
 by_cases h1:n=1
 ·have hc:hvC p=0:=if_pos (by omega)
  have ht:trZ p=[(n:Int)]:=by unfold trZ;rw [show p.length-2=0 by omega,show p.length-1=n by omega];rfl
  rw [hc]
  unfold oA
  rw [ht]
  have:=op_2 p a b d h0 ⟨hne,by omega⟩ hrd (fl a (by omega)) (fl b (by omega)) (fl d (by omega)) (by omega) (fl _ (by omega)) (op_L4_0_1 _ p a b d _ (by omega)) (by omega) (by simp)
  rw [eN] at this
  exact this
 ·have hc:hvC p=64:=if_neg (by omega)
  have ht:trZ p=trL p n (n-1):=by unfold trZ;rw [show p.length-2=n-1 by omega,show p.length-1=n by omega]
  rw [hc]
  unfold oA
  rw [ht]
  have e1:Int.toNat ((n:Int)-1)=n-1:=by omega
  have fz:∀ {z:Int} {j:Nat},Sz j z→j≤1048576→zag z:=fun h h2=>rZ h h2
  have L:=op_out (n:=n) (l2:=[(n:Int)]) (a:=a) (b:=b) (d:=d) hp (by omega) l5 (n-2) 0 (by omega)
  have t1:trL p n 1=List.take 1 [(n:Int)]++List.take 1 [-(p.getD (n-1) 0*1)]:=rfl
  rw [show((0:Nat):Int)+2=2 from rfl,show 0+2=2 from rfl,show 0+1=1 from rfl,t1] at L
  have go:=@op_L4_0_0 n p a b d [(n:Int)] (by omega) (by omega) (by omega) (by omega) (by unfold cZ;omega) rfl (by rw [e1];exact ⟨fz (hp _) (by decide),fz (j:=1) (Sz.lit (z:=1) (by decide) (by decide)) (by decide)⟩)
   (op_L1_0_0 n p a b d [(n:Int)] _) (by simp) (by simp) (by simp) (by simp) (Ex.exit 0,zeG n p a b d [(n:Int)] n n (trL p n (n-1)))
  rw [e1] at go
  have K:=go L
  have H:=op_hv (p:=p) (tr:=trL p n (n-1)) (a:=a) (b:=b) (d:=d) (m0:=n) l5 (szL1 hrd.2.2) 64 a b d 0 3 (by omega) (by omega) (Sz.lit (by omega) (by decide)) (Sz.lit (by omega) (by decide)) (Sz.lit (by omega) (by decide)) (by omega)
  have hl:=zfU p n (n-1)
  have:=op_3 p a b d n n (trL p n (n-1)) 64 _ _ _ h0 ⟨hne,by omega⟩ hrd (fl a (by omega)) (fl b (by omega)) (fl d (by omega)) (by omega) (fl _ (by omega)) (by rw [eN];exact K) (by omega) H (by omega)
  rw [show List.take n (trL p n (n-1))=trL p n (n-1) from List.take_of_length_le (by omega)] at this
  exact this
noncomputable section
end
open Go.Kf
instance tstRdc {p c:List Int} {d:Int}:Tst (zgb p c d):=
 have:Tst (∀j,Sz 20000 (c.getD j 0)):=⟨Tst.b (SzL 20000 c),fun h=>szLg (Tst.ok h)⟩
 inferInstanceAs (Tst ((2≤p.length∧p.length≤5∧∀x∈p,x.natAbs≤1000)∧c≠[]∧c.length≤100∧(∀j,Sz 20000 (c.getD j 0))∧d≠0∧Sz 20000 d))
def cRdK (args:List AV):M AV:=match args with
 | [x,c,y]=>do
  let p ← asRL x
  let l ← asWL c
  let d ← asW y
  tellD (zgb p l d) (Tst.b (zgb p l d))
  gives (nuF (wZ p (p.length-1) l) d)
 | _=>fail 312
theorem cRdK_ok:jZ tP 127 cRdK:=by
 intro args _
 unfold cRdK
 split
 ·exact Spec.bind (asRL_spec.mono fun p hp=>Spec.bind (asWL_spec.mono fun l hl=>Spec.bind (asW_spec.mono fun d hd=>Spec.bind (Spec.tellD Tst.ok fun h=>Spec.gives ((zhK p l d h).le (.cons hp (.cons hl (.cons hd .nil))) (Le.refl _))))))
 ·exact Spec.fail
def pTmK (p:List Int):Prop:=2≤p.length∧p.length≤5∧∀x∈p,x.natAbs≤1000
instance tstTmK {p:List Int}:Tst (pTmK p):=inferInstanceAs (Tst (2≤p.length∧p.length≤5∧∀x∈p,x.natAbs≤1000))
def cTmK (args:List AV):M AV:=match args with
 | [r,x,y]=>do
  let p ← asRL r
  let q ← zrS x
  let q2 ← zrS y
  match q,q2 with
  | (a,b,c,e,d),(f,g,h,i,j)=>do
   tellD (pTmK p∧pNs a b c e d∧pNs f g h i j) (Tst.b (pTmK p∧pNs a b c e d∧pNs f g h i j))
   gives (nuF (wZ p (p.length-1) (tmS (p.length-1) a b c e f g h i)) (d*j))
 | _=>fail 263
theorem cTmK_ok:jZ tP 80 cTmK:=by
 intro args _
 unfold cTmK
 split
 ·exact Spec.bind (asRL_spec.mono fun p hp=>Spec.bind (asNu_spec.mono fun q hq=>Spec.bind (asNu_spec.mono fun q2 hq2=>Spec.bind (Spec.tellD Tst.ok fun h=>Spec.gives ((ntm_fc p _ _ _ _ _ _ _ _ _ _ h.1.1 h.1.2.1 h.1.2.2 h.2.1 h.2.2).le (.cons hp (.cons hq (.cons hq2 .nil))) (Le.refl _))))))
 ·exact Spec.fail
def zet:Ctr:=(80,cTmK) :: (88,cNp) :: (127,cRdK) :: ctrL
theorem zkK:∀p∈zet,jZ tP p.1 p.2:=CAll.cons cTmK_ok<|CAll.cons cNp_ok<|CAll.cons cRdK_ok znA
theorem okAw:(eZ tP zet bw).OK:=JZ zkK
end Go.Proofs.YtagbldogmjhdpaaGreatDoor
end
section
namespace Go.Proofs
open Go.Shelf
def Tryz.lays169_ren:Go.Shelf.Ren:=⟨fun | 169=>164 | n=>n,fun | 70=>176 | 9=>9 | 0=>0 | 72=>179 | 37=>177 | 127=>204 | 3=>3 | 5=>5 | n=>n,fun | n=>n⟩
theorem Tryz.lays169:Go.Proofs.Lays.n169 Tryz.prog Tryz.lays169_ren:={
 mixed:=by kernel_rfl
 f169:=Tryz.func164.trans (congrArg some (by kernel_rfl))
 t0:=Tryz.underlying0
 a0:=Tryz.isAgg0
 z0:=Tryz.sizeOf0
 v0:=Tryz.zeroValue0
 t3:=Tryz.underlying3
 a3:=Tryz.isAgg3
 z3:=Tryz.sizeOf3
 v3:=Tryz.zeroValue3
 t9:=Tryz.underlying9
 a9:=Tryz.isAgg9
 z9:=Tryz.sizeOf9
 v9:=Tryz.zeroValue9
 t37:=Tryz.underlying177
 a37:=Tryz.isAgg177
 z37:=Tryz.sizeOf177
 v37:=Tryz.zeroValue177
 t70:=Tryz.underlying176
 a70:=Tryz.isAgg176
 z70:=Tryz.sizeOf176
 v70:=Tryz.zeroValue176
 t72:=Tryz.underlying179
 a72:=Tryz.isAgg179
 z72:=Tryz.sizeOf179
 v72:=Tryz.zeroValue179
 t127:=Tryz.underlying204
 a127:=Tryz.isAgg204
 z127:=Tryz.sizeOf204
 v127:=Tryz.zeroValue204 }
theorem Tryz.Builder_Extra_169:Builder.Extra Tryz.prog Tryz.lays169_ren:={
 sizeBuilder:=by kernel_rfl
 liesBuilder:=by kernel_rfl
 t5:=Tryz.underlying5
 a5:=Tryz.isAgg5
 z5:=Tryz.sizeOf5
 v5:=Tryz.zeroValue5
 infoByte:=by kernel_rfl
 cellsByte:=by kernel_rfl
 sizeByte:=by kernel_rfl
 neB5:=by decide }
def Tryz.lays156_ren:Go.Shelf.Ren:=⟨fun | 156=>126 | 165=>162 | 166=>163 | 169=>164 | 240=>185 | 241=>186 | 276=>198 | 277=>199 | n=>n,fun | 31=>145 | 9=>9 | 3=>3 | 4=>4 | 0=>0 | 20=>20 | 72=>179 | 76=>183 | 70=>176 | 37=>177 | 75=>182 | 127=>204 | 164=>211 | 5=>5 | 80=>175 | n=>n,fun | n=>n⟩
theorem Tryz.lays156:Go.Proofs.Lays.n156 Tryz.prog Tryz.lays156_ren:={
 mixed:=by kernel_rfl
 f156:=Tryz.func126.trans (congrArg some (by kernel_rfl))
 f165:=Tryz.func162.trans (congrArg some (by kernel_rfl))
 f166:=Tryz.func163.trans (congrArg some (by kernel_rfl))
 f169:=Tryz.func164.trans (congrArg some (by kernel_rfl))
 f240:=Tryz.func185.trans (congrArg some (by kernel_rfl))
 f241:=Tryz.func186.trans (congrArg some (by kernel_rfl))
 f276:=Tryz.func198.trans (congrArg some (by kernel_rfl))
 f277:=Tryz.func199.trans (congrArg some (by kernel_rfl))
 t0:=Tryz.underlying0
 a0:=Tryz.isAgg0
 z0:=Tryz.sizeOf0
 v0:=Tryz.zeroValue0
 t3:=Tryz.underlying3
 a3:=Tryz.isAgg3
 z3:=Tryz.sizeOf3
 v3:=Tryz.zeroValue3
 t4:=Tryz.underlying4
 a4:=Tryz.isAgg4
 z4:=Tryz.sizeOf4
 v4:=Tryz.zeroValue4
 t9:=Tryz.underlying9
 a9:=Tryz.isAgg9
 z9:=Tryz.sizeOf9
 v9:=Tryz.zeroValue9
 t20:=Tryz.underlying20
 a20:=Tryz.isAgg20
 z20:=Tryz.sizeOf20
 v20:=Tryz.zeroValue20
 t31:=Tryz.underlying145
 a31:=Tryz.isAgg145
 z31:=Tryz.sizeOf145
 v31:=Tryz.zeroValue145
 t37:=Tryz.underlying177
 a37:=Tryz.isAgg177
 z37:=Tryz.sizeOf177
 v37:=Tryz.zeroValue177
 t70:=Tryz.underlying176
 a70:=Tryz.isAgg176
 z70:=Tryz.sizeOf176
 v70:=Tryz.zeroValue176
 t72:=Tryz.underlying179
 a72:=Tryz.isAgg179
 z72:=Tryz.sizeOf179
 v72:=Tryz.zeroValue179
 t75:=Tryz.underlying182
 a75:=Tryz.isAgg182
 z75:=Tryz.sizeOf182
 v75:=Tryz.zeroValue182
 t76:=Tryz.underlying183
 a76:=Tryz.isAgg183
 z76:=Tryz.sizeOf183
 v76:=Tryz.zeroValue183
 t127:=Tryz.underlying204
 a127:=Tryz.isAgg204
 z127:=Tryz.sizeOf204
 v127:=Tryz.zeroValue204
 t164:=Tryz.underlying211
 a164:=Tryz.isAgg211
 z164:=Tryz.sizeOf211
 v164:=Tryz.zeroValue211 }
theorem Tryz.Builder_Extra_156:Builder.Extra Tryz.prog Tryz.lays156_ren:={
 sizeBuilder:=by kernel_rfl
 liesBuilder:=by kernel_rfl
 t5:=Tryz.underlying5
 a5:=Tryz.isAgg5
 z5:=Tryz.sizeOf5
 v5:=Tryz.zeroValue5
 infoByte:=by kernel_rfl
 cellsByte:=by kernel_rfl
 sizeByte:=by kernel_rfl
 neB5:=by decide }
open Go.RowKit in
theorem Tryz.strings_Join (bk o c:Nat) (xs:List ByteArray) (sep:ByteArray) (w:World) (hcells:∀(j:Nat) x,xs[j]? = some x→w.cell? ⟨bk,o+j,none⟩=some (.string x)) (hbk:bk<w.heap.size) (hN:xs.length≤140737488355328) (hcap:xs.length≤c) (hlen:(Lib.join (xs.map (·.data.toList)) sep.data.toList).length≤140737488355328) :
 Calls Tryz.prog 126 #[.slice (some ⟨bk,o,none⟩) xs.length c,.string sep] w fun e w'=>e=.returned (.string ⟨(Lib.join (xs.map (·.data.toList)) sep.data.toList).toArray⟩)∧Below w.heap.size w w':=Any.strings_Join Tryz.lays156 Tryz.Builder_Extra_156 bk o c xs sep w hcells hbk hN hcap hlen
open Go.RowKit in
theorem Tryz.Builder_String_any_k (B b:Nat) (l:List UInt8) (w:World) (h:Lib.IsBuilderF 179 5 B b (Lib.byteCells l) w) (hBw:B≤w.heap.size) :
 Calls Tryz.prog 164 #[.pointer (some ⟨b,0,none⟩)] w fun e w'=>e=.returned (.string ⟨l.toArray⟩)∧(Lib.IsBuilderF 179 5 B b (Lib.byteCells l) w'∧Below B w w'∧Lib.OthersKept 5 (some b) w w'):=Any.Builder_String_any_k Tryz.lays169 Tryz.Builder_Extra_169 B b l w h hBw
def Tryz.lays171_ren:Go.Shelf.Ren:=⟨fun | 171=>183 | 243=>194 | 246=>200 | 283=>204 | 284=>205 | 285=>206 | 286=>207 | 129=>209 | 317=>208 | 318=>210 | 319=>211 | 320=>212 | 337=>213 | 338=>214 | n=>n,fun | 3=>3 | 9=>9 | 2=>2 | 4=>4 | 171=>221 | 0=>0 | 53=>218 | 37=>177 | 5=>5 | 173=>224 | 212=>227 | 51=>215 | 20=>20 | 213=>228 | 46=>207 | 232=>231 | 233=>232 | n=>n,fun | 17=>1 | 18=>2 | 19=>3 | n=>n⟩
theorem Tryz.lays171:Go.Proofs.Lays.n171 Tryz.prog Tryz.lays171_ren:={
 mixed:=by kernel_rfl
 f129:=Tryz.func209.trans (congrArg some (by kernel_rfl))
 f171:=Tryz.func183.trans (congrArg some (by kernel_rfl))
 f243:=Tryz.func194.trans (congrArg some (by kernel_rfl))
 f246:=Tryz.func200.trans (congrArg some (by kernel_rfl))
 f283:=Tryz.func204.trans (congrArg some (by kernel_rfl))
 f284:=Tryz.func205.trans (congrArg some (by kernel_rfl))
 f285:=Tryz.func206.trans (congrArg some (by kernel_rfl))
 f286:=Tryz.func207.trans (congrArg some (by kernel_rfl))
 f317:=Tryz.func208.trans (congrArg some (by kernel_rfl))
 f318:=Tryz.func210.trans (congrArg some (by kernel_rfl))
 f319:=Tryz.func211.trans (congrArg some (by kernel_rfl))
 f320:=Tryz.func212.trans (congrArg some (by kernel_rfl))
 f337:=Tryz.func213.trans (congrArg some (by kernel_rfl))
 f338:=Tryz.func214.trans (congrArg some (by kernel_rfl))
 t0:=Tryz.underlying0
 a0:=Tryz.isAgg0
 z0:=Tryz.sizeOf0
 v0:=Tryz.zeroValue0
 t2:=Tryz.underlying2
 a2:=Tryz.isAgg2
 z2:=Tryz.sizeOf2
 v2:=Tryz.zeroValue2
 t3:=Tryz.underlying3
 a3:=Tryz.isAgg3
 z3:=Tryz.sizeOf3
 v3:=Tryz.zeroValue3
 t4:=Tryz.underlying4
 a4:=Tryz.isAgg4
 z4:=Tryz.sizeOf4
 v4:=Tryz.zeroValue4
 t5:=Tryz.underlying5
 a5:=Tryz.isAgg5
 z5:=Tryz.sizeOf5
 v5:=Tryz.zeroValue5
 t9:=Tryz.underlying9
 a9:=Tryz.isAgg9
 z9:=Tryz.sizeOf9
 v9:=Tryz.zeroValue9
 t20:=Tryz.underlying20
 a20:=Tryz.isAgg20
 z20:=Tryz.sizeOf20
 v20:=Tryz.zeroValue20
 t37:=Tryz.underlying177
 a37:=Tryz.isAgg177
 z37:=Tryz.sizeOf177
 v37:=Tryz.zeroValue177
 t46:=Tryz.underlying207
 a46:=Tryz.isAgg207
 z46:=Tryz.sizeOf207
 v46:=Tryz.zeroValue207
 t51:=Tryz.underlying215
 a51:=Tryz.isAgg215
 z51:=Tryz.sizeOf215
 v51:=Tryz.zeroValue215
 t53:=Tryz.underlying218
 a53:=Tryz.isAgg218
 z53:=Tryz.sizeOf218
 v53:=Tryz.zeroValue218
 t171:=Tryz.underlying221
 a171:=Tryz.isAgg221
 z171:=Tryz.sizeOf221
 v171:=Tryz.zeroValue221
 t173:=Tryz.underlying224
 a173:=Tryz.isAgg224
 z173:=Tryz.sizeOf224
 v173:=Tryz.zeroValue224
 t212:=Tryz.underlying227
 a212:=Tryz.isAgg227
 z212:=Tryz.sizeOf227
 v212:=Tryz.zeroValue227
 t213:=Tryz.underlying228
 a213:=Tryz.isAgg228
 z213:=Tryz.sizeOf228
 t232:=Tryz.underlying231
 a232:=Tryz.isAgg231
 z232:=Tryz.sizeOf231
 v232:=Tryz.zeroValue231
 t233:=Tryz.underlying232
 a233:=Tryz.isAgg232
 z233:=Tryz.sizeOf232
 v233:=Tryz.zeroValue232
 g17:=by kernel_rfl
 g18:=by kernel_rfl
 g19:=by kernel_rfl }
open Go.RowKit Go.Sort Go.Lib in
theorem Tryz.strconv_Itoa_small (i:Nat) (hi:i<100) (w:World) :
 Calls Tryz.prog 183 #[.int .i64 i] w fun e w'=>e=.returned (.string ⟨(Lib.decDigits i).toArray⟩)∧w'=w:=Any.strconv_Itoa_small Tryz.lays171 i hi w
end Go.Proofs
end
section
open Go Go.RowKit
namespace Go.Proofs
set_option maxRecDepth 100000
set_option maxHeartbeats 4000000
set_option linter.unusedVariables false
set_option linter.unusedSimpArgs false
theorem Tryz.write_k (B b:Nat) (bs:List Value) (s:ByteArray) (w:World) (h:Lib.IsBuilderF 179 5 B b bs w) (hlen:bs.length+s.size≤140737488355328) (hBw:B≤w.heap.size) :
 Calls Tryz.prog 163 #[.pointer (some ⟨b,0,none⟩),.string s] w fun e w'=>e=.returned (.tuple #[.int .i64 s.size,.nilIface])∧(Lib.BuilderAtF 179 5 B b (.pointer (some ⟨b,0,none⟩)) (bs++Lib.strCells s) w'∧Below B w w'∧Lib.OthersKept 5 (some b) w w'):=
 Any.Builder_WriteString_k { Tryz.lays156 with } Tryz.Builder_Extra_156 B b bs s w h hlen hBw
def TxtIs (w:World) (l:List UInt8) (e:Ending) (w':World):Prop:=e=.returned (.string ⟨l.toArray⟩)∧Below w.heap.size w w'
theorem text_zero (neg:Bool) (a:Option Addr) (cap:Nat) (w:World) :
 Calls Tryz.prog 161 #[.agg #[.bool neg,.slice a 0 cap]] w (TxtIs w [48]):=by
 go_enter Tryz.func161,Tryz.ntmps161
 go_wp2
 go_ret
 exact ⟨rfl,(Below.refl _ _).alloc (Nat.le_refl _) _⟩
def TR (B:Nat) (W1:World) (l0 l1:List UInt8) (i:Value) (wr:World):Prop:=
 (i=.int .i64 0∧Lib.IsBuilderF 179 5 B B (Lib.byteCells l0) wr∧Below B W1 wr)∨(i=.int .i64 (-1)∧Lib.IsBuilderF 179 5 B B (Lib.byteCells l1) wr∧Below B W1 wr)
theorem zeu (d:Nat) (hd:d<100):(Lib.decDigits d).length≤2:=by
 by_cases h:d<10
 ·rw [Lib.decDigits_one h];simp
 ·rw [Lib.decDigits_two h hd];simp
theorem text_one (neg:Bool) (b o cap d:Nat) (w:World) (hd:d<100) (hcap:1≤cap) (hc:w.cell? ⟨b,o,none⟩=some (.int .i64 d)) :
 Calls Tryz.prog 161 #[.agg #[.bool neg,.slice (some ⟨b,o,none⟩) 1 cap]] w (TxtIs w ((if neg then [45] else [])++Lib.decDigits d)):=by
 have hbw:b<w.heap.size:=by
  rcases Nat.lt_or_ge b w.heap.size with h | h
  ·exact h
  ·have:w.heap[b]? = none:=by simp;omega
   simp [World.cell?,this] at hc
 go_enter Tryz.func161,Tryz.ntmps161
 cases neg with
 | false =>
  go_wp2
  go_loopw [4] (fun i wr=>TR (w.heap.size+1) ((w.alloc (.cells #[.bool false,.slice (some ⟨b,o,none⟩) 1 cap] 97)).alloc (.cells #[.pointer none,.slice none 0 0] 179)) [] (Lib.decDigits d) i wr) (fun i _=>(intOf i+1).toNat)
  case atStart=>
   exact .inl ⟨rfl,Lib.IsBuilderF.of (by have:=Lib.fresh_isBuilder 179 5 (w.alloc (.cells #[.bool false,.slice (some ⟨b,o,none⟩) 1 cap] 97));simpa [Lib.byteCells] using this),Below.refl _ _⟩
  case round=>
   have hsz:w.heap.size+2≤wr.heap.size:=by
    rcases hrel with ⟨_,_,hB⟩ | ⟨_,_,hB⟩<;>(have:=hB.size;simp at this;omega)
   have hcells:wr.cell? ⟨w.heap.size,1,none⟩=some (.slice (some ⟨b,o,none⟩) 1 cap)∧wr.cell? ⟨b,o,none⟩=some (.int .i64 d):=by
    rcases hrel with ⟨_,_,hB⟩ | ⟨_,_,hB⟩ <;>
    ·refine ⟨(hB.cell (p:=⟨w.heap.size,1,none⟩) (by simp)).trans ?_,(hB.cell (p:=⟨b,o,none⟩) (by simp;omega)).trans ?_⟩
     ·exact World.cell?_alloc2_first ..
     ·exact(World.cell?_alloc_past _ _ _ (by simp;omega)).trans ((World.cell?_alloc_past _ _ _ hbw).trans hc)
   obtain ⟨c1,cd⟩:=hcells
   obtain ⟨rfl,hI,hB⟩ | ⟨rfl,hI,hB⟩:=hrel
   ·go_wp2_with (go_at_call 183;refine (Tryz.strconv_Itoa_small d hd _).mono ?_)
    rintro e W2 ⟨rfl,rfl⟩
    go_wp2_with (go_at_call 163;refine (Tryz.write_k (w.heap.size+1) (w.heap.size+1) _ _ _ hI (by have:=zeu d hd;simp [Lib.byteCells,ByteArray.size];omega) (by omega)).mono ?_)
    rintro e W3 ⟨rfl,h1,b1,k1⟩
    go_wp2
    go_roundw
    case rel=>exact .inr ⟨rfl,.inr (by simpa [Lib.byteCells,Lib.strCells] using h1),hB.trans b1⟩
    case measure=>simp [intOf]
   ·go_wp2_with (go_at_call 164;refine (Tryz.Builder_String_any_k (w.heap.size+1) (w.heap.size+1) _ _ hI (by omega)).mono ?_)
    rintro e W2 ⟨rfl,h1,b1,k1⟩
    go_wp2
    go_ret
    exact ⟨by simp,(((Below.refl _ w).alloc (Nat.le_refl _) _).alloc (by simp) _).trans ((hB.mono (by omega)).trans (b1.mono (by omega)))⟩
 | true=>
  have hI0:Lib.IsBuilderF 179 5 (w.heap.size+1) (w.heap.size+1) (Lib.byteCells []) ((w.alloc (.cells #[.bool true,.slice (some ⟨b,o,none⟩) 1 cap] 97)).alloc (.cells #[.pointer none,.slice none 0 0] 179)):=
   Lib.IsBuilderF.of (by have:=Lib.fresh_isBuilder 179 5 (w.alloc (.cells #[.bool true,.slice (some ⟨b,o,none⟩) 1 cap] 97));simpa [Lib.byteCells] using this)
  go_wp2_with (go_at_call 163;refine (Tryz.write_k (w.heap.size+1) (w.heap.size+1) _ _ _ hI0 (by simp [Lib.byteCells,ByteArray.size]) (by simp)).mono ?_)
  rintro e W0 rfl h0 b0 k0
  have hz0:w.heap.size+2≤W0.heap.size:=by have:=b0.size;simp at this;omega
  have cc:∀W:World,Below (w.heap.size+1) W0 W→W.cell? ⟨w.heap.size,0,none⟩=some (.bool true)∧W.cell? ⟨w.heap.size,1,none⟩=some (.slice (some ⟨b,o,none⟩) 1 cap)∧W.cell? ⟨b,o,none⟩=some (.int .i64 d):=by
   intro W hB
   have hB2:=b0.trans hB
   exact ⟨(hB2.cell (p:=⟨w.heap.size,0,none⟩) (by simp)).trans (World.cell?_alloc2_first ..),(hB2.cell (p:=⟨w.heap.size,1,none⟩) (by simp)).trans (World.cell?_alloc2_first ..),
    (hB2.cell (p:=⟨b,o,none⟩) (by simp;omega)).trans ((World.cell?_alloc_past _ _ _ (by simp;omega)).trans ((World.cell?_alloc_past _ _ _ hbw).trans hc))⟩
  have cw0:=cc W0 (Below.refl _ _)
  obtain ⟨k0a,k0b,k0c⟩:=cw0
  go_wp2
  go_loopw [4] (fun i wr=>TR (w.heap.size+1) W0 [45] ([45]++Lib.decDigits d) i wr) (fun i _=>(intOf i+1).toNat)
  case atStart=>
   exact .inl ⟨rfl,.inr (by simpa [Lib.byteCells,Lib.strCells] using h0),Below.refl _ _⟩
  case round=>
   have hB:Below (w.heap.size+1) W0 wr:=by
    rcases hrel with ⟨_,_,hB⟩ | ⟨_,_,hB⟩<;>exact hB
   have hsz:w.heap.size+2≤wr.heap.size:=Nat.le_trans hz0 hB.size
   obtain ⟨c0,c1,cd⟩:=cc wr hB
   obtain ⟨rfl,hI,_⟩ | ⟨rfl,hI,_⟩:=hrel
   ·go_wp2_with (go_at_call 183;refine (Tryz.strconv_Itoa_small d hd _).mono ?_)
    rintro e W2 ⟨rfl,rfl⟩
    go_wp2_with (go_at_call 163;refine (Tryz.write_k (w.heap.size+1) (w.heap.size+1) _ _ _ hI (by have:=zeu d hd;simp [Lib.byteCells,ByteArray.size];omega) (by omega)).mono ?_)
    rintro e W3 ⟨rfl,h1,b1,k1⟩
    go_wp2
    go_roundw
    case rel=>exact .inr ⟨rfl,.inr (by simpa [Lib.byteCells,Lib.strCells] using h1),hB.trans b1⟩
    case measure=>simp [intOf]
   ·go_wp2_with (go_at_call 164;refine (Tryz.Builder_String_any_k (w.heap.size+1) (w.heap.size+1) _ _ hI (by omega)).mono ?_)
    rintro e W2 ⟨rfl,h1,b1,k1⟩
    go_wp2
    go_ret
    exact ⟨by simp,(((Below.refl _ w).alloc (Nat.le_refl _) _).alloc (by simp) _).trans ((b0.mono (by omega)).trans ((hB.mono (by omega)).trans (b1.mono (by omega))))⟩
end Go.Proofs
end
section
open Go Go.Ev Go.RowKit
namespace Go.Proofs.YtagbldogmjhdpaaGreatDoor
open Go.Proofs
set_option maxRecDepth 100000
set_option maxHeartbeats 4000000
set_option linter.unusedVariables false
set_option linter.unusedSimpArgs false
def txtL (z:Int):List UInt8:=if z=0 then [48] else(if decide (z<0)=true then [45] else [])++Lib.decDigits z.natAbs
def txtB (z:Int):ByteArray:=⟨(txtL z).toArray⟩
theorem wd_inv {E:Env} {z:Int} {v:Value} (h:Rd E (.wd z) v):∃a cap,v=.slice a (digs z.natAbs).length cap∧(digs z.natAbs).length≤cap∧IntsAt E (digs z.natAbs) a:=by
 cases h with
 | wd hi hc=>exact ⟨_,_,rfl,hc,hi⟩
theorem text_fc (z : Int) (hz : z.natAbs<100):FC tP 161 [W z] (.lit (.string (txtB z))):=by
  intro M w vs _ hl ha
  have h0:Rd ⟨w.heap,M,[]⟩ (W z) (vs.getD 0 undef):=ha 0 (by simp)
  obtain ⟨v0, rfl⟩ : ∃v0,vs = #[v0]:=by
    have h1:vs.size=1:=by simpa using hl.symm
    exact ⟨vs[0], by apply Array.ext (by simp [h1]);intro i h2 h3;have:i=0:=by omega
                     subst this;simp⟩
  have h0':Rd ⟨w.heap,M,[]⟩ (W z) v0:=h0
  unfold W at h0'
  cases h0' with
  | @agg _ us hlen hr=>
    obtain ⟨u0, u1, rfl⟩ : ∃ u0 u1,us = #[u0,u1]:=by
      have h1:us.size=2:=by simpa using hlen.symm
      exact ⟨us[0], us[1], by apply Array.ext (by simp [h1]);intro i h2 h3;have:i=0∨i=1:=by omega
                              rcases this with rfl | rfl<;>simp⟩
    have e0:u0=.bool (decide (z<0)):=Rd.lit_inv (hr 0 (by simp))
    obtain ⟨a,cap,e1,hcap,hi⟩:=wd_inv (hr 1 (by simp))
    have e1':u1=.slice a (digs z.natAbs).length cap:=e1
    subst e0;subst e1'
    by_cases h:z=0
    · subst h
      refine (text_zero _ a cap w).mono ?_
      rintro e w' ⟨rfl,hb⟩
      exact ⟨_,rfl,hb,.lit _⟩
    · have hd:digs z.natAbs=[((z.natAbs:Nat):Int)]:=by
        rw [zbx _ (by omega)]
        rw [Nat.mod_eq_of_lt (by omega),Nat.div_eq_of_lt (by omega)];rfl
      rw [hd] at hi hcap
      rcases hi with hi | ⟨b,o,rfl,_,hc⟩
      · cases hi
      · have hc0:=hc 0 (by simp)
        have hcell:w.cell? ⟨b,o,none⟩=some (.int .i64 ((z.natAbs:Nat):Int)):=by rw [cell?_eq];simpa using hc0
        rw [hd]
        refine (text_one (decide (z<0)) b o cap z.natAbs w hz (by simpa using hcap) hcell).mono ?_
        rintro e w' ⟨rfl,hb⟩
        refine ⟨_,rfl,hb,?_⟩
        have:(⟨((if decide (z<0)=true then [45] else [])++Lib.decDigits z.natAbs).toArray⟩:ByteArray)=txtB z:=by unfold txtB txtL;rw [if_neg h]
        rw [this];exact .lit _
def zot:List AV→Option (List ByteArray)
 | []=>some []
 | .lit (.string s) :: l=>match zot l with | some r=>some (s :: r) | none=>none
 | _=>none
theorem zl1:∀ {cs:List AV} {l:List ByteArray},zot cs=some l→cs=l.map fun s=>AV.lit (.string s)
 | [],l,h=>by cases h;rfl
 | c :: cs,l,h=>by
  unfold zot at h
  split at h
  ·rename_i heq;cases heq
  ·rename_i s q heq
   cases heq
   split at h
   ·rename_i r hr
    cases h
    rw [zl1 hr];rfl
   ·cases h
  ·cases h
def joinB (xs:List ByteArray) (sep:ByteArray):ByteArray:=⟨(Lib.join (xs.map (·.data.toList)) sep.data.toList).toArray⟩
def cJoin (args:List AV):M AV:=match args with
 | [.sl cs n,.lit (.string sep)]=>do
  let xs ← ofOpt 240 (zot cs)
  tellD (xs.length=n∧n≠0∧n≤1000∧(joinB xs sep).size≤1000000) (Tst.b (xs.length=n∧n≠0∧n≤1000∧(joinB xs sep).size≤1000000))
  M.pure (.lit (.string (joinB xs sep)))
 | _=>fail 241
theorem join_ok : jZ tP 126 cJoin:=by
 intro args _
 unfold cJoin
 split
 ·rename_i cs n sep _
  refine Spec.bind (Spec.ofOpt fun xs hxs=>Spec.bind (Spec.tellD Tst.ok fun hp=>Spec.pure' ?_))
  obtain ⟨h1,h2,h3,h4⟩:=hp
  have hcs:=zl1 hxs
  intro M w vs _ hl ha
  have h0:Rd ⟨w.heap,M,[]⟩ (.sl cs n) (vs.getD 0 undef):=ha 0 (by simp)
  have h5:Rd ⟨w.heap,M,[]⟩ (.lit (.string sep)) (vs.getD 1 undef):=ha 1 (by simp)
  obtain ⟨v0, v1, rfl⟩ : ∃ v0 v1,vs = #[v0,v1]:=by
   have h1:vs.size=2:=by simpa using hl.symm
   exact ⟨vs[0], vs[1], by apply Array.ext (by simp [h1]);intro i h2 h3;have:i=0∨i=1:=by omega
                           rcases this with rfl | rfl<;>simp⟩
  have e1:v1=.string sep:=Rd.lit_inv h5
  subst e1
  have h0':Rd ⟨w.heap,M,[]⟩ (.sl cs n) v0:=h0
  cases h0' with
  | sl0=>exact absurd rfl h2
  | @sl _ _ b o cap vals hs hM hc hv hr=>
   have hlen:cs.length=xs.length:=by rw [hcs];simp
   subst h1
   refine (Tryz.strings_Join b o cap xs sep w ?_ hs (by omega) hc ?_).mono ?_
   ·intro j x hj
    have hjl:j<xs.length:=(List.getElem?_eq_some_iff.1 hj).1
    have k1:=hv j (by omega)
    have k2:=hr j (by omega)
    have k3:cs.getD j .junk=.lit (.string x):=by rw [hcs];simp [List.getD,hj]
    rw [k3] at k2
    rw [cell?_eq,k1,Rd.lit_inv k2]
   ·have:(joinB xs sep).size=(Lib.join (xs.map (·.data.toList)) sep.data.toList).length:=by unfold joinB;simp [ByteArray.size]
    omega
   ·rintro e w' ⟨rfl,hb⟩
    exact ⟨_,rfl,hb,.lit _⟩
 ·exact Spec.fail
end Go.Proofs.YtagbldogmjhdpaaGreatDoor
end
section
open Go Go.Ev Go.RowKit
namespace Go.Proofs.YtagbldogmjhdpaaGreatDoor
open Go.Proofs
set_option maxRecDepth 100000
set_option maxHeartbeats 1000000
set_option linter.unusedVariables false
set_option linter.unusedSimpArgs false
noncomputable section
end
def ctrT2:Ctr:=(161,c1 (fun z=>z.natAbs<100) (fun z=>.lit (.string (txtB z)))) :: (126,cJoin) :: zet
theorem zk5:∀p∈ctrT2,jZ tP p.1 p.2:=CAll.cons (c1_ok text_fc)<|CAll.cons join_ok zkK
theorem okT2:(eZ tP ctrT2 bw).OK:=JZ zk5
def cCh (args:List AV):M AV:=match args with
 | [x,y,z]=>do
  let p ← asK (.sl (.sl (.sl (.int .i64)))) x
  let a ← asK (.sl (.int .i64)) y
  let b ← asK (.sl (.int .i64)) z
  tellD (pCh p a b) (Tst.b (pCh p a b))
  gives (lI (zbi (svs p (vl a) (vl b)) 0 0).1)
 | _=>fail 301
noncomputable def ctrH8:Ctr:=(142,cCh) :: ctrH7
abbrev kdS:List (TypeId × EK):=[(97,.whole),(22,.sl (.int .i64)),(158,.sl (.sl (.int .i64)))]
theorem cCh_ok:jZ tP 142 cCh:=by
 intro args _
 unfold cCh
 split
 ·exact Spec.bind (asK_spec.mono fun p hp=>Spec.bind (asK_spec.mono fun a ha=>Spec.bind (asK_spec.mono fun b hb=>Spec.bind (Spec.tellD Tst.ok fun h=>Spec.gives ((zoT p a b h).le (.cons hp (.cons ha (.cons hb .nil))) (Le.refl _))))))
 ·exact Spec.fail
theorem ctrH8_all:∀p∈ctrH8,jZ tP p.1 p.2:=CAll.cons cCh_ok zg3
theorem ziF:(eZ tP ctrH8 bw [] kdS).OK:=vZ zaC mixed ctrH8_all zaA
noncomputable section
theorem rro_0 (p:List Int) (a b c:Int) (h1:(p.length:Int)=2) (h2:0<(p.length:Int)) (h3:0<p.length) (h4:r64 (0-p.getD 0 0)) (h5:r64 ((0-p.getD 0 0)*c)) (h6:(0-p.getD 0 0)*c≥a) (h7:(0-p.getD 0 0)*c≤b):FC tP 99 [.agg [.sq p,lI a,lI b,lI c]] (aI 1):=dZ ziF 60 [1,1,1] (.c (beq_iff_eq.2 h1)<|.t h2<|.t h3<|.i h4<|.i h5<|.t h6<|.t h7<|.e) [1,0,2,3,4,5,6,0,2,3,4,5,7]
theorem rro_1 (p:List Int) (a b c:Int) (h1:(p.length:Int)=2) (h2:0<(p.length:Int)) (h3:0<p.length) (h4:r64 (0-p.getD 0 0)) (h5:r64 ((0-p.getD 0 0)*c)) (h6:(0-p.getD 0 0)*c≥a) (h7:¬((0-p.getD 0 0)*c≤b)):FC tP 99 [.agg [.sq p,lI a,lI b,lI c]] (aI 0):=dZ ziF 60 [1,1,0] (.c (beq_iff_eq.2 h1)<|.t h2<|.t h3<|.i h4<|.i h5<|.t h6<|.f h7<|.e) [1,0,2,3,4,5,6,0,2,3,4,5,7]
theorem rro_2 (p:List Int) (a b c:Int) (h1:(p.length:Int)=2) (h2:0<(p.length:Int)) (h3:0<p.length) (h4:r64 (0-p.getD 0 0)) (h5:r64 ((0-p.getD 0 0)*c)) (h6:¬((0-p.getD 0 0)*c≥a)):FC tP 99 [.agg [.sq p,lI a,lI b,lI c]] (aI 0):=dZ ziF 60 [1,0] (.c (beq_iff_eq.2 h1)<|.t h2<|.t h3<|.i h4<|.i h5<|.f h6<|.e) [1,0,2,3,4,5,6]
abbrev zff (s:St) (r:Ex × St):Prop:=Loops 1 tP (kZ tP 99 0) s r
abbrev zfg (a:List Int) (b c d:Int):St:=⟨sp 121 [(1,.ref 0 0),(3,aN),(4,aN),(5,aI 0)],[.flat [.sq a,aI b,aI c,aI d] true],[]⟩
abbrev zol (a:List Int) (b c d:Int) (e:List (List Int)):St:=⟨sp 121 [(1,.ref 0 0),(3,.own 1 0 1 1),(4,aN),(5,aI 1)],[.flat [.sq a,aI b,aI c,aI d] true,.lst KI e true],[]⟩
abbrev zfh (a:List Int) (b c d:Int) (e f:Nat) (g:Int) (i j:List (List Int)):St:=⟨sp 121 [(1,.ref 0 0),(3,.own 1 0 e 1),(4,.own 2 0 f 1),(5,aI g)],[.flat [.sq a,aI b,aI c,aI d] true,.lst KI i true,.lst KI j true],[]⟩
abbrev rro_L0_E0 (a:List Int) (b c d:Int):St:=⟨sp 121 [(1,.ref 0 0),(3,aN),(4,aN),(5,aI 0)],[.flat [.sq a,aI b,aI c,aI d] true],[]⟩
abbrev zcc (a:List Int) (b c d:Int) (e f:Nat) (g:Int) (i j:List (List Int)):St:=⟨sp 121 [(1,.ref 0 0),(3,.own 1 0 e 1),(4,.own 2 0 f 1),(5,aI g)],[.flat [.sq a,aI b,aI c,aI d] true,.lst KI i true,.lst KI j true],[]⟩
theorem zqZ (a:List Int) (b d f:Int) (h1:0<(a.length:Int)) (h2:0<a.length) (h3:1≤List.length [a.getD 0 0]) (h4:1≤List.length [List.take 1 [a.getD 0 0]]) (h5:0<(List.take 1 [List.take 1 [a.getD 0 0]]).length) (h6:(List.take 1 [List.take 1 [a.getD 0 0]]).length*24≤140737488355328) (h7:(List.take 1 [List.take 1 [a.getD 0 0]]).length≤4611686018427387904):LG zff (zfg a b d f) (zol a b d f ([[a.getD 0 0]])):=Loops.go (LS.at ziF 60 [3] [1,3,4,5] [] [1] (.t h1<|.t h2<|.c h3<|.c h4<|.t h5<|.t h6<|.t h7<|.e) [1,0,1,2,3,4,5,6,7,0])
theorem rro_L0_0_1 (a:List Int) (b c d:Int) (h1:¬(0<(a.length:Int))):zff (zfg a b c d) (Ex.exit 0,(rro_L0_E0 a b c d)):=LF (LS.at ziF 60 [] [1,3,4,5] [] [0] (.f h1<|.e) [1])
theorem zq0 (a:List Int) (b d f:Int) (g:List (List Int)) (h1:1<(a.length:Int)) (h2:1<a.length) (h3:1≤List.length [a.getD 1 0]) (h4:1≤List.length [List.take 1 [a.getD 1 0]]) (h5:(1+(List.take 1 [List.take 1 [a.getD 1 0]]).length)*24≤140737488355328) (h6:1+(List.take 1 [List.take 1 [a.getD 1 0]]).length≤4611686018427387904) (h7:1≤g.length) (h8:r64 (1*a.getD 1 0)) (h9:1≤List.length [1*a.getD 1 0]) (h10:1≤List.length [List.take 1 [1*a.getD 1 0]]) (h11:0<(List.take 1 [List.take 1 [1*a.getD 1 0]]).length) (h12:(List.take 1 [List.take 1 [1*a.getD 1 0]]).length*24≤140737488355328) (h13:(List.take 1 [List.take 1 [1*a.getD 1 0]]).length≤4611686018427387904):LG zff (zol a b d f g) (zfh a b d f (2) (1) (2) (g.take 1++List.take 1 [List.take 1 [a.getD 1 0]]) ([[1*a.getD 1 0]])):=Loops.go (LS.at ziF 60 [4,7] [1,3,4,5] [] [1] (.t h1<|.t h2<|.c h3<|.c h4<|.t h5<|.t h6<|.t h7<|.i h8<|.c h9<|.c h10<|.t h11<|.t h12<|.t h13<|.e) [1,0,1,2,3,4,5,6,7,0,1,2,8,9,10,11,12,13,0])
theorem zq1 (a:List Int) (b d f:Int) (g j:Nat) (l:Int) (m n:List (List Int)) (h1:l<(a.length:Int)) (h2:0≤l) (h3:l.toNat<a.length) (h4:1≤List.length [a.getD l.toNat 0]) (h5:1≤List.length [List.take 1 [a.getD l.toNat 0]]) (h6:(g+(List.take 1 [List.take 1 [a.getD l.toNat 0]]).length)*24≤140737488355328) (h7:g+(List.take 1 [List.take 1 [a.getD l.toNat 0]]).length≤4611686018427387904) (h8:g≤m.length) (h9:l > 0) (h10:r64 (l*a.getD l.toNat 0)) (h11:1≤List.length [l*a.getD l.toNat 0]) (h12:1≤List.length [List.take 1 [l*a.getD l.toNat 0]]) (h13:(j+(List.take 1 [List.take 1 [l*a.getD l.toNat 0]]).length)*24≤140737488355328) (h14:j+(List.take 1 [List.take 1 [l*a.getD l.toNat 0]]).length≤4611686018427387904) (h15:j≤n.length) (h16:r64 (l+1)):LG zff (zfh a b d f g j l m n) (zfh a b d f (g+(List.take 1 [List.take 1 [a.getD l.toNat 0]]).length) (j+(List.take 1 [List.take 1 [l*a.getD l.toNat 0]]).length) (l+1) (m.take g++List.take 1 [List.take 1 [a.getD l.toNat 0]]) (n.take j++List.take 1 [List.take 1 [l*a.getD l.toNat 0]])):=Loops.go (LS.at ziF 60 [5,8] [1,3,4,5] [] [1,1] (.t h1<|.t h2<|.t h3<|.c h4<|.c h5<|.t h6<|.t h7<|.t h8<|.t h9<|.i h10<|.c h11<|.c h12<|.t h13<|.t h14<|.t h15<|.i h16<|.e) [1,2,1,3,4,5,6,7,8,9,2,1,3,10,11,12,13,14,15,16])
theorem zq2 (a:List Int) (b c d:Int) (g i:Nat) (j:Int) (l m:List (List Int)) (h1:¬(j<(a.length:Int))):zff (zfh a b c d g i j l m) (Ex.exit 0,(zcc a b c d g i j l m)):=LF (LS.at ziF 60 [1,2] [1,3,4,5] [] [0] (.f h1<|.e) [1])
abbrev zh1 (s:St) (r:Ex × St):Prop:=Loops 4 tP (kZ tP 99 1) s r
abbrev zgM (a:List Int) (b c d:Int) (e f:List (List Int)) (g:List (List (List Int))):St:=⟨sp 121 [(1,.ref 0 0),(6,.own 3 0 2 1)],[.flat [.sq a,aI b,aI c,aI d] true,.lst KI e false,.lst KI f false,.lst (EK.sl KI) g true],[3]⟩
abbrev zfk (a:List Int) (b c d:Int) (e f:List (List Int)) (g:List (List (List Int))) (i:Nat) (j:List (List (List Int))):St:=⟨sp 121 [(1,.ref 0 0),(6,.own 4 0 i 1)],[.flat [.sq a,aI b,aI c,aI d] true,.lst KI e false,.lst KI f false,.dead,.lst (EK.sl KI) j true],[3]⟩
abbrev zlT (a:List Int) (b c d:Int) (e f:List (List Int)) (g:List (List (List Int))):St:=⟨sp 121 [(1,.ref 0 0),(6,.own 3 0 2 1)],[.flat [.sq a,aI b,aI c,aI d] true,.lst KI e false,.lst KI f false,.lst (EK.sl KI) g true],[3]⟩
abbrev zfl (a:List Int) (b c d:Int) (e f:List (List Int)) (g:List (List (List Int))) (i:Nat) (j:List (List (List Int))):St:=⟨sp 121 [(1,.ref 0 0),(6,.own 4 0 i 1)],[.flat [.sq a,aI b,aI c,aI d] true,.lst KI e false,.lst KI f false,.dead,.lst (EK.sl KI) j true],[3]⟩
theorem zq9 (a:List Int) (b d f:Int) (g i:List (List Int)) (j:List (List (List Int))) (h1:0<j.length) (h2:1<j.length) (h3:pRe (j.getD 0 []) (j.getD 1 [])) (h4:(↑((rsT (j.getD 1 []) (j.getD 0 []).length (j.getD 0 [])).length):Int)=0):zh1 (zgM a b d f g i j) (Ex.exit 2,(zlT a b d f g i j)):=LF (LS.at ziF 60 [] [1,6] [3] [1] (.t h1<|.t h2<|.c h3<|.c (beq_iff_eq.2 h4)<|.e) [0,0,0,1,0,0,0,2,3,4])
abbrev zh0 (s:St) (r:Ex × St):Prop:=Loops 4 tP (kZ tP 99 2) s r
abbrev zgL (a:List (List Int)) (b:List Int) (c d e:Int) (f g:List (List Int)) (i:List (List (List Int))):St:=⟨sp 121 [(1,.ref 0 0),(6,.own 3 0 2 1),(7,.lst KI a),(8,aN),(9,aI 0)],[.flat [.sq b,aI c,aI d,aI e] true,.lst KI f false,.lst KI g false,.lst (EK.sl KI) i true],[3]⟩
abbrev zfi (a:List (List Int)) (b:List Int) (c d e:Int) (f g:List (List Int)) (i:List (List (List Int))) (j:Nat) (l:Int) (m:List (List Int)):St:=⟨sp 121 [(1,.ref 0 0),(6,.own 3 0 2 1),(7,.lst KI a),(8,.own 4 0 j 1),(9,aI l)],[.flat [.sq b,aI c,aI d,aI e] true,.lst KI f false,.lst KI g false,.lst (EK.sl KI) i true,.lst KI m true],[3]⟩
abbrev rro_L2_E0 (a:List (List Int)) (b:List Int) (c d e:Int) (f g:List (List Int)) (i:List (List (List Int))):St:=⟨sp 121 [(1,.ref 0 0),(6,.own 3 0 2 1),(7,.lst KI a),(8,aN),(9,aI 0)],[.flat [.sq b,aI c,aI d,aI e] true,.lst KI f false,.lst KI g false,.lst (EK.sl KI) i true],[3]⟩
abbrev zdh (a:List (List Int)) (b:List Int) (c d e:Int) (f g:List (List Int)) (i:List (List (List Int))) (j:Nat) (l:Int) (m:List (List Int)):St:=⟨sp 121 [(1,.ref 0 0),(6,.own 3 0 2 1),(7,.lst KI a),(8,.own 4 0 j 1),(9,aI l)],[.flat [.sq b,aI c,aI d,aI e] true,.lst KI f false,.lst KI g false,.lst (EK.sl KI) i true,.lst KI m true],[3]⟩
theorem zq3 (a:List (List Int)) (b:List Int) (d f g:Int) (i j:List (List Int)) (l:List (List (List Int))) (h1:0<(a.length:Int)) (h2:pX (a.getD 0 [])) (h3:1≤List.length [aZ (-vl (a.getD 0 []))]) (h4:0<(List.take 1 [aZ (-vl (a.getD 0 []))]).length) (h5:(List.take 1 [aZ (-vl (a.getD 0 []))]).length*24≤140737488355328) (h6:(List.take 1 [aZ (-vl (a.getD 0 []))]).length≤4611686018427387904):LG zh0 (zgL a b d f g i j l) (zfi a b d f g i j l (1) (1) ([aZ (-vl (a.getD 0 []))])):=Loops.go (LS.at ziF 60 [5] [1,6,7,8,9] [3] [1] (.t h1<|.c h2<|.c h3<|.t h4<|.t h5<|.t h6<|.e) [1,0,1,2,3,4,5,6,0])
theorem rro_L2_0_1 (a:List (List Int)) (b:List Int) (c d g:Int) (i j:List (List Int)) (l:List (List (List Int))) (h1:¬(0<(a.length:Int))):zh0 (zgL a b c d g i j l) (Ex.exit 4,(rro_L2_E0 a b c d g i j l)):=LF (LS.at ziF 60 [] [1,6,7,8,9] [3] [0] (.f h1<|.e) [1])
theorem zq4 (a:List (List Int)) (b:List Int) (d f g:Int) (j l:List (List Int)) (m:List (List (List Int))) (n:Nat) (o:Int) (p:List (List Int)) (h1:o<(a.length:Int)) (h2:0≤o) (h3:pX (a.getD o.toNat [])) (h4:1≤List.length [aZ (-vl (a.getD o.toNat []))]) (h5:(n+(List.take 1 [aZ (-vl (a.getD o.toNat []))]).length)*24≤140737488355328) (h6:n+(List.take 1 [aZ (-vl (a.getD o.toNat []))]).length≤4611686018427387904) (h7:n≤p.length) (h8:r64 (o+1)):LG zh0 (zfi a b d f g j l m n o p) (zfi a b d f g j l m (n+(List.take 1 [aZ (-vl (a.getD o.toNat []))]).length) (o+1) (p.take n++List.take 1 [aZ (-vl (a.getD o.toNat []))])):=Loops.go (LS.at ziF 60 [6] [1,6,7,8,9] [3] [1] (.t h1<|.t h2<|.c h3<|.c h4<|.t h5<|.t h6<|.t h7<|.i h8<|.e) [1,2,1,3,4,5,6,7,8])
theorem zq5 (a:List (List Int)) (b:List Int) (c d g:Int) (i j:List (List Int)) (l:List (List (List Int))) (m:Nat) (n:Int) (o:List (List Int)) (h1:¬(n<(a.length:Int))):zh0 (zfi a b c d g i j l m n o) (Ex.exit 4,(zdh a b c d g i j l m n o)):=LF (LS.at ziF 60 [4] [1,6,7,8,9] [3] [0] (.f h1<|.e) [1])
theorem zra (a:List Int) (b d f:Int) (g i:List (List Int)) (j:List (List (List Int))) (l:Nat) (m:Int) (n:List (List Int)) (h1:0<j.length) (h2:1<j.length) (h3:pRe (j.getD 0 []) (j.getD 1 [])) (h4:(↑((rsT (j.getD 1 []) (j.getD 0 []).length (j.getD 0 [])).length):Int)≠0) (hL1:zh0 (zgL (rsT (j.getD 1 []) (j.getD 0 []).length (j.getD 0 [])) a b d f g i j) (Ex.exit 4,(zdh (rsT (j.getD 1 []) (j.getD 0 []).length (j.getD 0 [])) a b d f g i j l m n))) (h6:l≤n.length) (h7:1≤List.length [n.take l]) (h8:(2+(List.take 1 [n.take l]).length)*24≤140737488355328) (h9:2+(List.take 1 [n.take l]).length≤4611686018427387904) (h10:2≤j.length):LG zh1 (zgM a b d f g i j) (zfk a b d f g i j (3) (j.take 2++List.take 1 [n.take l])):=Loops.go (LS.at ziF 60 [6] [1,6] [3] [0] (.t h1<|.t h2<|.c h3<|.c (beq_false_of_ne h4)<|.v [1,6,7,8,9] [3] hL1<|.c h6<|.c h7<|.t h8<|.t h9<|.t h10<|.e) [0,0,0,1,0,0,0,2,3,4,0,5,6,7,8,9,10])
theorem zrb (a:List Int) (b d f:Int) (g j:List (List Int)) (l:List (List (List Int))) (m:Nat) (n:List (List (List Int))) (h1:r64 ((m:Int)-2)) (h2:0≤(m:Int)-2) (h3:(m:Int)-2<(m:Int)) (h4:((m:Int)-2).toNat<n.length) (h5:r64 ((m:Int)-1)) (h6:0≤(m:Int)-1) (h7:(m:Int)-1<(m:Int)) (h8:((m:Int)-1).toNat<n.length) (h9:pRe (n.getD ((m:Int)-2).toNat []) (n.getD ((m:Int)-1).toNat [])) (h10:(↑((rsT (n.getD ((m:Int)-1).toNat []) (n.getD ((m:Int)-2).toNat []).length (n.getD ((m:Int)-2).toNat [])).length):Int)=0):zh1 (zfk a b d f g j l m n) (Ex.exit 2,(zfl a b d f g j l m n)):=LF (LS.at ziF 60 [4] [1,6] [3] [1] (.i h1<|.t h2<|.t h3<|.t h4<|.i h5<|.t h6<|.t h7<|.t h8<|.c h9<|.c (beq_iff_eq.2 h10)<|.e) [1,2,3,4,5,6,7,8,9,10])
abbrev zjf (s:St) (r:Ex × St):Prop:=Loops 5 tP (kZ tP 99 2) s r
abbrev zkl (a:Nat) (b:List (List Int)) (c:List Int) (d e f:Int) (g i:List (List Int)) (j:List (List (List Int))):St:=⟨sp 121 [(1,.ref 0 0),(6,.own 4 0 a 1),(7,.lst KI b),(8,aN),(9,aI 0)],[.flat [.sq c,aI d,aI e,aI f] true,.lst KI g false,.lst KI i false,.dead,.lst (EK.sl KI) j true],[3]⟩
abbrev zfj (a:Nat) (b:List (List Int)) (c:List Int) (d e f:Int) (g i:List (List Int)) (j:List (List (List Int))) (l:Nat) (m:Int) (n:List (List Int)):St:=⟨sp 121 [(1,.ref 0 0),(6,.own 4 0 a 1),(7,.lst KI b),(8,.own 5 0 l 1),(9,aI m)],[.flat [.sq c,aI d,aI e,aI f] true,.lst KI g false,.lst KI i false,.dead,.lst (EK.sl KI) j true,.lst KI n true],[3]⟩
abbrev zdi (a:Nat) (b:List (List Int)) (c:List Int) (d e f:Int) (g i:List (List Int)) (j:List (List (List Int))) (l:Nat) (m:Int) (n:List (List Int)):St:=⟨sp 121 [(1,.ref 0 0),(6,.own 4 0 a 1),(7,.lst KI b),(8,.own 5 0 l 1),(9,aI m)],[.flat [.sq c,aI d,aI e,aI f] true,.lst KI g false,.lst KI i false,.dead,.lst (EK.sl KI) j true,.lst KI n true],[3]⟩
theorem zq6 (a:Nat) (b:List (List Int)) (d:List Int) (f g i:Int) (j l:List (List Int)) (m:List (List (List Int))) (h1:0<(b.length:Int)) (h2:pX (b.getD 0 [])) (h3:1≤List.length [aZ (-vl (b.getD 0 []))]) (h4:0<(List.take 1 [aZ (-vl (b.getD 0 []))]).length) (h5:(List.take 1 [aZ (-vl (b.getD 0 []))]).length*24≤140737488355328) (h6:(List.take 1 [aZ (-vl (b.getD 0 []))]).length≤4611686018427387904):LG zjf (zkl a b d f g i j l m) (zfj a b d f g i j l m (1) (1) ([aZ (-vl (b.getD 0 []))])):=Loops.go (LS.at ziF 60 [6] [1,6,7,8,9] [3] [1] (.t h1<|.c h2<|.c h3<|.t h4<|.t h5<|.t h6<|.e) [1,0,1,2,3,4,5,6,0])
theorem zq7 (a:Nat) (b:List (List Int)) (d:List Int) (f g j:Int) (l m:List (List Int)) (n:List (List (List Int))) (o:Nat) (p:Int) (q:List (List Int)) (h1:p<(b.length:Int)) (h2:0≤p) (h3:pX (b.getD p.toNat [])) (h4:1≤List.length [aZ (-vl (b.getD p.toNat []))]) (h5:(o+(List.take 1 [aZ (-vl (b.getD p.toNat []))]).length)*24≤140737488355328) (h6:o+(List.take 1 [aZ (-vl (b.getD p.toNat []))]).length≤4611686018427387904) (h7:o≤q.length) (h8:r64 (p+1)):LG zjf (zfj a b d f g j l m n o p q) (zfj a b d f g j l m n (o+(List.take 1 [aZ (-vl (b.getD p.toNat []))]).length) (p+1) (q.take o++List.take 1 [aZ (-vl (b.getD p.toNat []))])):=Loops.go (LS.at ziF 60 [7] [1,6,7,8,9] [3] [1] (.t h1<|.t h2<|.c h3<|.c h4<|.t h5<|.t h6<|.t h7<|.i h8<|.e) [1,2,1,3,4,5,6,7,8])
theorem zq8 (a:Nat) (b:List (List Int)) (c:List Int) (d g i:Int) (j l:List (List Int)) (m:List (List (List Int))) (n:Nat) (o:Int) (p:List (List Int)) (h1:¬(o<(b.length:Int))):zjf (zfj a b c d g i j l m n o p) (Ex.exit 4,(zdi a b c d g i j l m n o p)):=LF (LS.at ziF 60 [5] [1,6,7,8,9] [3] [0] (.f h1<|.e) [1])
theorem zrc (a:List Int) (b d f:Int) (g j:List (List Int)) (l:List (List (List Int))) (m:Nat) (n:List (List (List Int))) (o:Nat) (p:Int) (q:List (List Int)) (h1:r64 ((m:Int)-2)) (h2:0≤(m:Int)-2) (h3:(m:Int)-2<(m:Int)) (h4:((m:Int)-2).toNat<n.length) (h5:r64 ((m:Int)-1)) (h6:0≤(m:Int)-1) (h7:(m:Int)-1<(m:Int)) (h8:((m:Int)-1).toNat<n.length) (h9:pRe (n.getD ((m:Int)-2).toNat []) (n.getD ((m:Int)-1).toNat [])) (h10:(↑((rsT (n.getD ((m:Int)-1).toNat []) (n.getD ((m:Int)-2).toNat []).length (n.getD ((m:Int)-2).toNat [])).length):Int)≠0) (hL1:zjf (zkl m (rsT (n.getD ((m:Int)-1).toNat []) (n.getD ((m:Int)-2).toNat []).length (n.getD ((m:Int)-2).toNat [])) a b d f g j n) (Ex.exit 4,(zdi m (rsT (n.getD ((m:Int)-1).toNat []) (n.getD ((m:Int)-2).toNat []).length (n.getD ((m:Int)-2).toNat [])) a b d f g j n o p q))) (h12:o≤q.length) (h13:1≤List.length [q.take o]) (h14:(m+(List.take 1 [q.take o]).length)*24≤140737488355328) (h15:m+(List.take 1 [q.take o]).length≤4611686018427387904) (h16:m≤n.length):LG zh1 (zfk a b d f g j l m n) (zfk a b d f g j l (m+(List.take 1 [q.take o]).length) (n.take m++List.take 1 [q.take o])):=Loops.go (LS.at ziF 60 [7] [1,6] [3] [0] (.i h1<|.t h2<|.t h3<|.t h4<|.i h5<|.t h6<|.t h7<|.t h8<|.c h9<|.c (beq_false_of_ne h10)<|.v [1,6,7,8,9] [3] hL1<|.c h12<|.c h13<|.t h14<|.t h15<|.t h16<|.e) [1,2,3,4,5,6,7,8,9,10,0,11,12,13,14,15,16])
theorem rro_3 (p:List Int) (a b c:Int) (d f:Nat) (g:Int) (j l:List (List Int)) (h1:(p.length:Int)≠2) (hL1:zff (zfg p a b c) (Ex.exit 0,(zcc p a b c d f g j l))) (h3:d≤j.length) (h4:f≤l.length) (hL2:zh1 (zgM p a b c j l ([j.take d,l.take f])) (Ex.exit 2,(zlT p a b c j l ([j.take d,l.take f])))) (h6:2≤List.length [j.take d,l.take f]) (h7:1≤List.length [a]) (h8:1≤List.length [c]) (h9:pCh (List.take 2 [j.take d,l.take f]) (List.take 1 [a]) (List.take 1 [c])) (h10:1≤List.length [b]) (h11:pCh (List.take 2 [j.take d,l.take f]) (List.take 1 [b]) (List.take 1 [c])) (h12:r64 ((zbi (svs (List.take 2 [j.take d,l.take f]) (vl (List.take 1 [a])) (vl (List.take 1 [c]))) 0 0).fst-(zbi (svs (List.take 2 [j.take d,l.take f]) (vl (List.take 1 [b])) (vl (List.take 1 [c]))) 0 0).fst)):FC tP 99 [.agg [.sq p,lI a,lI b,lI c]] (aI ((zbi (svs (List.take 2 [j.take d,l.take f]) (vl (List.take 1 [a])) (vl (List.take 1 [c]))) 0 0).fst-(zbi (svs (List.take 2 [j.take d,l.take f]) (vl (List.take 1 [b])) (vl (List.take 1 [c]))) 0 0).fst)):=dZ ziF 60 [0] (.c (beq_false_of_ne h1)<|.v [1,3,4,5] [] hL1<|.c h3<|.c h4<|.v [1,6] [3] hL2<|.c h6<|.c h7<|.c h8<|.c h9<|.c h10<|.c h11<|.i h12<|.e) (ux [1,0,2,3,4,0,5,6,7,8,9,6,10,8,11,12,6,10,8,11,12,0,6,7,8,9,6,10,8,11,12,6,7,8,9,6,10,8,11,12,0,6,7,8,9,6,10,8,11,12,6,7,8,9,6,10,8,11,12,0,0,0,6,7,8,9,6,10,8,11,12,6,7,8,9,6,10,8,11,12,0,6,7,8,9,6,10,8,11,12,0,6,7,8,9,6,10,8,11,12,6,7,8,9,6,10,8,11,12,0,6,7,8,9,6,10,8,11,12,0,0,0,6,7,8,9,6,10,8,11,12,6,10,8,11,12,0,6,7,8,9,6,10,8,11,12,6,7,8,9,6,10,8,11,12,0,6,7,8,9,6,10,8,11,12,6,7,8,9,6,10,8,11,12,0,0,0,6,7,8,9,6,10,8,11,12,6,7,8,9,6,10,8,11,12,0,6,7,8,9,6,10,8,11,12,0,6,7,8,9,6,10,8,11,12,6,7,8,9,6,10,8,11,12,0,6,7,8,9,6,10,8,11,12,0,0,0,6,7,8,9,6,10,8,11,12,6,7,8,9,6,10,8,11,12,0,6,7,8,9,6,10,8,11,12,0,6,7,8,9,6,10,8,11,12,6,7,8,9,6,10,8,11,12,0,6,7,8,9,6,10,8,11,12,0,6,7,8,9,6,10,8,11,12,6,7,8,9,6,10,8,11,12,0,0,0,6,7,8,9,6,10,8,11,12,6,7,8,9,6,10,8,11,12,0,6,7,8,9,6,10,8,11,12,0,6,7,8,9,6,10,8,11,12,6,7,8,9,6,10,8,11,12,0,6,7,8,9,6,10,8,11,12,0,6,7,8,9,6,10,8,11,12,6,7,8,9,6,10,8,11,12,1006])
theorem rro_4 (p:List Int) (a b c:Int) (d f:Nat) (g:Int) (j l:List (List Int)) (m:Nat) (n:List (List (List Int))) (h1:(p.length:Int)≠2) (hL1:zff (zfg p a b c) (Ex.exit 0,(zcc p a b c d f g j l))) (h3:d≤j.length) (h4:f≤l.length) (hL2:zh1 (zgM p a b c j l ([j.take d,l.take f])) (Ex.exit 2,(zfl p a b c j l ([j.take d,l.take f]) m n))) (h6:m≤n.length) (h7:1≤List.length [a]) (h8:1≤List.length [c]) (h9:pCh (n.take m) (List.take 1 [a]) (List.take 1 [c])) (h10:1≤List.length [b]) (h11:pCh (n.take m) (List.take 1 [b]) (List.take 1 [c])) (h12:r64 ((zbi (svs (n.take m) (vl (List.take 1 [a])) (vl (List.take 1 [c]))) 0 0).fst-(zbi (svs (n.take m) (vl (List.take 1 [b])) (vl (List.take 1 [c]))) 0 0).fst)):FC tP 99 [.agg [.sq p,lI a,lI b,lI c]] (aI ((zbi (svs (n.take m) (vl (List.take 1 [a])) (vl (List.take 1 [c]))) 0 0).fst-(zbi (svs (n.take m) (vl (List.take 1 [b])) (vl (List.take 1 [c]))) 0 0).fst)):=dZ ziF 60 [0] (.c (beq_false_of_ne h1)<|.v [1,3,4,5] [] hL1<|.c h3<|.c h4<|.v [1,6] [3] hL2<|.c h6<|.c h7<|.c h8<|.c h9<|.c h10<|.c h11<|.i h12<|.e) (ux [1,0,2,3,4,0,5,6,7,8,9,6,10,8,11,12,6,10,8,11,12,0,6,7,8,9,6,10,8,11,12,6,7,8,9,6,10,8,11,12,0,6,7,8,9,6,10,8,11,12,6,7,8,9,6,10,8,11,12,0,0,0,6,7,8,9,6,10,8,11,12,6,7,8,9,6,10,8,11,12,0,6,7,8,9,6,10,8,11,12,0,6,7,8,9,6,10,8,11,12,6,7,8,9,6,10,8,11,12,0,6,7,8,9,6,10,8,11,12,0,0,0,6,7,8,9,6,10,8,11,12,6,10,8,11,12,0,6,7,8,9,6,10,8,11,12,6,7,8,9,6,10,8,11,12,0,6,7,8,9,6,10,8,11,12,6,7,8,9,6,10,8,11,12,0,0,0,6,7,8,9,6,10,8,11,12,6,7,8,9,6,10,8,11,12,0,6,7,8,9,6,10,8,11,12,0,6,7,8,9,6,10,8,11,12,6,7,8,9,6,10,8,11,12,0,6,7,8,9,6,10,8,11,12,0,0,0,6,7,8,9,6,10,8,11,12,6,7,8,9,6,10,8,11,12,0,6,7,8,9,6,10,8,11,12,0,6,7,8,9,6,10,8,11,12,6,7,8,9,6,10,8,11,12,0,6,7,8,9,6,10,8,11,12,0,6,7,8,9,6,10,8,11,12,6,7,8,9,6,10,8,11,12,0,0,0,6,7,8,9,6,10,8,11,12,6,7,8,9,6,10,8,11,12,0,6,7,8,9,6,10,8,11,12,0,6,7,8,9,6,10,8,11,12,6,7,8,9,6,10,8,11,12,0,6,7,8,9,6,10,8,11,12,0,6,7,8,9,6,10,8,11,12,6,7,8,9,6,10,8,11,12,1006])
end
noncomputable section
end
open Go.Kf
def zau (p:List Int):List (List Int):=p.map fun x=>[x]
def zaO (p:List Int):List (List Int):=(List.range (p.length-1)).map fun j=>[((j+1:Nat):Int)*p.getD (j+1) 0]
theorem zoF (x:Int):vl [x]=x:=by simp [vl]
theorem zdH (p:List Int):(zau p).length=p.length:=by simp [zau]
theorem zbH (p:List Int):(zaO p).length=p.length-1:=by simp [zaO]
theorem vls_sing (p:List Int):vls (zau p)=p:=by
 unfold vls zau
 rw [List.map_map]
 conv=>rhs;rw [← List.map_id p]
 apply List.map_congr_left
 intro x _
 exact zoF x
theorem vls_derR (p:List Int):vls (zaO p)=der p:=by
 unfold vls zaO der
 rw [List.map_map]
 apply List.map_congr_left
 intro i _
 show vl [_]=_
 rw [zoF,Int.mul_comm]
theorem zko {p:List Int} {i:Nat} (h:i<p.length):(zau p).getD i []=[p.getD i 0]:=by
 unfold zau
 simp [List.getD,h]
theorem znE {p:List Int} {i:Nat} (h:i+1<p.length):(zaO p).getD i []=[((i+1:Nat):Int)*p.getD (i+1) 0]:=by
 unfold zaO
 rw [List.getD_eq_getElem?_getD,List.getElem?_map,List.getElem?_range (by omega)];rfl
theorem zcH {l:List (List Int)} {k:Nat} (h:k<l.length):List.take k (List.take k l)++List.take 1 [l.getD k []]=l.take (k+1):=by
 rw [List.take_take,Nat.min_self,List.take_succ_eq_append_getElem h]
 simp [List.getD,h]
theorem zlS {p:List Int} (h:zcx p) (a b c:Int):∀(m i:Nat),i+m=p.length→2≤i →
 zff (zfh p a b c i (i-1) i ((zau p).take i) ((zaO p).take (i-1))) (Ex.exit 0,zcc p a b c p.length (p.length-1) p.length (zau p) (zaO p))
 | 0,i,hi,h2=>by
  obtain rfl:i=p.length:=by omega
  have:=zq2 p a b c p.length (p.length-1) p.length ((zau p).take p.length) ((zaO p).take (p.length-1)) (by omega)
  rw [show(zau p).take p.length=zau p by rw [← zdH,List.take_length],show(zaO p).take (p.length-1)=zaO p by rw [← zbH,List.take_length]] at this ⊢
  exact this
 | m + 1,i,hi,h2=>by
  have hlt:i<p.length:=by omega
  have hl:=h.2.1
  obtain ⟨j,rfl⟩:∃j,i=j+1:=⟨i-1,by omega⟩
  have ih:=zlS h a b c m (j+1+1) (by omega) (by omega)
  have s1:=zdH p
  have s2:=zbH p
  have hg:=zeb h.2.2 (j+1)
  have hm:=zlp (a:=((j+1:Nat):Int)) (b:=p.getD (j+1) 0) (A:=5) (B:=1000) (by omega) hg
  have e1:Int.toNat ((j+1:Nat):Int)=j+1:=rfl
  have go:=@zq1 p a b c (j+1) j ((j+1:Nat):Int) ((zau p).take (j+1)) ((zaO p).take j) (by omega) (by omega) (by rw [e1];omega) (by simp) (by simp) (by simp;omega) (by simp;omega) (by rw [List.length_take];omega) (by omega) (by rw [e1];omega) (by simp) (by simp) (by simp;omega) (by simp;omega) (by rw [List.length_take];omega) (by omega)
   (Ex.exit 0,zcc p a b c p.length (p.length-1) p.length (zau p) (zaO p))
  rw [e1] at go
  rw [show List.take 1 [List.take 1 [p.getD (j+1) 0]]=List.take 1 [(zau p).getD (j+1) []] by rw [zko hlt];rfl,zcH (by omega),
   show List.take 1 [List.take 1 [((j+1:Nat):Int)*p.getD (j+1) 0]]=List.take 1 [(zaO p).getD j []] by rw [znE hlt];rfl,zcH (by omega)] at go
  exact go ih
theorem rro0 {p:List Int} (h:zcx p) (a b c:Int):zff (zfg p a b c) (Ex.exit 0,zcc p a b c p.length (p.length-1) p.length (zau p) (zaO p)):=by
 have hl:=h.1
 have hl5:=h.2.1
 have hg:=zeb h.2.2 1
 have k:=zlS h a b c (p.length-2) 2 (by omega) (by omega)
 have s1:=zdH p
 have s2:=zbH p
 have e1:List.take 1 [[p.getD 0 0]]++List.take 1 [List.take 1 [p.getD 1 0]]=(zau p).take 2:=by
  have:=zcH (l:=zau p) (k:=1) (by omega)
  rw [zko (by omega)] at this
  have t0:=zcH (l:=zau p) (k:=0) (by omega)
  rw [zko (by omega)] at t0
  rw [← this,← t0];rfl
 have e2:[[1*p.getD 1 0]]=(zaO p).take 1:=by
  have t0:=zcH (l:=zaO p) (k:=0) (by omega)
  rw [znE (by omega)] at t0
  rw [← t0];rfl
 refine zqZ p a b c (by omega) (by omega) (by simp) (by simp) (by simp) (by simp) (by simp) ?_
 refine zq0 p a b c [[p.getD 0 0]] (by omega) (by omega) (by simp) (by simp) (by simp) (by simp) (by simp) (by omega) (by simp) (by simp) (by simp) (by simp) (by simp) ?_
 rw [e1,e2]
 exact k
def ngL (q:List (List Int)):List (List Int):=q.map fun l=>aZ (-(vl l))
theorem zc3 (q:List (List Int)):(ngL q).length=q.length:=by simp [ngL]
theorem zjU {q:List (List Int)} {i:Nat} (h:i<q.length):(ngL q).getD i []=aZ (-(vl (q.getD i []))):=by
 unfold ngL;simp [List.getD,h]
theorem LB_loop {q:List (List Int)} (hq:∀l∈q,pX l) (hl:q.length≤1000) (x:List Int) (a b c:Int) (l1 l2:List (List Int)) (l3:List (List (List Int))):∀(m i:Nat),i+m=q.length→1≤i →
 zh0 (zfi q x a b c l1 l2 l3 i i ((ngL q).take i)) (Ex.exit 4,zdh q x a b c l1 l2 l3 q.length q.length (ngL q))
 | 0,i,hi,_=>by
  obtain rfl:i=q.length:=by omega
  have:=zq5 q x a b c l1 l2 l3 q.length q.length ((ngL q).take q.length) (by omega)
  rw [show(ngL q).take q.length=ngL q by rw [← zc3,List.take_length]] at this ⊢
  exact this
 | m+1,i,hi,h1=>by
  have hlt:i<q.length:=by omega
  have hn:=zc3 q
  have ih:=LB_loop hq hl x a b c l1 l2 l3 m (i+1) (by omega) (by omega)
  have e1:Int.toNat (i:Int)=i:=rfl
  have hg:q.getD i []=q[i]:=by simp [List.getD,hlt]
  have hp:pX (q.getD i []):=by rw [hg];exact hq _ (List.getElem_mem hlt)
  have go:=@zq4 q x a b c l1 l2 l3 i i ((ngL q).take i) (by omega) (by omega) hp (by simp) (by simp;omega) (by simp;omega) (by rw [List.length_take];omega) (by omega) (Ex.exit 4,zdh q x a b c l1 l2 l3 q.length q.length (ngL q))
  rw [e1] at go
  rw [show List.take 1 [aZ (-vl (q.getD i []))]=List.take 1 [(ngL q).getD i []] by rw [zjU hlt]<;>rfl,zcH (by omega)] at go
  exact go ih
theorem LB_all {q:List (List Int)} (hq:∀l∈q,pX l) (hl:q.length≤1000) (h0:1≤q.length) (x:List Int) (a b c:Int) (l1 l2:List (List Int)) (l3:List (List (List Int))) :
 zh0 (zgL q x a b c l1 l2 l3) (Ex.exit 4,zdh q x a b c l1 l2 l3 q.length q.length (ngL q)):=by
 have k:=LB_loop hq hl x a b c l1 l2 l3 (q.length-1) 1 (by omega) (by omega)
 have hg:q.getD 0 []=q[0]:=by rw [List.getD_eq_getElem?_getD,List.getElem?_eq_getElem (by omega)];rfl
 have hp:pX (q.getD 0 []):=by rw [hg];exact hq _ (List.getElem_mem (by omega))
 have e:[aZ (-vl (q.getD 0 []))]=(ngL q).take 1:=by
  have hn:=zc3 q
  have t0:=zcH (l:=ngL q) (k:=0) (by omega)
  rw [zjU (by omega)] at t0
  rw [← t0];rfl
 refine zq3 q x a b c l1 l2 l3 (by omega) hp (by simp) (by simp) (by simp) (by simp) ?_
 rw [← e] at k
 exact k
theorem LC_loop {n:Nat} {q:List (List Int)} (hq:∀l∈q,pX l) (hl:q.length≤1000) (x:List Int) (a b c:Int) (l1 l2:List (List Int)) (l3:List (List (List Int))):∀(m i:Nat),i+m=q.length→1≤i →
 zjf (zfj n q x a b c l1 l2 l3 i i ((ngL q).take i)) (Ex.exit 4,zdi n q x a b c l1 l2 l3 q.length q.length (ngL q))
 | 0,i,hi,_=>by
  obtain rfl:i=q.length:=by omega
  have:=zq8 n q x a b c l1 l2 l3 q.length q.length ((ngL q).take q.length) (by omega)
  rw [show(ngL q).take q.length=ngL q by rw [← zc3,List.take_length]] at this ⊢
  exact this
 | m+1,i,hi,h1=>by
  have hlt:i<q.length:=by omega
  have hn:=zc3 q
  have ih:=LC_loop (n:=n) hq hl x a b c l1 l2 l3 m (i+1) (by omega) (by omega)
  have e1:Int.toNat (i:Int)=i:=rfl
  have hg:q.getD i []=q[i]:=by simp [List.getD,hlt]
  have hp:pX (q.getD i []):=by rw [hg];exact hq _ (List.getElem_mem hlt)
  have go:=@zq7 n q x a b c l1 l2 l3 i i ((ngL q).take i) (by omega) (by omega) hp (by simp) (by simp;omega) (by simp;omega) (by rw [List.length_take];omega) (by omega) (Ex.exit 4,zdi n q x a b c l1 l2 l3 q.length q.length (ngL q))
  rw [e1] at go
  rw [show List.take 1 [aZ (-vl (q.getD i []))]=List.take 1 [(ngL q).getD i []] by rw [zjU hlt]<;>rfl,zcH (by omega)] at go
  exact go ih
theorem LC_all {n:Nat} {q:List (List Int)} (hq:∀l∈q,pX l) (hl:q.length≤1000) (h0:1≤q.length) (x:List Int) (a b c:Int) (l1 l2:List (List Int)) (l3:List (List (List Int))) :
 zjf (zkl n q x a b c l1 l2 l3) (Ex.exit 4,zdi n q x a b c l1 l2 l3 q.length q.length (ngL q)):=by
 have k:=LC_loop (n:=n) hq hl x a b c l1 l2 l3 (q.length-1) 1 (by omega) (by omega)
 have hg:q.getD 0 []=q[0]:=by rw [List.getD_eq_getElem?_getD,List.getElem?_eq_getElem (by omega)];rfl
 have hp:pX (q.getD 0 []):=by rw [hg];exact hq _ (List.getElem_mem (by omega))
 have e:[aZ (-vl (q.getD 0 []))]=(ngL q).take 1:=by
  have hn:=zc3 q
  have t0:=zcH (l:=ngL q) (k:=0) (by omega)
  rw [zjU (by omega)] at t0
  rw [← t0];rfl
 refine zq6 n q x a b c l1 l2 l3 (by omega) hp (by simp) (by simp) (by simp) (by simp) ?_
 rw [← e] at k
 exact k
def bd:Nat→Nat
 | 0=>1
 | 1=>1
 | 2=>64
 | 3=>556
 | _=>3433
structure RInv (i:Nat) (a b:List (List Int)):Prop where
 i3:i≤3
 la:a.length≤5-i
 lb:b.length≤4-i
 b1:1≤b.length
 sa:∀l∈a,pQ (bd i) l
 sb:∀l∈b,pQ (bd (i+1)) l
theorem RInv.bnd {i:Nat} {a b:List (List Int)} (h:RInv i a b):bd i+a.length*(2*bd (i+1)+10)≤89000∧bd (i+1)≤40000∧(i≤2→bd i+a.length*(2*bd (i+1)+10)+3≤bd (i+2)):=by
 obtain ⟨i3,la,lb,b1,sa,sb⟩:=h
 have hm:bd i+a.length*(2*bd (i+1)+10)≤bd i+(5-i)*(2*bd (i+1)+10):=Nat.add_le_add_left (Nat.mul_le_mul_right _ la) _
 have hi:i=0∨i=1∨i=2∨i=3:=by omega
 refine ⟨Nat.le_trans hm ?_,?_,fun h2=>Nat.le_trans (Nat.add_le_add_right hm 3) ?_⟩
 ·rcases hi with rfl | rfl | rfl | rfl<;>decide
 ·rcases hi with rfl | rfl | rfl | rfl<;>decide
 ·have hi:i=0∨i=1∨i=2:=by omega
  rcases hi with rfl | rfl | rfl<;>decide
theorem RInv.re {i:Nat} {a b:List (List Int)} (h:RInv i a b):pRe a b:=by
 have hb:=h.bnd
 obtain ⟨i3,la,lb,b1,sa,sb⟩:=h
 exact ⟨⟨bd i,bd (i+1),sa,sb,hb.1,hb.2.1⟩,by omega,b1,by omega⟩
theorem RInv.facts {i:Nat} {a b:List (List Int)} (h:RInv i a b):(rsT b a.length a).length<b.length∧∀l∈rsT b a.length a,pQ (bd i+a.length*(2*bd (i+1)+10)) l:=by
 have hb:=h.bnd
 obtain ⟨i3,la,lb,b1,sa,sb⟩:=h
 obtain ⟨_,i2,i3,i4⟩:=rre_l2 (n6:=0) (lr:=[]) b1 (by omega) sb a.length a (bd i) (Nat.le_refl _) (by omega) sa hb.1 hb.2.1
 exact ⟨i4,i2⟩
theorem RInv.px {i:Nat} {a b:List (List Int)} (h:RInv i a b):∀l∈rsT b a.length a,pX l:=fun l hl=>by
 have hb:=h.bnd
 exact(h.facts.2 l hl).mono (by omega)
theorem RInv.step {i:Nat} {a b:List (List Int)} (h:RInv i a b) (hne:rsT b a.length a≠[]):i≤2∧RInv (i+1) b (nxR a b):=by
 have hb:=h.bnd
 obtain ⟨f1,f2⟩:=h.facts
 obtain ⟨i3,la,lb,b1,sa,sb⟩:=h
 have hp:1≤(rsT b a.length a).length:=List.length_pos_iff.2 hne
 have hn:(nxR a b).length=(rsT b a.length a).length:=by simp [nxR]
 refine ⟨by omega,⟨by omega,by omega,by omega,by omega,sb,fun l hl=>?_⟩⟩
 unfold nxR at hl
 obtain ⟨x,hx,rfl⟩:=List.mem_map.1 hl
 exact fZ (zaD (f2 x hx)).neg (hb.2.2 (by omega))
theorem zmG {L:List (List (List Int))} {i:Nat} (h:L.length=i+2) (x:List (List Int)):(L++[x]).getD (i+1) []=L.getD (i+1) []∧(L++[x]).getD (i+2) []=x:=by
 constructor
 ·simp only [List.getD_eq_getElem?_getD];rw [List.getElem?_append_left (by omega)]
 ·simp only [List.getD_eq_getElem?_getD];rw [List.getElem?_append_right (by omega)];simp [h]
theorem LA_loop {x:List Int} {u v w:Int} {l1 l2:List (List Int)} {l3:List (List (List Int))}:∀(k i:Nat) (L:List (List (List Int))) (a b:List (List Int)),i+k=4→L.length=i+2→L.getD i []=a→L.getD (i+1) []=b→RInv i a b →
 zh1 (zfk x u v w l1 l2 l3 L.length L) (Ex.exit 2,zfl x u v w l1 l2 l3 (L++chR k a b).length (L++chR k a b))
 | 0,i,L,a,b,hk,hL,ha,hb,h=>by have:=h.i3;omega
 | k + 1,i,L,a,b,hk,hL,ha,hb,h=>by
  have e1:Int.toNat ((L.length:Int)-2)=i:=by omega
  have e2:Int.toNat ((L.length:Int)-1)=i+1:=by omega
  have g1:L.getD (Int.toNat ((L.length:Int)-2)) []=a:=by rw [e1];exact ha
  have g2:L.getD (Int.toNat ((L.length:Int)-1)) []=b:=by rw [e2];exact hb
  have hre:=h.re
  unfold chR
  by_cases hne:rsT b a.length a=[]
  ·rw [if_pos hne,List.append_nil]
   exact zrb x u v w l1 l2 l3 L.length L (by omega) (by omega) (by omega) (by omega) (by omega) (by omega) (by omega) (by omega) (by rw [g1,g2];exact hre) (by rw [g1,g2,hne];rfl)
  ·rw [if_neg hne]
   obtain ⟨i2,hs⟩:=h.step hne
   have hf:=h.facts.1
   have hlb:=h.lb
   obtain ⟨m1,m2⟩:=zmG hL (nxR a b)
   have ih:=LA_loop (x:=x) (u:=u) (v:=v) (w:=w) (l1:=l1) (l2:=l2) (l3:=l3) k (i+1) (L++[nxR a b]) b (nxR a b) (by omega) (by rw [List.length_append];simp;omega) (by rw [m1];exact hb) m2 hs
   have K:=LC_all (n:=L.length) h.px (by omega) (List.length_pos_iff.2 hne) x u v w l1 l2 L
   have hn:=zc3 (rsT b a.length a)
   have go:=@zrc x u v w l1 l2 l3 L.length L (rsT b a.length a).length (rsT b a.length a).length (ngL (rsT b a.length a)) (by omega) (by omega) (by omega) (by omega) (by omega) (by omega) (by omega) (by omega) (by rw [g1,g2];exact hre)
    (by rw [g1,g2];have:=List.length_pos_iff.2 hne;omega) (by rw [g1,g2];exact K) (by omega) (by simp) (by simp;omega) (by simp;omega) (Nat.le_refl _) (Ex.exit 2,zfl x u v w l1 l2 l3 (L++nxR a b :: chR k b (nxR a b)).length (L++nxR a b :: chR k b (nxR a b)))
   rw [List.take_length,show List.take (rsT b a.length a).length (ngL (rsT b a.length a))=nxR a b by rw [← hn,List.take_length];rfl] at go
   refine go ?_
   have e3:L.length+(List.take 1 [nxR a b]).length=(L++[nxR a b]).length:=by rw [List.length_append];rfl
   have e4:L++nxR a b :: chR k b (nxR a b)=(L++[nxR a b])++chR k b (nxR a b):=by rw [List.append_assoc];rfl
   rw [e3,e4]
   exact ih
theorem chR_ok:∀(k i:Nat) (a b:List (List Int)),RInv i a b→(chR k a b).length≤k∧∀q∈chR k a b,q.length≤5∧∀l∈q,pQ 3433 l
 | 0,_,_,_,_=>⟨Nat.le_refl _,fun _ h=>by cases h⟩
 | k + 1,i,a,b,h=>by
  unfold chR
  by_cases hne:rsT b a.length a=[]
  ·rw [if_pos hne];exact ⟨Nat.zero_le _,fun _ h=>by cases h⟩
  ·rw [if_neg hne]
   obtain ⟨i2,hs⟩:=h.step hne
   obtain ⟨c1,c2⟩:=chR_ok k (i+1) b (nxR a b) hs
   refine ⟨by simp only [List.length_cons];omega,fun q hq=>?_⟩
   rcases List.mem_cons.1 hq with rfl | hq
   ·refine ⟨by have:=hs.lb;omega,fun l hl=>(hs.sb l hl).mono ?_⟩
    have hi:i=0∨i=1∨i=2:=by omega
    rcases hi with rfl | rfl | rfl<;>decide
   ·exact c2 q hq
theorem rinv0 {p:List Int} (h:zcx p):RInv 0 (zau p) (zaO p):=by
 obtain ⟨h2,h5,ha⟩:=h
 refine ⟨by omega,by rw [zdH];omega,by rw [zbH];omega,by rw [zbH];omega,fun l hl=>?_,fun l hl=>?_⟩
 ·unfold zau at hl
  obtain ⟨x,hx,rfl⟩:=List.mem_map.1 hl
  have:=ha x hx
  exact ⟨by simp [bd],fun d hd=>by simp at hd;subst hd;exact flB this⟩
 ·unfold zaO at hl
  obtain ⟨i,hi,rfl⟩:=List.mem_map.1 hl
  have hi:=List.mem_range.1 hi
  have g:=zeb ha (i+1)
  have m:=zlp (a:=((i+1:Nat):Int)) (b:=p.getD (i+1) 0) (A:=5) (B:=1000) (by omega) g
  exact ⟨by simp [bd],fun d hd=>by
   simp only [List.mem_cons,List.not_mem_nil,or_false] at hd;subst hd;unfold cZ;omega⟩
def zrT (p:List Int):List (List (List Int)):=zau p :: zaO p :: chR 4 (zau p) (zaO p)
theorem chRR_vls {p:List Int} (h:zcx p):(zrT p).map vls=chZ p:=by
 unfold zrT chZ
 rw [List.map_cons,List.map_cons,chR_vls 4 _ _ (by rw [zbH];have:=h.1;omega),vls_sing,vls_derR]
theorem znl {p:List Int} (h:zcx p) (a b:Int):svs (zrT p) a b=svZ (chZ p) a b:=by
 rw [← chRR_vls h]
 unfold svs svZ
 rw [List.map_map];rfl
theorem chRR_ok {p:List Int} (h:zcx p) {a d:Int} (ha:a.natAbs≤1000000) (hd:d.natAbs≤1000000):pCh (zrT p) [a] [d]:=by
 have hi:=rinv0 h
 obtain ⟨c1,c2⟩:=chR_ok 4 0 (zau p) (zaO p) hi
 have one:∀z:Int,z.natAbs≤1000000→pQ 1 [z]:=fun z hz=>⟨by simp,fun e he=>by simp at he;subst he;unfold cZ;omega⟩
 have key:∀q:List (List Int),q.length≤5→(∀l∈q,pQ 3433 l)→pAt q [a] [d]:=fun q hq hl=>by
  have:q.length*(1+13)≤5*(1+13):=Nat.mul_le_mul_right _ hq
  exact ⟨3433,1,hl,one a ha,one d hd,by omega,by omega⟩
 refine ⟨fun q hq=>?_,by unfold zrT;simp only [List.length_cons];omega⟩
 unfold zrT at hq
 rcases List.mem_cons.1 hq with rfl | hq
 ·exact key _ hi.la fun l hl=>(hi.sa l hl).mono (by decide)
 rcases List.mem_cons.1 hq with rfl | hq
 ·exact key _ (by have:=hi.lb;omega) fun l hl=>(hi.sb l hl).mono (by decide)
 ·exact key q (c2 q hq).1 (c2 q hq).2
def zhV (p:List Int) (a b d:Int):Int:=if p.length=2 then(if a≤-(p.getD 0 0)*d∧-(p.getD 0 0)*d≤b then 1 else 0) else zcP p a b d
theorem rRoots_fc (p:List Int) (a b d:Int) (h:zgc p a b d):FC tP 99 [.agg [.sq p,lI a,lI b,lI d]] (lI (zhV p a b d)):=by
 obtain ⟨hp,ha,hb,hd⟩:=h
 have g0:=zeb hp.2.2 0
 have m:=zlp (a:=0-p.getD 0 0) (b:=d) (A:=1000) (B:=1000000) (by omega) hd
 have hl:=hp.1
 have hl5:=hp.2.1
 have e0:0-p.getD 0 0 = -(p.getD 0 0):=by omega
 unfold zhV
 by_cases h2:p.length=2
 ·rw [if_pos h2]
  by_cases h3:a≤-(p.getD 0 0)*d
  ·by_cases h4:-(p.getD 0 0)*d≤b
   ·rw [if_pos ⟨h3,h4⟩]
    exact rro_0 p a b d (by omega) (by omega) (by omega) (by omega) (by omega) (by rw [e0];exact h3) (by rw [e0];exact h4)
   ·rw [if_neg (fun k=>h4 k.2)]
    exact rro_1 p a b d (by omega) (by omega) (by omega) (by omega) (by omega) (by rw [e0];exact h3) (by rw [e0];exact h4)
  ·rw [if_neg (fun k=>h3 k.1)]
   exact rro_2 p a b d (by omega) (by omega) (by omega) (by omega) (by omega) (by rw [e0];exact h3)
 ·rw [if_neg h2]
  have hi:=rinv0 hp
  have hle:=zlN hp a b d
  have ra:=chRR_ok hp ha hd
  have rb:=chRR_ok hp hb hd
  have va:=znl hp a d
  have vb:=znl hp b d
  have L0:=rro0 hp a b d
  have s1:List.take p.length (zau p)=zau p:=by rw [← zdH,List.take_length]
  have s2:List.take (p.length-1) (zaO p)=zaO p:=by rw [← zbH,List.take_length]
  have sl:=zdH p
  have dl:=zbH p
  by_cases hne:rsT (zaO p) (zau p).length (zau p)=[]
  ·have e:zrT p=[zau p,zaO p]:=by unfold zrT chR;rw [if_pos hne]
   unfold zcP at hle ⊢
   rw [← va,← vb,e] at hle ⊢
   rw [e] at ra rb
   have go:=rro_3 p a b d p.length (p.length-1) p.length (zau p) (zaO p) (by omega) L0 (by omega) (by omega)
    (by rw [s1,s2];exact zq9 p a b d (zau p) (zaO p) [zau p,zaO p] (by simp) (by simp) hi.re (by show((rsT (zaO p) (zau p).length (zau p)).length:Int)=0;rw [hne];rfl))
    (by simp) (by simp) (by simp) (by rw [s1,s2];exact ra) (by simp) (by rw [s1,s2];exact rb) (by rw [s1,s2,show List.take 1 [a]=[a] from rfl,show List.take 1 [b]=[b] from rfl,show List.take 1 [d]=[d] from rfl,zoF,zoF,zoF];show r64 ((zbi (svs [zau p,zaO p] a d) 0 0).1-(zbi (svs [zau p,zaO p] b d) 0 0).1);omega)
   rw [s1,s2,show List.take 1 [a]=[a] from rfl,show List.take 1 [b]=[b] from rfl,show List.take 1 [d]=[d] from rfl,zoF,zoF,zoF] at go
   exact go
  ·obtain ⟨i2,hs⟩:=hi.step hne
   have e:zrT p=[zau p,zaO p,nxR (zau p) (zaO p)]++chR 3 (zaO p) (nxR (zau p) (zaO p)):=by
    unfold zrT
    conv=>lhs;unfold chR
    rw [if_neg hne];rfl
   have L:=LA_loop (x:=p) (u:=a) (v:=b) (w:=d) (l1:=zau p) (l2:=zaO p) (l3:=[zau p,zaO p]) 3 1 [zau p,zaO p,nxR (zau p) (zaO p)] (zaO p) (nxR (zau p) (zaO p)) rfl rfl rfl rfl hs
   rw [← e] at L
   have hf:=hi.facts.1
   have K:=LB_all hi.px (by omega) (List.length_pos_iff.2 hne) p a b d (zau p) (zaO p) [zau p,zaO p]
   have hn:=zc3 (rsT (zaO p) (zau p).length (zau p))
   have go1:=@zra p a b d (zau p) (zaO p) [zau p,zaO p] (rsT (zaO p) (zau p).length (zau p)).length (rsT (zaO p) (zau p).length (zau p)).length (ngL (rsT (zaO p) (zau p).length (zau p))) (by simp) (by simp) hi.re
    (by have:=List.length_pos_iff.2 hne;show((rsT (zaO p) (zau p).length (zau p)).length:Int)≠0;omega) K (by omega) (by simp) (by simp) (by simp) (by simp) _
    (by
     rw [show List.take (rsT (zaO p) (zau p).length (zau p)).length (ngL (rsT (zaO p) (zau p).length (zau p)))=nxR (zau p) (zaO p) by rw [← hn,List.take_length];rfl]
     exact L)
   have go:=rro_4 p a b d p.length (p.length-1) p.length (zau p) (zaO p) (zrT p).length (zrT p) (by omega) L0 (by omega) (by omega) (by rw [s1,s2];exact go1) (Nat.le_refl _) (by simp) (by simp) (by rw [List.take_length];exact ra) (by simp) (by rw [List.take_length];exact rb)
    (by rw [List.take_length,show List.take 1 [a]=[a] from rfl,show List.take 1 [b]=[b] from rfl,show List.take 1 [d]=[d] from rfl,zoF,zoF,zoF,va,vb];unfold zcP at hle;omega)
   rw [List.take_length,show List.take 1 [a]=[a] from rfl,show List.take 1 [b]=[b] from rfl,show List.take 1 [d]=[d] from rfl,zoF,zoF,zoF,va,vb] at go
   exact go
def zjZ (p:List Int) (a b d:Int):Prop:=zgc p a b d
instance tRootsF {p:List Int} {a b d:Int}:Tst (zjZ p a b d):=⟨false,fun h=>by cases h⟩
noncomputable def ctrP6:Ctr:=(99,cFd zjZ (fun l a b d=>lI (zhV l a b d))) :: ctrP5
theorem ctrP6_all:∀p∈ctrP6,jZ tP p.1 p.2:=CAll.cons (ziP fun l a b d h=>rRoots_fc l a b d h) zg4
theorem zky:(eZ tP ctrP6 bw).OK:=JZ ctrP6_all
noncomputable section
theorem rck_0 (p:List Int) (a b d:Int) (h1:(p.length:Int)<2):FC tP 32 [.agg [.sq p,lI a,lI b,lI d]] (aI 10):=dZ zky 60 [1] (.t h1<|.e) [1]
theorem rck_1 (p:List Int) (a b d:Int) (h1:¬((p.length:Int)<2)) (h2:(p.length:Int) > 5):FC tP 32 [.agg [.sq p,lI a,lI b,lI d]] (aI 10):=dZ zky 60 [0,1] (.f h1<|.t h2<|.e) [1,2]
abbrev zax (s:St) (r:Ex × St):Prop:=Loops 1 tP (kZ tP 32 0) s r
abbrev EZ (a:Int) (b:List Int) (c d e f:Int):St:=⟨sp 62 [(1,.ref 0 0),(3,aI a),(4,aI f)],[.flat [.sq b,aI c,aI d,aI e] true],[]⟩
abbrev zc9 (a:Int) (b:List Int) (c d e:Int):St:=⟨sp 62 [(2,aI 2)],[.flat [.sq b,aI c,aI d,aI e] true],[]⟩
abbrev SZ (a:Int) (b:List Int) (c d e f:Int):St:=⟨sp 62 [(1,.ref 0 0),(3,aI a),(4,aI f)],[.flat [.sq b,aI c,aI d,aI e] true],[]⟩
theorem zpX (a:Int) (b:List Int) (c d f g:Int) (h1:g<a) (h2:0≤g) (h3:g<(b.length:Int)) (h4:g.toNat<b.length) (h5:b.getD g.toNat 0≥-1000) (h6:¬(b.getD g.toNat 0≤1000)):zax (EZ a b c d f g) (Ex.ret,(zc9 a b c d f)):=LF (LS.at zky 60 [] [2] [] [1,1,1] (.t h1<|.t h2<|.t h3<|.t h4<|.t h5<|.y h6<|.e) [1,2,3,4,5,6])
theorem zpY (a:Int) (b:List Int) (c d f g:Int) (h1:g<a) (h2:0≤g) (h3:g<(b.length:Int)) (h4:g.toNat<b.length) (h5:b.getD g.toNat 0≥-1000) (h6:b.getD g.toNat 0≤1000) (h7:r64 (g+1)):LG zax (EZ a b c d f g) (EZ a b c d f (g+1)):=Loops.go (LS.at zky 60 [] [1,3,4] [] [1,1,0] (.t h1<|.t h2<|.t h3<|.t h4<|.t h5<|.x h6<|.i h7<|.e) [1,2,3,4,5,6,7])
theorem zpZ (a:Int) (b:List Int) (c d g i:Int) (h1:i<a) (h2:0≤i) (h3:i<(b.length:Int)) (h4:i.toNat<b.length) (h5:¬(b.getD i.toNat 0≥-1000)):zax (EZ a b c d g i) (Ex.ret,(zc9 a b c d g)):=LF (LS.at zky 60 [] [2] [] [1,0] (.t h1<|.t h2<|.t h3<|.t h4<|.f h5<|.e) [1,2,3,4,5])
theorem zp0 (a:Int) (b:List Int) (c d g i:Int) (h1:¬(i<a)):zax (EZ a b c d g i) (Ex.exit 0,(SZ a b c d g i)):=LF (LS.at zky 60 [] [1,3,4] [] [0] (.f h1<|.e) [1])
theorem rck_2 (p:List Int) (a b d:Int) (h1:¬((p.length:Int)<2)) (h2:¬((p.length:Int) > 5)) (hL1:zax (EZ ((p.length:Int)) p a b d (0)) (Ex.ret,(zc9 ((p.length:Int)) p a b d))):FC tP 32 [.agg [.sq p,lI a,lI b,lI d]] (aI 2):=dZ zky 60 [0,0] (.f h1<|.f h2<|.v [1,3,4] [] hL1<|.e) [1,2,0,3]
theorem rck_3 (p:List Int) (a b d c:Int) (h1:¬((p.length:Int)<2)) (h2:¬((p.length:Int) > 5)) (hL1:zax (EZ ((p.length:Int)) p a b d (0)) (Ex.exit 0,(SZ ((p.length:Int)) p a b d c))) (h4:d≥1) (h5:¬(d≤1000000)):FC tP 32 [.agg [.sq p,lI a,lI b,lI d]] (aI 2):=dZ zky 60 [0,0,1,1] (.f h1<|.f h2<|.v [1,3,4] [] hL1<|.t h4<|.y h5<|.e) [1,2,0,3,4,5]
theorem rck_4 (p:List Int) (a b d c:Int) (h1:¬((p.length:Int)<2)) (h2:¬((p.length:Int) > 5)) (hL1:zax (EZ ((p.length:Int)) p a b d (0)) (Ex.exit 0,(SZ ((p.length:Int)) p a b d c))) (h4:d≥1) (h5:d≤1000000) (h6:a≥-1000000) (h7:¬(a≤1000000)):FC tP 32 [.agg [.sq p,lI a,lI b,lI d]] (aI 2):=dZ zky 60 [0,0,1,0,1,1] (.f h1<|.f h2<|.v [1,3,4] [] hL1<|.t h4<|.x h5<|.t h6<|.y h7<|.e) [1,2,0,3,4,5,6,7]
theorem rck_5 (p:List Int) (a b d c:Int) (h1:¬((p.length:Int)<2)) (h2:¬((p.length:Int) > 5)) (hL1:zax (EZ ((p.length:Int)) p a b d (0)) (Ex.exit 0,(SZ ((p.length:Int)) p a b d c))) (h4:d≥1) (h5:d≤1000000) (h6:a≥-1000000) (h7:a≤1000000) (h8:b≥-1000000) (h9:¬(b≤1000000)):FC tP 32 [.agg [.sq p,lI a,lI b,lI d]] (aI 2):=dZ zky 60 [0,0,1,0,1,0,1,1] (.f h1<|.f h2<|.v [1,3,4] [] hL1<|.t h4<|.x h5<|.t h6<|.x h7<|.t h8<|.y h9<|.e) [1,2,0,3,4,5,6,7,8,9]
theorem rck_6 (p:List Int) (a b d g:Int) (h1:¬((p.length:Int)<2)) (h2:¬((p.length:Int) > 5)) (hL1:zax (EZ ((p.length:Int)) p a b d (0)) (Ex.exit 0,(SZ ((p.length:Int)) p a b d g))) (h4:d≥1) (h5:d≤1000000) (h6:a≥-1000000) (h7:a≤1000000) (h8:b≥-1000000) (h9:b≤1000000) (h10:r64 ((p.length:Int)-1)) (h11:0≤(p.length:Int)-1) (h12:(p.length:Int)-1<(p.length:Int)) (h13:((p.length:Int)-1).toNat<p.length) (h14:p.getD ((p.length:Int)-1).toNat 0≠1):FC tP 32 [.agg [.sq p,lI a,lI b,lI d]] (aI 3):=dZ zky 60 [0,0,1,0,1,0,1,0,1] (.f h1<|.f h2<|.v [1,3,4] [] hL1<|.t h4<|.x h5<|.t h6<|.x h7<|.t h8<|.x h9<|.i h10<|.t h11<|.t h12<|.t h13<|.c (bne_iff_ne.2 h14)<|.e) [1,2,0,3,4,5,6,7,8,9,10,11,12,13,14]
theorem rck_7 (p:List Int) (a b d g:Int) (h1:¬((p.length:Int)<2)) (h2:¬((p.length:Int) > 5)) (hL1:zax (EZ ((p.length:Int)) p a b d (0)) (Ex.exit 0,(SZ ((p.length:Int)) p a b d g))) (h4:d≥1) (h5:d≤1000000) (h6:a≥-1000000) (h7:a≤1000000) (h8:b≥-1000000) (h9:b≤1000000) (h10:r64 ((p.length:Int)-1)) (h11:0≤(p.length:Int)-1) (h12:(p.length:Int)-1<(p.length:Int)) (h13:((p.length:Int)-1).toNat<p.length) (h14:p.getD ((p.length:Int)-1).toNat 0=1) (h15:zcx p) (h16:red p=true):FC tP 32 [.agg [.sq p,lI a,lI b,lI d]] (aI 3):=dZ zky 60 [0,0,1,0,1,0,1,0,0,1] (.f h1<|.f h2<|.v [1,3,4] [] hL1<|.t h4<|.x h5<|.t h6<|.x h7<|.t h8<|.x h9<|.i h10<|.t h11<|.t h12<|.t h13<|.c (bne_eq_false_iff_eq.2 h14)<|.c h15<|.c h16<|.e) [1,2,0,3,4,5,6,7,8,9,10,11,12,13,14,15,16]
theorem rck_8 (p:List Int) (a b d g:Int) (h1:¬((p.length:Int)<2)) (h2:¬((p.length:Int) > 5)) (hL1:zax (EZ ((p.length:Int)) p a b d (0)) (Ex.exit 0,(SZ ((p.length:Int)) p a b d g))) (h4:d≥1) (h5:d≤1000000) (h6:a≥-1000000) (h7:a≤1000000) (h8:b≥-1000000) (h9:b≤1000000) (h10:r64 ((p.length:Int)-1)) (h11:0≤(p.length:Int)-1) (h12:(p.length:Int)-1<(p.length:Int)) (h13:((p.length:Int)-1).toNat<p.length) (h14:p.getD ((p.length:Int)-1).toNat 0=1) (h15:zcx p) (h16:red p=false) (h17:a > b):FC tP 32 [.agg [.sq p,lI a,lI b,lI d]] (aI 9):=dZ zky 60 [0,0,1,0,1,0,1,0,0,0,1] (.f h1<|.f h2<|.v [1,3,4] [] hL1<|.t h4<|.x h5<|.t h6<|.x h7<|.t h8<|.x h9<|.i h10<|.t h11<|.t h12<|.t h13<|.c (bne_eq_false_iff_eq.2 h14)<|.c h15<|.c h16<|.t h17<|.e) [1,2,0,3,4,5,6,7,8,9,10,11,12,13,14,15,16,17]
theorem rck_9 (p:List Int) (a b d g:Int) (h1:¬((p.length:Int)<2)) (h2:¬((p.length:Int) > 5)) (hL1:zax (EZ ((p.length:Int)) p a b d (0)) (Ex.exit 0,(SZ ((p.length:Int)) p a b d g))) (h4:d≥1) (h5:d≤1000000) (h6:a≥-1000000) (h7:a≤1000000) (h8:b≥-1000000) (h9:b≤1000000) (h10:r64 ((p.length:Int)-1)) (h11:0≤(p.length:Int)-1) (h12:(p.length:Int)-1<(p.length:Int)) (h13:((p.length:Int)-1).toNat<p.length) (h14:p.getD ((p.length:Int)-1).toNat 0=1) (h15:zcx p) (h16:red p=false) (h17:¬(a > b)) (h18:zjZ p a b d) (h19:zhV p a b d≠1):FC tP 32 [.agg [.sq p,lI a,lI b,lI d]] (aI 11):=dZ zky 60 [0,0,1,0,1,0,1,0,0,0,0,1] (.f h1<|.f h2<|.v [1,3,4] [] hL1<|.t h4<|.x h5<|.t h6<|.x h7<|.t h8<|.x h9<|.i h10<|.t h11<|.t h12<|.t h13<|.c (bne_eq_false_iff_eq.2 h14)<|.c h15<|.c h16<|.f h17<|.c h18<|.c (bne_iff_ne.2 h19)<|.e) [1,2,0,3,4,5,6,7,8,9,10,11,12,13,14,15,16,17,18,19]
theorem rck_10 (p:List Int) (a b d g:Int) (h1:¬((p.length:Int)<2)) (h2:¬((p.length:Int) > 5)) (hL1:zax (EZ ((p.length:Int)) p a b d (0)) (Ex.exit 0,(SZ ((p.length:Int)) p a b d g))) (h4:d≥1) (h5:d≤1000000) (h6:a≥-1000000) (h7:a≤1000000) (h8:b≥-1000000) (h9:b≤1000000) (h10:r64 ((p.length:Int)-1)) (h11:0≤(p.length:Int)-1) (h12:(p.length:Int)-1<(p.length:Int)) (h13:((p.length:Int)-1).toNat<p.length) (h14:p.getD ((p.length:Int)-1).toNat 0=1) (h15:zcx p) (h16:red p=false) (h17:¬(a > b)) (h18:zjZ p a b d) (h19:zhV p a b d=1):FC tP 32 [.agg [.sq p,lI a,lI b,lI d]] (aI 0):=dZ zky 60 [0,0,1,0,1,0,1,0,0,0,0,0] (.f h1<|.f h2<|.v [1,3,4] [] hL1<|.t h4<|.x h5<|.t h6<|.x h7<|.t h8<|.x h9<|.i h10<|.t h11<|.t h12<|.t h13<|.c (bne_eq_false_iff_eq.2 h14)<|.c h15<|.c h16<|.f h17<|.c h18<|.c (bne_eq_false_iff_eq.2 h19)<|.e) [1,2,0,3,4,5,6,7,8,9,10,11,12,13,14,15,16,17,18,19]
theorem rck_11 (p:List Int) (a b d c:Int) (h1:¬((p.length:Int)<2)) (h2:¬((p.length:Int) > 5)) (hL1:zax (EZ ((p.length:Int)) p a b d (0)) (Ex.exit 0,(SZ ((p.length:Int)) p a b d c))) (h4:d≥1) (h5:d≤1000000) (h6:a≥-1000000) (h7:a≤1000000) (h8:¬(b≥-1000000)):FC tP 32 [.agg [.sq p,lI a,lI b,lI d]] (aI 2):=dZ zky 60 [0,0,1,0,1,0,0] (.f h1<|.f h2<|.v [1,3,4] [] hL1<|.t h4<|.x h5<|.t h6<|.x h7<|.f h8<|.e) [1,2,0,3,4,5,6,7,8]
theorem rck_12 (p:List Int) (a b d c:Int) (h1:¬((p.length:Int)<2)) (h2:¬((p.length:Int) > 5)) (hL1:zax (EZ ((p.length:Int)) p a b d (0)) (Ex.exit 0,(SZ ((p.length:Int)) p a b d c))) (h4:d≥1) (h5:d≤1000000) (h6:¬(a≥-1000000)):FC tP 32 [.agg [.sq p,lI a,lI b,lI d]] (aI 2):=dZ zky 60 [0,0,1,0,0] (.f h1<|.f h2<|.v [1,3,4] [] hL1<|.t h4<|.x h5<|.f h6<|.e) [1,2,0,3,4,5,6]
theorem rck_13 (p:List Int) (a b d c:Int) (h1:¬((p.length:Int)<2)) (h2:¬((p.length:Int) > 5)) (hL1:zax (EZ ((p.length:Int)) p a b d (0)) (Ex.exit 0,(SZ ((p.length:Int)) p a b d c))) (h4:¬(d≥1)):FC tP 32 [.agg [.sq p,lI a,lI b,lI d]] (aI 2):=dZ zky 60 [0,0,0] (.f h1<|.f h2<|.v [1,3,4] [] hL1<|.f h4<|.e) [1,2,0,3,4]
end
open Go.Kf
theorem one_roots {p:List Int} {a b d:Int}:zhV p a b d=1↔zmb p a b d=true:=by
 unfold zhV zmb
 by_cases h2:p.length=2
 ·rw [if_pos h2,if_pos h2,Bool.and_eq_true,decide_eq_true_eq,decide_eq_true_eq]
  by_cases h:a≤-(p.getD 0 0)*d∧-(p.getD 0 0)*d≤b
  ·rw [if_pos h];exact ⟨fun _=>h,fun _=>rfl⟩
  ·rw [if_neg h];exact ⟨fun k=>by omega,fun k=>absurd k h⟩
 ·rw [if_neg h2,if_neg h2,beq_iff_eq]
theorem zoa {p:List Int} (hl:p.length≤1000) (a b d:Int):∀(m i:Nat),i+m=p.length →
 (zd1 (p.drop i)=true∧zax (EZ p.length p a b d i) (Ex.ret,zc9 p.length p a b d))∨(zd1 (p.drop i)=false∧∃t,zax (EZ p.length p a b d i) (Ex.exit 0,SZ p.length p a b d t))
 | 0,i,hi=>by
  obtain rfl:i=p.length:=by omega
  exact .inr ⟨by rw [List.drop_length];rfl,p.length,zp0 p.length p a b d p.length (by omega)⟩
 | m + 1,i,hi=>by
  have hlt:i<p.length:=by omega
  have e1:Int.toNat (i:Int)=i:=rfl
  rw [zkF hlt]
  by_cases h1:p.getD i 0≥-1000
  ·by_cases h2:p.getD i 0≤1000
   ·have go:=fun r=>@zpY p.length p a b d i (by omega) (by omega) (by omega) (by omega) h1 h2 (by omega) r
    rw [decide_eq_false (show ¬p.getD i 0 < -1000 by omega),decide_eq_false (show ¬1000<p.getD i 0 by omega),Bool.false_or,Bool.false_or]
    rcases zoa hl a b d m (i+1) (by omega) with ⟨x,k⟩ | ⟨x,t,k⟩
    ·exact .inl ⟨x,go _ k⟩
    ·exact .inr ⟨x,t,go _ k⟩
   ·exact .inl ⟨by rw [decide_eq_true (show 1000<p.getD i 0 by omega)];simp,zpX p.length p a b d i (by omega) (by omega) (by omega) (by omega) h1 h2⟩
  ·exact .inl ⟨by rw [decide_eq_true (show p.getD i 0 < -1000 by omega)];simp,zpZ p.length p a b d i (by omega) (by omega) (by omega) (by omega) h1⟩
theorem rcheck_fc (p:List Int) (a b d:Int):FC tP 32 [.agg [.sq p,lI a,lI b,lI d]] (lI (zbw p a b d)):=by
 have loops:2≤p.length→p.length≤5→(zd1 p=true→zax (EZ p.length p a b d 0) (Ex.ret,zc9 p.length p a b d))∧(zd1 p=false→∃t,zax (EZ p.length p a b d 0) (Ex.exit 0,SZ p.length p a b d t)):=fun l2 l5=>by
  have:=zoa (p:=p) (by omega) a b d p.length 0 (by omega)
  rw [List.drop_zero] at this
  rcases this with ⟨x,k⟩ | ⟨x,t,k⟩
  ·exact ⟨fun _=>k,fun y=>by rw [x] at y;cases y⟩
  ·exact ⟨fun y=>(by rw [x] at y;cases y),fun _=>⟨t,k⟩⟩
 rcases zg1 p a b d with h | h | ⟨l2,l5,bg⟩ | ⟨l2,l5,bg,h⟩
 ·have hrd:=h.rd
  have hro:=h.ro
  rw [h.eq]
  obtain ⟨l2,l5,bg,d1,d2,a1,a2,b1,b2⟩:=h
  obtain ⟨t,K⟩:=(loops l2 l5).2 bg
  have e1:Int.toNat ((p.length:Int)-1)=p.length-1:=by omega
  by_cases c1:p.getD (p.length-1) 0=1
  ·cases c2:red p with
   | true=>
    rw [if_pos (.inr rfl)]
    exact rck_7 p a b d t (by omega) (by omega) K (by omega) (by omega) (by omega) (by omega) (by omega) (by omega) (by omega) (by omega) (by omega) (by omega) (by rw [e1];exact c1) hrd c2
   | false=>
    rw [if_neg (by simp only [c1,ne_eq,not_true_eq_false,false_or,Bool.false_eq_true,not_false_eq_true])]
    by_cases c3:b<a
    ·rw [if_pos c3]
     exact rck_8 p a b d t (by omega) (by omega) K (by omega) (by omega) (by omega) (by omega) (by omega) (by omega) (by omega) (by omega) (by omega) (by omega) (by rw [e1];exact c1) hrd c2 c3
    ·rw [if_neg c3]
     cases c4:zmb p a b d with
     | false=>
      rw [if_pos rfl]
      exact rck_9 p a b d t (by omega) (by omega) K (by omega) (by omega) (by omega) (by omega) (by omega) (by omega) (by omega) (by omega) (by omega) (by omega) (by rw [e1];exact c1) hrd c2 c3 hro (fun e=>by rw [one_roots.1 e] at c4;cases c4)
     | true=>
      rw [if_neg (by decide)]
      exact rck_10 p a b d t (by omega) (by omega) K (by omega) (by omega) (by omega) (by omega) (by omega) (by omega) (by omega) (by omega) (by omega) (by omega) (by rw [e1];exact c1) hrd c2 c3 hro (one_roots.2 c4)
  ·rw [if_pos (.inl c1)]
   exact rck_6 p a b d t (by omega) (by omega) K (by omega) (by omega) (by omega) (by omega) (by omega) (by omega) (by omega) (by omega) (by omega) (by omega) (by rw [e1];exact c1)
 ·rw [zmo h]
  by_cases l2:p.length<2
  ·exact rck_0 p a b d (by omega)
  ·exact rck_1 p a b d (by omega) (by omega)
 ·rw [zmn ⟨l2,l5⟩ bg]
  exact rck_2 p a b d (by omega) (by omega) ((loops l2 l5).1 bg)
 ·rw [zmp ⟨l2,l5⟩ h]
  obtain ⟨t,K⟩:=(loops l2 l5).2 bg
  by_cases d1:1≤d
  ·by_cases d2:d≤1000000
   ·by_cases a1:-1000000≤a
    ·by_cases a2:a≤1000000
     ·by_cases b1:-1000000≤b
      ·exact rck_5 p a b d t (by omega) (by omega) K d1 d2 a1 a2 b1 (by omega)
      ·exact rck_11 p a b d t (by omega) (by omega) K d1 d2 a1 a2 b1
     ·exact rck_4 p a b d t (by omega) (by omega) K d1 d2 a1 a2
    ·exact rck_12 p a b d t (by omega) (by omega) K d1 d2 a1
   ·exact rck_3 p a b d t (by omega) (by omega) K d1 d2
  ·exact rck_13 p a b d t (by omega) (by omega) K d1
noncomputable section
end
open Go.Kf
theorem LeL.six {a b c d e f e' f':AV} {l:List AV} (h1:Le e e') (h2:Le f f'):LeL (a :: b :: c :: d :: e :: f :: l) (a :: b :: c :: d :: e' :: f' :: l):=
 .cons (Le.refl _) (.cons (Le.refl _) (.cons (Le.refl _) (.cons (Le.refl _) (.cons h1 (.cons h2 (LeL.refl _))))))
theorem open_err (p:List Int) (a b d:Int) (h1:zbw p a b d≠0):FC tP 33 [.agg [.sq p,lI a,lI b,lI d]] (.tup [.lit (.pointer none),lI (zbw p a b d)]):=
 dZ okP5 60 [1] (.c (bne_iff_ne.2 h1)<|.e) [0,1]
noncomputable def cOpen (args:List AV):M AV:=match args with
 | [x]=>do
  let f ← asK fieldK x
  match f with
  | (l,a,b,d)=>do
   let z ← dec (decide (zbw l a b d=0))
   match z with
   | true=>M.pure (.tup [openA l a b d,.lit (.int .i64 0)])
   | false=>M.pure (.tup [.lit (.pointer none),.lit (.int .i64 (zbw l a b d))])
 | _=>fail 313
theorem cOpen_ok:jZ tP 33 cOpen:=by
 intro args _
 unfold cOpen
 split
 ·refine Spec.bind (asK_spec.mono fun f hf=>?_)
  obtain ⟨l,a,b,d⟩:=f
  refine Spec.bind (Spec.dec ?_)
  by_cases h:zbw l a b d=0
  ·rw [decide_eq_true h]
   exact Spec.pure' ((open_fc l a b d h).le (.cons hf .nil) (Le.refl _))
  ·rw [decide_eq_false h]
   exact Spec.pure' ((open_err l a b d h).le (.cons hf .nil) (Le.refl _))
 ·exact Spec.fail
noncomputable section
end
open Go.Kf
abbrev F2:AV:=.agg [.sq [-2,0,1],lI 1,lI 2,lI 1]
abbrev R2:AV:=.pd [.sq [-2,0,1],lI 1,lI 2,lI 1,.sl [.lit (.bool true),.wd (-2),.lit (.bool false),.wd 0,.lit (.bool false),.wd 1] 3,.sl [.lit (.bool false),.wd 2,.lit (.bool false),.wd 0] 2,
 .lit (.bool false),.wd 26087635650665564424,.lit (.bool false),.wd 26087635650665564425,.lit (.bool false),.wd 18446744073709551616] 0
theorem red2:red [-2,0,1]=false:=Value.bool.inj (AV.lit.inj (ziI fun h=>by
 rcases h.2 with ⟨x,hx⟩ | ⟨h5,_⟩
 ·have e:pv [-2,0,1] x=(((0*x+1)*x+0)*x + -2:Int):=rfl
  rw [e] at hx
  have h2:x*x=2:=by grind
  have h3:x.natAbs*x.natAbs=2:=by rw [← Int.natAbs_mul,h2];rfl
  have:x.natAbs=0∨x.natAbs=1∨2≤x.natAbs:=by omega
  rcases this with h | h | h
  ·rw [h] at h3;cases h3
  ·rw [h] at h3;cases h3
  ·have:=Nat.mul_le_mul h h;omega
 ·cases h5))
theorem chk2:zbw [-2,0,1] 1 2 1=0:=by
 have hr:ChkR [-2,0,1] 1 2 1:=⟨by decide,by decide,by decide,by decide,by decide,by decide,by decide,by decide,by decide⟩
 rw [hr.eq,red2,if_neg (by decide),if_neg (by decide),show zmb [-2,0,1] 1 2 1=true by kernel_rfl];rfl
theorem hv64:hvG [-2,0,1] 64 1 2 1=(26087635650665564424,26087635650665564425,18446744073709551616):=by kernel_rfl
theorem Le.lst_sl {l:List Int} {cells:List AV} {n:Nat} (h:cells=uZ .W l) (hn:n=l.length):Le (.lst .whole l) (.sl cells n):=by
 subst h;subst hn;exact Le.lst_slW l
theorem open2:FC tP 33 [F2] (.tup [R2,lI 0]):=by
 have:=open_fc [-2,0,1] 1 2 1 chk2
 refine this.le (LeL.refl _) ?_
 unfold openA oA
 rw [show hvC [-2,0,1]=64 from rfl,hv64]
 exact Le.tup (.cons (Le.pd (LeL.six (Le.lst_sl rfl rfl) (Le.lst_sl rfl rfl))) (LeL.refl _))
abbrev nW:AV:=.agg [.sl [.lit (.slice none 0 0),.sq [1]] 2,.lit (.slice none 0 0)]
abbrev nA1 (a d:Int):AV:=.agg [.sl [.ni a] 1,.ni d]
abbrev nA2 (a b d:Int):AV:=.agg [.sl [.ni a,.ni b] 2,.ni d]
noncomputable section
theorem cRoot:zl9 (eZ tP zet bw) 300 65 [lI 2]=some (.tup [.agg [.sq [-2,0,1],aI 1,aI 2,aI 1],aI 0],[3≤3]):=by kernel_rfl
theorem cWhole1:zl9 (eZ tP zet bw) 300 29 [lI 1]=some (.agg [.sl [.ni 1] 1,.ni 1],[]):=by kernel_rfl
theorem cWhole3:zl9 (eZ tP zet bw) 300 29 [lI 3]=some (.agg [.sl [.ni 3] 1,.ni 1],[]):=by kernel_rfl
theorem cWhole100:zl9 (eZ tP zet bw) 300 29 [lI 100]=some (.agg [.sl [.ni 100] 1,.ni 1],[]):=by kernel_rfl
theorem cAdd1:zl9 (eZ tP zet bw) 300 22 [R2,nA1 1 1,nW]=some (.agg [.sl [.ni 1,.ni 1] 2,.ni 1],[]):=by kernel_rfl
theorem cAdd2:zl9 (eZ tP zet bw) 300 22 [R2,nW,nW]=some (.agg [.sl [.ni 0,.ni 2] 2,.ni 1],[]):=by kernel_rfl
theorem cSub:zl9 (eZ tP zet bw) 300 24 [R2,nA1 3 1,nA2 0 2 1]=some (.agg [.sl [.ni 3,.ni (-2)] 2,.ni 1],[]):=by kernel_rfl
theorem cMul:zl9 (eZ tP zet bw) 300 26 [R2,nA1 100 1,nW]=some (.agg [.sl [.ni 0,.ni 100] 2,.ni 1],[]):=by kernel_rfl
theorem cSign:zl9 (eZ tP zet bw) 300 28 [R2,nA2 3 (-2) 1]=some (aI 1,[]):=by kernel_rfl
theorem cFloor:zl9 (eZ tP zet bw) 300 31 [R2,nA2 0 100 1]=some (.ni 141,[]):=by kernel_rfl
theorem cQuo:zl9 (eZ tP zet bw) 300 17 [R2,nA1 1 1,nA2 1 1 1]=some (.tup [.agg [.sl [.ni (-1),.ni 1] 2,.ni 1],aI 0],[]):=by kernel_rfl
end
theorem cFmt:zl9 (eZ tP ctrT2 bw) 300 75 [R2,nA2 (-1) 1 1]=some (.lit (.string ⟨#[45,49,44,49]⟩),[]):=by kernel_rfl
theorem root2:FC tP 65 [lI 2] (.tup [F2,lI 0]):=zbK okAw cRoot (.cons (Nat.le_refl _) .nil)
theorem whole1:FC tP 29 [lI 1] (nA1 1 1):=zbK okAw cWhole1 .nil
theorem whole3:FC tP 29 [lI 3] (nA1 3 1):=zbK okAw cWhole3 .nil
theorem whole100:FC tP 29 [lI 100] (nA1 100 1):=zbK okAw cWhole100 .nil
theorem add1:FC tP 22 [R2,nA1 1 1,nW] (nA2 1 1 1):=zbK okAw cAdd1 .nil
theorem add2:FC tP 22 [R2,nW,nW] (nA2 0 2 1):=zbK okAw cAdd2 .nil
theorem sub1:FC tP 24 [R2,nA1 3 1,nA2 0 2 1] (nA2 3 (-2) 1):=zbK okAw cSub .nil
theorem mul1:FC tP 26 [R2,nA1 100 1,nW] (nA2 0 100 1):=zbK okAw cMul .nil
theorem sign1:FC tP 28 [R2,nA2 3 (-2) 1] (lI 1):=zbK okAw cSign .nil
theorem floor1:FC tP 31 [R2,nA2 0 100 1] (.ni 141):=zbK okAw cFloor .nil
theorem fmt1:FC tP 75 [R2,nA2 (-1) 1 1] (.lit (.string ⟨#[45,49,44,49]⟩)):=zbK okT2 cFmt .nil
theorem quo1:FC tP 17 [R2,nA1 1 1,nA2 1 1 1] (.tup [nA2 (-1) 1 1,lI 0]):=zbK okAw cQuo .nil
def ctrW:Ctr:=(33,cK [F2] (.tup [R2,lI 0])) :: (65,cK [lI 2] (.tup [F2,lI 0])) ::
 (29,orC (cK [lI 1] (nA1 1 1)) (orC (cK [lI 3] (nA1 3 1)) (cK [lI 100] (nA1 100 1)))) ::
 (22,orC (cK [R2,nA1 1 1,nW] (nA2 1 1 1)) (cK [R2,nW,nW] (nA2 0 2 1))) ::
 (24,cK [R2,nA1 3 1,nA2 0 2 1] (nA2 3 (-2) 1)) ::
 (26,cK [R2,nA1 100 1,nW] (nA2 0 100 1)) ::
 (28,cK [R2,nA2 3 (-2) 1] (lI 1)) ::
 (31,cK [R2,nA2 0 100 1] (.ni 141)) ::
 (75,cK [R2,nA2 (-1) 1 1] (.lit (.string ⟨#[45,49,44,49]⟩))) ::
 (17,cK [R2,nA1 1 1,nA2 1 1 1] (.tup [nA2 (-1) 1 1,lI 0])) :: ctrT2
theorem ctrW_all:∀p∈ctrW,jZ tP p.1 p.2:=
 CAll.cons (zd2 open2)<|CAll.cons (zd2 root2)<|CAll.cons (orC_ok (zd2 whole1) (orC_ok (zd2 whole3) (zd2 whole100)))<|CAll.cons (orC_ok (zd2 add1) (zd2 add2))<|CAll.cons (zd2 sub1) <|
 CAll.cons (zd2 mul1)<|CAll.cons (zd2 sign1)<|CAll.cons (zd2 floor1)<|CAll.cons (zd2 fmt1)<|CAll.cons (zd2 quo1) zk5
theorem okW:(eZ tP ctrW bw).OK:=JZ ctrW_all
noncomputable section
theorem cAwake:zl9 (eZ tP ctrW bw) 300 16 []=some (aT,[1≤1,1≤1,1≤1,1≤1,1≤1,1≤1,1≤1,1≤1,1≤1,1≤1,1≤1,1≤1,1≤1,1≤1,1≤1,1≤1,1≤1,1≤1,1≤1,1≤1,1≤1]):=by kernel_rfl
end
theorem awake_fc:FC tP 16 [] (.lit (.bool true)):=zbK okW cAwake (by(repeat' (first | exact AllC.nil | refine AllC.cons ?_ ?_));all_goals (first | (with_reducible rfl) | exact Nat.le_refl _ | trivial | decide))
noncomputable section
theorem bsh_0 (C:List (List Int)) (D:List Int) (k:Int) (h1:(C.length:Int) > 6):FC tP 73 [.agg [.lst (.sl (.int .i64)) C,.sq D],lI k] (.ff):=dZ okW 60 [1] (.t h1<|.e) [1]
theorem bsh_1 (C:List (List Int)) (D:List Int) (k:Int) (h1:¬((C.length:Int) > 6)) (h2:(D.length:Int) > k):FC tP 73 [.agg [.lst (.sl (.int .i64)) C,.sq D],lI k] (.ff):=dZ okW 60 [0,1] (.f h1<|.t h2<|.e) [1,2]
abbrev zeq (s:St) (r:Ex × St):Prop:=Loops 1 tP (kZ tP 73 0) s r
abbrev zaS (a:Int) (b:List (List Int)) (c:List Int) (d:Int):St:=⟨sp 32 [(1,aI a),(2,.ref 0 0),(5,aI d)],[.flat [.lst KI b,.sq c] true],[]⟩
abbrev zgW (a:Int) (b:List (List Int)) (c:List Int):St:=⟨sp 32 [(4,.ff)],[.flat [.lst KI b,.sq c] true],[]⟩
abbrev zgX (a:Int) (b:List (List Int)) (c:List Int) (d:Int):St:=⟨sp 32 [(1,aI a),(2,.ref 0 0),(5,aI d)],[.flat [.lst KI b,.sq c] true],[]⟩
theorem zoO (a:Int) (b:List (List Int)) (c:List Int) (d:Int) (h1:d<(b.length:Int)) (h2:0≤d) (h3:(↑((b.getD d.toNat []).length):Int) > a):zeq (zaS a b c d) (Ex.ret,(zgW a b c)):=LF (LS.at okW 60 [] [4] [] [1,1] (.t h1<|.t h2<|.t h3<|.e) [1,2,1,3])
theorem zoP (a:Int) (b:List (List Int)) (c:List Int) (d:Int) (h1:d<(b.length:Int)) (h2:0≤d) (h3:¬((↑((b.getD d.toNat []).length):Int) > a)) (h4:r64 (d+1)):LG zeq (zaS a b c d) (zaS a b c (d+1)):=Loops.go (LS.at okW 60 [] [1,2,5] [] [1,0] (.t h1<|.t h2<|.f h3<|.i h4<|.e) [1,2,1,3,4])
theorem zoQ (a:Int) (b:List (List Int)) (c:List Int) (d:Int) (h1:¬(d<(b.length:Int))):zeq (zaS a b c d) (Ex.exit 0,(zgX a b c d)):=LF (LS.at okW 60 [] [1,2,5] [] [0] (.f h1<|.e) [1])
theorem bsh_2 (C:List (List Int)) (D:List Int) (k:Int) (h1:¬((C.length:Int) > 6)) (h2:¬((D.length:Int) > k)) (hL1:zeq (zaS k C D (0)) (Ex.ret,(zgW k C D))):FC tP 73 [.agg [.lst (.sl (.int .i64)) C,.sq D],lI k] (.ff):=dZ okW 60 [0,0] (.f h1<|.f h2<|.v [1,2,5] [] hL1<|.e) [1,2,0,3]
theorem bsh_3 (C:List (List Int)) (D:List Int) (k a:Int) (h1:¬((C.length:Int) > 6)) (h2:¬((D.length:Int) > k)) (hL1:zeq (zaS k C D (0)) (Ex.exit 0,(zgX k C D a))):FC tP 73 [.agg [.lst (.sl (.int .i64)) C,.sq D],lI k] (.tt):=dZ okW 60 [0,0] (.f h1<|.f h2<|.v [1,2,5] [] hL1<|.e) [1,2,0,3]
end
def shN (x:List (List Int) × List Int) (k:Int):Prop:=x.1.length≤6∧(x.2.length:Int)≤k∧∀l∈x.1,(l.length:Int)≤k
instance decShN {x:List (List Int) × List Int} {k:Int}:Decidable (shN x k):=inferInstanceAs (Decidable (_∧_∧_))
theorem zjs (C:List (List Int)) (D:List Int) (k:Int) (hC:C.length≤6):∀(n i:Nat),i+n=C.length →
 (∀l∈C.drop i,(l.length:Int)≤k)∧zeq (zaS k C D i) (Ex.exit 0,zgX k C D C.length)∨(¬ ∀l∈C.drop i,(l.length:Int)≤k)∧zeq (zaS k C D i) (Ex.ret,zgW k C D)
 | 0,i,hi=>by
  obtain rfl:i=C.length:=by omega
  exact .inl ⟨by simp,zoQ k C D _ (by omega)⟩
 | n + 1,i,hi=>by
  have hlt:i<C.length:=by omega
  have hg:C.getD (Int.toNat (i:Int)) []=C[i]:=by
   rw [Int.toNat_natCast,List.getD_eq_getElem?_getD,List.getElem?_eq_getElem hlt];rfl
  have hd:C.drop i=C[i] :: C.drop (i+1):=List.drop_eq_getElem_cons hlt
  by_cases h:(C[i].length:Int)≤k
  ·have go:∀r,zeq (zaS k C D ((i:Int)+1)) r→zeq (zaS k C D i) r:=fun r hr=>
   zoP k C D i (by omega) (by omega) (by rw [hg];omega) (by omega) hr
   rcases zjs C D k hC n (i+1) (by omega) with ⟨h1,h2⟩ | ⟨h1,h2⟩
   ·refine .inl ⟨fun l hl=>?_,go _ h2⟩
    rw [hd] at hl
    rcases List.mem_cons.1 hl with rfl | hl
    ·exact h
    ·exact h1 l hl
   ·exact .inr ⟨fun h3=>h1 fun l hl=>h3 l (by rw [hd];exact List.mem_cons_of_mem _ hl),go _ h2⟩
  ·exact .inr ⟨fun h3=>h (h3 _ (by rw [hd];exact List.mem_cons_self)),zoO k C D i (by omega) (by omega) (by rw [hg];omega)⟩
theorem litB {P:Program} {f:FuncId} {a:List AV} {q:Prop} [Decidable q] (ht:q→FC P f a .tt) (hf:¬q→FC P f a .ff):FC P f a (.lit (.bool (decide q))):=by
 by_cases h:q
 ·rw [decide_eq_true h];exact(ht h).res fun E v hv=>by cases hv;exact .lit _
 ·rw [decide_eq_false h];exact(hf h).res fun E v hv=>by cases hv;exact .lit _
theorem bShort_fc (x:List (List Int) × List Int) (k:Int) (_:True):FC tP 73 [numK.val x,lI k] (.lit (.bool (decide (shN x k)))):=by
 obtain ⟨C,D⟩:=x
 refine litB (fun h=>?_) fun h=>?_
 ·obtain ⟨h1,h2,h3⟩:=h
  rcases zjs C D k h1 C.length 0 (by omega) with ⟨_,k2⟩ | ⟨k1,_⟩
  ·exact bsh_3 C D k _ (by simp only at h1;omega) (by simp only at h2;omega) k2
  ·exact absurd h3 k1
 ·by_cases h1:C.length≤6
  ·by_cases h2:(D.length:Int)≤k
   ·rcases zjs C D k h1 C.length 0 (by omega) with ⟨k1,_⟩ | ⟨_,k2⟩
    ·exact absurd ⟨h1,h2,k1⟩ h
    ·exact bsh_2 C D k (by omega) (by omega) k2
   ·exact bsh_1 C D k (by omega) (by omega)
  ·exact bsh_0 C D k (by omega)
def ctrA:Ctr:=(16,cK [] (.lit (.bool true))) :: (73,cD2 numK (.int .i64) (fun _ _=>True) (fun x k=>.lit (.bool (decide (shN x k))))) :: ctrX
theorem znw:∀p∈ctrA,jZ tP p.1 p.2:=CAll.cons (zd2 awake_fc)<|CAll.cons (zb5 bShort_fc) znC
theorem okA:(eZ tP ctrA bw).OK:=JZ znw
noncomputable section
theorem ls_0 (A B:List (List Int)) (h1:(A.length:Int)≠(B.length:Int)):FC tP 84 [.lst (.sl (.int .i64)) A,.lst (.sl (.int .i64)) B] (.ff):=dZ okA 60 [1] (.c (bne_iff_ne.2 h1)<|.e) [1]
abbrev zjL (s:St) (r:Ex × St):Prop:=Loops 0 tP (kZ tP 84 0) s r
abbrev zb0 (a b:List (List Int)) (c:Int):St:=⟨sp 27 [(0,.lst KI a),(1,.lst KI b),(5,aI c)],[],[]⟩
abbrev zjM (a b:List (List Int)):St:=⟨sp 27 [(4,.ff)],[],[]⟩
abbrev zjN (a b:List (List Int)) (c:Int):St:=⟨sp 27 [(0,.lst KI a),(1,.lst KI b),(5,aI c)],[],[]⟩
theorem ls_L0_0_0 (a b:List (List Int)) (d:Int) (h1:d<(a.length:Int)) (h2:0≤d) (h3:d<(b.length:Int)) (h4:pIn (a.getD d.toNat []) (b.getD d.toNat [])) (h5:¬(a.getD d.toNat []=b.getD d.toNat [])):zjL (zb0 a b d) (Ex.ret,(zjM a b)):=LF (LS.at okA 60 [] [4] [] [1,1] (.t h1<|.t h2<|.t h3<|.c h4<|.y h5<|.e) [1,2,1,2,3,4,5])
theorem ls_L0_0_1 (a b:List (List Int)) (d:Int) (h1:d<(a.length:Int)) (h2:0≤d) (h3:d<(b.length:Int)) (h4:pIn (a.getD d.toNat []) (b.getD d.toNat [])) (h5:a.getD d.toNat []=b.getD d.toNat []) (h6:r64 (d+1)):LG zjL (zb0 a b d) (zb0 a b (d+1)):=Loops.go (LS.at okA 60 [] [0,1,5] [] [1,0] (.t h1<|.t h2<|.t h3<|.c h4<|.x h5<|.i h6<|.e) [1,2,1,2,3,4,5,6])
theorem ls_L0_0_2 (a b:List (List Int)) (c:Int) (h1:¬(c<(a.length:Int))):zjL (zb0 a b c) (Ex.exit 0,(zjN a b c)):=LF (LS.at okA 60 [] [0,1,5] [] [0] (.f h1<|.e) [1])
theorem ls_1 (A B:List (List Int)) (h1:(A.length:Int)=(B.length:Int)) (hL1:zjL (zb0 A B (0)) (Ex.ret,(zjM A B))):FC tP 84 [.lst (.sl (.int .i64)) A,.lst (.sl (.int .i64)) B] (.ff):=dZ okA 60 [0] (.c (bne_eq_false_iff_eq.2 h1)<|.v [0,1,5] [] hL1<|.e) [1,0,2]
theorem ls_2 (A B:List (List Int)) (a:Int) (h1:(A.length:Int)=(B.length:Int)) (hL1:zjL (zb0 A B (0)) (Ex.exit 0,(zjN A B a))):FC tP 84 [.lst (.sl (.int .i64)) A,.lst (.sl (.int .i64)) B] (.tt):=dZ okA 60 [0] (.c (bne_eq_false_iff_eq.2 h1)<|.v [0,1,5] [] hL1<|.e) [1,0,2]
end
def pLi (x:List (List Int)):Prop:=(decide (x.length≤1048576)&&x.all fun l=>decide (l.length≤1048576))=true
theorem pLi_iff {x:List (List Int)}:pLi x↔x.length≤1048576∧∀l∈x,l.length≤1048576:=by
 unfold pLi;rw [Bool.and_eq_true,decide_eq_true_eq,List.all_eq_true]
 exact ⟨fun h=>⟨h.1,fun l hl=>of_decide_eq_true (h.2 l hl)⟩,fun h=>⟨h.1,fun l hl=>decide_eq_true (h.2 l hl)⟩⟩
instance tLi2 {x y:List (List Int)}:Tst (pLi x∧pLi y):=⟨(decide (x.length≤1048576)&&x.all fun l=>decide (l.length≤1048576))&&(decide (y.length≤1048576)&&y.all fun l=>decide (l.length≤1048576)),fun h=>by rwa [Bool.and_eq_true] at h⟩
theorem ls_loop (A B:List (List Int)) (hl:A.length=B.length) (hA:pLi A) (hB:pLi B):∀(n i:Nat),i+n=A.length →
 A.drop i=B.drop i∧zjL (zb0 A B i) (Ex.exit 0,zjN A B A.length)∨A.drop i≠B.drop i∧zjL (zb0 A B i) (Ex.ret,zjM A B)
 | 0,i,hi=>by
  obtain rfl:i=A.length:=by omega
  exact .inl ⟨by rw [List.drop_length,hl,List.drop_length],ls_L0_0_2 A B _ (by omega)⟩
 | n + 1,i,hi=>by
  have ha:i<A.length:=by omega
  have hb:i<B.length:=by omega
  have ga:A.getD (Int.toNat (i:Int)) []=A[i]:=by
   rw [Int.toNat_natCast,List.getD_eq_getElem?_getD,List.getElem?_eq_getElem ha];rfl
  have gb:B.getD (Int.toNat (i:Int)) []=B[i]:=by
   rw [Int.toNat_natCast,List.getD_eq_getElem?_getD,List.getElem?_eq_getElem hb];rfl
  have da:A.drop i=A[i] :: A.drop (i+1):=List.drop_eq_getElem_cons ha
  have db:B.drop i=B[i] :: B.drop (i+1):=List.drop_eq_getElem_cons hb
  have hp:pIn A[i] B[i]:=⟨(pLi_iff.1 hA).2 _ (List.getElem_mem ha),(pLi_iff.1 hB).2 _ (List.getElem_mem hb)⟩
  have l1:=(pLi_iff.1 hA).1
  by_cases h:A[i]=B[i]
  ·have go:∀r,zjL (zb0 A B ((i:Int)+1)) r→zjL (zb0 A B i) r:=fun r hr=>
   ls_L0_0_1 A B i (by omega) (by omega) (by omega) (by rw [ga,gb];exact hp) (by rw [ga,gb];exact h) (by omega) hr
   rcases ls_loop A B hl hA hB n (i+1) (by omega) with ⟨h1,h2⟩ | ⟨h1,h2⟩
   ·exact .inl ⟨by rw [da,db,h,h1],go _ h2⟩
   ·exact .inr ⟨fun h3=>h1 (by rw [da,db] at h3;exact(List.cons.inj h3).2),go _ h2⟩
  ·exact .inr ⟨fun h3=>h (by rw [da,db] at h3;exact(List.cons.inj h3).1),ls_L0_0_0 A B i (by omega) (by omega) (by omega) (by rw [ga,gb];exact hp) (by rw [ga,gb];exact h)⟩
theorem lists_fc (A B:List (List Int)) (h:pLi A∧pLi B):FC tP 84 [.lst (.sl (.int .i64)) A,.lst (.sl (.int .i64)) B] (.lit (.bool (decide (A=B)))):=by
 by_cases hl:A.length=B.length
 ·rcases ls_loop A B hl h.1 h.2 A.length 0 (by omega) with ⟨h1,h2⟩ | ⟨h1,h2⟩
  ·exact litB (fun _=>ls_2 A B _ (by omega) h2) fun h3=>absurd h1 h3
  ·exact litB (fun h3=>absurd h3 h1) fun _=>ls_1 A B (by omega) h2
 ·exact litB (fun h3=>absurd (congrArg _ h3) hl) fun _=>ls_0 A B (by omega)
def ctrB:Ctr:=(84,cD2 (.sl (.sl (.int .i64))) (.sl (.sl (.int .i64))) (fun A B=>pLi A∧pLi B) (fun A B=>.lit (.bool (decide (A=B))))) :: ctrA
theorem znx:∀p∈ctrB,jZ tP p.1 p.2:=CAll.cons (zb5 lists_fc) znw
theorem okB:(eZ tP ctrB bw).OK:=JZ znx
noncomputable section
theorem sn_0 (x y:List (List Int) × List Int) (h1:pLi x.fst∧pLi y.fst) (h2:x.fst=y.fst) (h3:pIn x.snd y.snd):FC tP 19 [numK.val x,numK.val y] (.lit (.bool (decide (x.snd=y.snd)))):=dZ okB 60 [1] (.c h1<|.t h2<|.c h3<|.e) [1,2,3]
theorem sn_1 (x y:List (List Int) × List Int) (h1:pLi x.fst∧pLi y.fst) (h2:¬(x.fst=y.fst)):FC tP 19 [numK.val x,numK.val y] (.ff):=dZ okB 60 [0] (.c h1<|.f h2<|.e) [1,2]
end
def pNl (x:List (List Int) × List Int):Prop:=pLi x.1∧x.2.length≤1048576
instance tNl {x:List (List Int) × List Int}:Tst (pNl x):=⟨(decide (x.1.length≤1048576)&&x.1.all fun l=>decide (l.length≤1048576))&&decide (x.2.length≤1048576),fun h=>by
 rw [Bool.and_eq_true,decide_eq_true_eq] at h;exact h⟩
theorem zri (x y:List (List Int) × List Int) (h:pNl x∧pNl y):FC tP 19 [numK.val x,numK.val y] (.lit (.bool (decide (x=y)))):=by
 obtain ⟨⟨h1,h2⟩,h3,h4⟩:=h
 by_cases e:x.1=y.1
 ·have:=sn_0 x y ⟨h1,h3⟩ e ⟨h2,h4⟩
  rwa [show decide (x=y)=decide (x.2=y.2) from decide_eq_decide.2 ⟨fun h=>by rw [h],fun h=>Prod.ext e h⟩]
 ·exact litB (fun h=>absurd (congrArg Prod.fst h) e) fun _=>sn_1 x y ⟨h1,h3⟩ e
abbrev zad:=List (List Int) × List Int
abbrev vecK:EK:=.pr numK numK
abbrev matK:EK:=.pr numK (.pr numK (.pr numK numK))
def ctrD:Ctr:=(19,cD2 numK numK (fun x y=>pNl x∧pNl y) (fun A B=>.lit (.bool (decide (A=B))))) :: ctrB
theorem zny:∀p∈ctrD,jZ tP p.1 p.2:=CAll.cons (zb5 zri) znx
theorem okD:(eZ tP ctrD bw).OK:=JZ zny
open Go.Kf
abbrev NT:=numK.ty
def adN (p:List Int) (x y:NT):NT:=gvN (plN (tkN p x) (tkN p y))
def suN (p:List Int) (x y:NT):NT:=gvN (plN (tkN p x) (ngN (tkN p y)))
def muN (p:List Int) (x y:NT):NT:=gvN (tmN p (tkN p x) (tkN p y))
def Gd (p:List Int) (x:NT):Prop:=pTk p x.1 x.2∧Bd 800 (tkN p x)
def pOp (p:List Int) (x y:NT):Prop:=Gd p x∧Gd p y
theorem HZ {p:List Int} {x:NT} (h:Gd p x):Nrm (qO p) (tkN p x):=(tk_ok (A:=20000) h.1 (by decide) (fun l hl=>(h.1.2.2.1 l hl).2) h.1.2.2.2.2).1
theorem znh {u v:NZ} (bu:Bd 9000 u) (bv:Bd 9000 v) (pu:0<u.2) (pv:0<v.2):pPlN u v:=
 ⟨⟨by omega,bu.2 0,bu.2 1,bu.2 2,bu.2 3,bu.1⟩,⟨by omega,bv.2 0,bv.2 1,bv.2 2,bv.2 3,bv.1⟩,pu,pv⟩
theorem zkE {m:Nat} {u:NZ} (bu:Bd m u) (hm:m≤1048576):pGvN u:=⟨rZ (bu.2 0) hm,rZ (bu.2 1) hm,rZ (bu.2 2) hm,rZ (bu.2 3) hm,rZ bu.1 hm⟩
theorem ad_fc {p:List Int} {x y:NT} (h:pOp p x y):FC tP 22 [reA (.lst .whole p),numK.val x,numK.val y] (numK.val (adN p x y)):=by
 have n1:=HZ h.1
 have n2:=HZ h.2
 exact RAdd_fc p x y h.1.1 h.2.1 (znh (h.1.2.mono (by decide)) (h.2.2.mono (by decide)) n1.pos n2.pos) (zkE (zmY h.1.2 h.2.2 n1.pos n2.pos) (by decide))
theorem su_fc {p:List Int} {x y:NT} (h:pOp p x y):FC tP 24 [reA (.lst .whole p),numK.val x,numK.val y] (numK.val (suN p x y)):=by
 have n1:=HZ h.1
 have n2:=(ng_ok (ziH h.1.1.1) (HZ h.2)).1
 have b2:=ng_bd h.2.2
 exact RSub_fc p x y h.1.1 h.2.1 (znh (h.1.2.mono (by decide)) (b2.mono (by decide)) n1.pos n2.pos) (zkE (zmY h.1.2 b2 n1.pos n2.pos) (by decide))
theorem mu_fc {p:List Int} {x y:NT} (h:pOp p x y):FC tP 26 [reA (.lst .whole p),numK.val x,numK.val y] (numK.val (muN p x y)):=by
 have n1:=HZ h.1
 have n2:=HZ h.2
 exact RMul_fc p x y h.1.1 h.2.1 h.1.1.1 (znh (h.1.2.mono (by decide)) (h.2.2.mono (by decide)) n1.pos n2.pos) (zkE (zl4 h.1.1.1 n1 n2 h.1.2 h.2.2).2.2 (by decide))
noncomputable section
end
def pDt (p:List Int) (a b c d:NT):Prop:=pOp p a b∧pOp p c d∧pOp p (muN p a b) (muN p c d)
end Go.Proofs.YtagbldogmjhdpaaGreatDoor
end
section
open Go Go.Ev Go.RowKit
namespace Go.Proofs.YtagbldogmjhdpaaGreatDoor
open Go.Proofs
set_option maxRecDepth 100000
set_option maxHeartbeats 1000000
set_option linter.unusedVariables false
set_option linter.unusedSimpArgs false
noncomputable section
end
open Go.Kf
theorem zoD {q c:List Int} (h:zmg q c):(WZ c).length≤q.length:=by
 rcases zcg c with h0 | h0
 ·rw [h0];exact Nat.zero_le _
 ·apply Nat.le_of_not_lt
  intro hlt
  apply h0
  rw [List.getLastD_eq_getLast?,List.getLast?_eq_getElem?]
  have:=zam c ((WZ c).length-1)
  rw [h _ (by omega),List.getD_eq_getElem?_getD] at this
  exact this
theorem zi7 {m:Nat} {z:Int} (h:Sz m z) (hm:m≤20000):za2 (aZ z):=by
 refine ⟨?_,fun d hd=>?_⟩
 ·rw [gZ]
  have:dl z≤m:=zab _ _ h
  omega
 ·have:=zc2 z d hd
  unfold cZ
  omega
def Nb (p:List Int) (m:Nat) (x:NT):Prop:=pTk p x.1 x.2∧Bd m (tkN p x)
theorem Nb.gd {p:List Int} {m:Nat} {x:NT} (h:Nb p m x) (hm:m≤800):Gd p x:=⟨h.1,h.2.mono hm⟩
theorem gv_nb {p:List Int} (h:za7 p) {u:NZ} (hu:Nrm (qO p) u) {m:Nat} (hb:Bd m u) (hm:m≤20000):Nb p m (gvN u):=by
 refine ⟨⟨h,?_,?_,zi7 hb.1 hm,?_⟩,?_⟩
 ·show((WZ u.1).map aZ).length≤100
  rw [List.length_map]
  have:=zoD hu.sh
  have:=ziH h
  omega
 ·intro l hl
  obtain ⟨z,hz,rfl⟩:=List.mem_map.1 hl
  obtain ⟨i,hi,rfl⟩:=List.getElem_of_mem hz
  have e:=zam u.1 i
  rw [List.getD_eq_getElem?_getD,List.getElem?_eq_getElem hi,Option.getD_some] at e
  have s:Sz m (WZ u.1)[i]:=by rw [e];exact hb.2 i
  exact ⟨zi7 s hm,by rw [bZ];exact s.mono hm⟩
 ·show Sz 20000 (vl (aZ u.2))
  rw [bZ];exact hb.1.mono hm
 ·rw [tk_gv h hu];exact hb
section
variable {p:List Int} [hq:Fact' (1≤(qO p).length)]
abbrev FR (p:List Int):Type:=F (qO p).length (pV (qO p))
def fv (p:List Int) [hq:Fact' (1≤(qO p).length)] (x:NT):FR p:=⟨nv (qO p) (tkN p x),zks hq.ok _ _⟩
def Op (m:Nat) (x:NT) (f:FR p):Prop:=Nb p m x∧fv p x=f
theorem op_gv (h:za7 p) {u:NZ} (hu:Nrm (qO p) u) {m:Nat} (hb:Bd m u) (hm:m≤20000) {f:FR p} (hf:nv (qO p) u=f.1):Op m (gvN u) f:=
 ⟨gv_nb h hu hb hm,Subtype.ext (by show nv (qO p) (tkN p (gvN u))=f.1;rw [tk_gv h hu];exact hf)⟩
theorem ad_op {m k:Nat} {x y:NT} {f g:FR p} (hx:Op m x f) (hy:Op k y g) (hm:m≤800) (hk:k≤800):Op (m+k+1) (adN p x y) (CR.add f g):=by
 have h:=hx.1.1.1
 have n1:=HZ (hx.1.gd hm)
 have n2:=HZ (hy.1.gd hk)
 have ⟨n3,v3⟩:=zpC (ziH h) n1 n2
 exact op_gv h n3 (zmY hx.1.2 hy.1.2 n1.pos n2.pos) (by omega) (by rw [v3,← hx.2,← hy.2];rfl)
theorem su_op {m k:Nat} {x y:NT} {f g:FR p} (hx:Op m x f) (hy:Op k y g) (hm:m≤800) (hk:k≤800):Op (m+k+1) (suN p x y) (CR.add f (CR.neg g)):=by
 have h:=hx.1.1.1
 have n1:=HZ (hx.1.gd hm)
 have ⟨n2,v2⟩:=ng_ok (ziH h) (HZ (hy.1.gd hk))
 have ⟨n3,v3⟩:=zpC (ziH h) n1 n2
 exact op_gv h n3 (zmY hx.1.2 (ng_bd hy.1.2) n1.pos n2.pos) (by omega) (by rw [v3,v2,← hx.2,← hy.2];rfl)
theorem mu_op {m k:Nat} {x y:NT} {f g:FR p} (hx:Op m x f) (hy:Op k y g) (hm:m≤800) (hk:k≤800):Op (m+k+10) (muN p x y) (CR.mul f g):=by
 have h:=hx.1.1.1
 have ⟨n3,v3,b3⟩:=zl4 h (HZ (hx.1.gd hm)) (HZ (hy.1.gd hk)) hx.1.2 hy.1.2
 exact op_gv h n3 b3 (by omega) (by rw [v3,← hx.2,← hy.2];rfl)
omit hq in
theorem Op.of {m:Nat} {x:NT} [hq:Fact' (1≤(qO p).length)] (h:Nb p m x):Op m x (fv p x):=⟨h,rfl⟩
omit hq in
omit hq in
omit hq in
end
noncomputable section
end
open Go.Kf
open Go.Kf.V (e0)
structure Vz (p:List Int) (m:Nat) (s:N5) (f:V):Prop where
 nr:Nrm (qO p) (ofN s)
 va:nv (qO p) (ofN s)=f
 bd:Bd m (ofN s)
theorem znW {q:List Int} {u:NZ} (h:Nrm q u):ofN (toN u)=u:=by
 have:=congrArg Prod.fst h.low
 simp only [zb8] at this
 show([u.1.getD 0 0,u.1.getD 1 0,u.1.getD 2 0,u.1.getD 3 0],u.2)=u
 refine Prod.ext ?_ rfl
 show [u.1.getD 0 0,u.1.getD 1 0,u.1.getD 2 0,u.1.getD 3 0]=u.1
 rw [← this];rfl
section
variable {p:List Int} (hP:za7 p)
include hP
omit hP in
theorem vz_to {m:Nat} {u:NZ} {f:V} (h:Nrm (qO p) u) (hv:nv (qO p) u=f) (hb:Bd m u):Vz p m (toN u) f:=by
 have e:=znW h
 exact ⟨by rw [e];exact h,by rw [e];exact hv,by rw [e];exact hb⟩
theorem znd {m k:Nat} {s t:N5} {f g:V} (hs:Vz p m s f) (ht:Vz p k t g):Vz p (m+k+10) (tmT p s t) (Go.Kf.mul (qO p).length (pV (qO p)) f g):=by
 have ⟨n3,v3,b3⟩:=zl4 hP hs.nr ht.nr hs.bd ht.bd
 exact vz_to n3 (by rw [v3,hs.va,ht.va]) b3
theorem vz_pl {m k:Nat} {s t:N5} {f g:V} (hs:Vz p m s f) (ht:Vz p k t g):Vz p (m+k+1) (plT s t) (V.add f g):=by
 have ⟨n3,v3⟩:=zpC (ziH hP) hs.nr ht.nr
 exact vz_to n3 (by rw [v3,hs.va,ht.va]) (zmY hs.bd ht.bd hs.nr.pos ht.nr.pos)
theorem rdp1 (a:Int):wZ p (p.length-1) [a]=[a]:=by
 have:=hP.1
 unfold wZ
 have hl:([a]:List Int).length=1:=rfl
 rw [show([a]:List Int).length-(p.length-1)=0 by omega]
 exact List.take_of_length_le (show([a]:List Int).length≤_ by omega)
theorem val_cst (a b:Int):val (qO p) [a] b=V.sm ((a:Rat) / (b:Rat)) e0:=by
 unfold val
 rw [zdw (by rw [zbA];have:=qO_1 hP;simpa using this)]
 funext i
 show(b:Rat)⁻¹*[(a:Rat)].getD i 0=(a:Rat) / (b:Rat)*(if i=0 then 1 else 0)
 cases i with
 | zero=>simp [Rat.div_def,Rat.mul_comm]
 | succ i=>simp
theorem vz_fr {m:Nat} {a b:Int} (hb:b≠0) (sa:Sz m a) (sb:Sz m b):Vz p m (frT p a b) (V.sm ((a:Rat) / (b:Rat)) e0):=by
 have hsh:zmg (qO p) [a]:=zm6 (by have:=qO_1 hP;simpa using this)
 unfold frT
 rw [rdp1 hP]
 refine vz_to (zee (ziH hP) hb hsh) ?_ (zlk hb sb fun i=>?_)
 ·rw [zef (ziH hP) hb hsh,val_cst hP]
 ·match i with
  | 0=>exact sa
  | i+1=>exact Sz.zero
omit hP in
theorem Vz.mono {m k:Nat} {s:N5} {f:V} (h:Vz p m s f) (hk:m≤k):Vz p k s f:=⟨h.nr,h.va,h.bd.mono hk⟩
omit hP in
theorem Vz.eq {m:Nat} {s:N5} {f g:V} (h:Vz p m s f) (e:f=g):Vz p m s g:=e▸h
omit hP in
theorem Vz.p5 {m k:Nat} {s t:N5} {f g:V} (hs:Vz p m s f) (ht:Vz p k t g) (hm:m≤9000) (hk:k≤9000):pP5 s t:=znh (hs.bd.mono hm) (ht.bd.mono hk) hs.nr.pos ht.nr.pos
omit hP in
end
theorem trc_mx {p:List Int} (hP:za7 p) (y:V):trc (qO p).length (mx (qO p).length (pV (qO p)) y)=sN (qO p).length fun j=>y j*(((trZ p).getD j 0:Int):Rat):=by
 obtain ⟨h2,h5,_⟩:=hP
 match p,h2,h5 with
 | [p0,p1],_,_=>simp [mx,Tn,T,trc,sN,pV,trZ,trL,trI,qO]
 | [p0,p1,p2],_,_=>simp [mx,Tn,T,trc,sN,pV,trZ,trL,trI,qO,Rat.intCast_neg,Rat.intCast_mul,Rat.intCast_add];grind
 | [p0,p1,p2,p3],_,_=>simp [mx,Tn,T,trc,sN,pV,trZ,trL,trI,qO,Rat.intCast_neg,Rat.intCast_mul,Rat.intCast_add];grind
 | [p0,p1,p2,p3,p4],_,_=>simp [mx,Tn,T,trc,sN,pV,trZ,trL,trI,qO,Rat.intCast_neg,Rat.intCast_mul,Rat.intCast_add];grind
theorem trZ_sz {p:List Int} (hP:za7 p) (i:Nat):Sz 19 ((trZ p).getD i 0):=by
 have hp:=zmX hP
 have h5:=hP.2.1
 have go : ∀j,j≤3→∀i,Sz (1+6*j) ((trL p (p.length-1) j).getD i 0):=by
  intro j
  induction j with
  | zero=>
   intro _ i
   unfold trL
   cases i with
   | zero=>exact Sz.lit (z:=((p.length-1:Nat):Int)) (by omega) (by decide)
   | succ i=>exact Sz.zero
  | succ j ih=>
   intro hj i
   have ih:=ih (by omega)
   have hl:=zfU p (p.length-1) j
   unfold trL
   rw [List.getD_eq_getElem?_getD]
   by_cases h:i<j+1
   ·rw [List.getElem?_append_left (by omega),← List.getD_eq_getElem?_getD];exact(ih i).mono (by omega)
   ·rw [List.getElem?_append_right (by omega),hl]
    by_cases h2:i=j+1
    ·subst h2
     simp only [Nat.sub_self,List.getElem?_cons_zero,Option.getD_some]
     exact(zoA hp ih (by omega) j).neg.mono (by omega)
    ·rw [List.getElem?_eq_none (by simp;omega)];exact Sz.zero
 exact(go (p.length-2) (by omega) i).mono (by omega)
theorem znb {p:List Int} (hP:za7 p):(trZ p).length=p.length-1:=by
 have:=hP.1
 unfold trZ;rw [zfU];omega
theorem nv_get {p:List Int} {x:N5} (h:Nrm (qO p) (ofN x)) (i:Nat):nv (qO p) (ofN x) i=(([x.1,x.2.1,x.2.2.1,x.2.2.2.1].getD i 0:Int):Rat)*((x.2.2.2.2:Int):Rat)⁻¹:=by
 show((x.2.2.2.2:Int):Rat)⁻¹*ev (qO p).length (pV (qO p)) (qL [x.1,x.2.1,x.2.2.1,x.2.2.2.1]) i=_
 have e:=congrFun (znH (n:=(qO p).length) (p:=pV (qO p)) (l:=qL [x.1,x.2.1,x.2.2.1,x.2.2.2.1]) fun i hi=>by rw [zbz,show([x.1,x.2.1,x.2.2.1,x.2.2.2.1].getD i 0:Int)=0 from h.sh i hi];rfl) i
 rw [e]
 show _*(qL _).getD i 0=_
 rw [zbz,Rat.mul_comm]
theorem trS_val {p:List Int} (hP:za7 p) {x:N5} (h:Nrm (qO p) (ofN x)):((trS (trZ p) x:Int):Rat) / ((x.2.2.2.2:Int):Rat)=trc (qO p).length (mx (qO p).length (pV (qO p)) (nv (qO p) (ofN x))):=by
 rw [trc_mx hP,zcF _ fun j _=>by rw [nv_get h]]
 have hl:=znb hP
 have hq:=zdT hP
 obtain ⟨h2,h5,_⟩:=hP
 rw [hq,← hl]
 generalize trZ p=t at *
 generalize hd:((x.2.2.2.2:Int):Rat)=D
 rw [Rat.div_def]
 match t,(show 1≤t.length by omega),(show t.length≤4 by omega) with
 | [t0],_,_=>simp [trS,sN,Rat.intCast_mul];grind
 | [t0,t1],_,_=>simp [trS,sN,Rat.intCast_mul,Rat.intCast_add];grind
 | [t0,t1,t2],_,_=>simp [trS,sN,Rat.intCast_mul,Rat.intCast_add];grind
 | [t0,t1,t2,t3],_,_=>simp [trS,sN,Rat.intCast_mul,Rat.intCast_add];grind
theorem trS_sz {m:Nat} {t:List Int} {x:N5} (hx:Bd m (ofN x)) (ht:∀i,Sz 19 (t.getD i 0)):Sz (m+23) (trS t x):=by
 have M:∀i,Sz (m+19) ((ofN x).1.getD i 0*t.getD i 0):=fun i=>(hx.2 i).mul (ht i)
 have A:∀ {r:Nat} {x y:Int},Sz (m+19+r) x→Sz (m+19) y→Sz (m+19+(r+1)) (x+y):=fun hx hy=>hx.add hy (by omega) (by omega)
 have Z:Sz (m+19+0) 0:=Sz.zero
 unfold trS
 split
 ·exact(A Z (M 0)).mono (by omega)
 ·exact(A (A Z (M 0)) (M 1)).mono (by omega)
 ·exact(A (A (A Z (M 0)) (M 1)) (M 2)).mono (by omega)
 ·exact(A (A (A (A Z (M 0)) (M 1)) (M 2)) (M 3)).mono (by omega)
 ·exact Sz.zero
theorem vz_tr {p:List Int} (hP:za7 p) {m:Nat} {s:N5} {f:V} (hs:Vz p m s f):Vz p (m+23) (trT p (trZ p) s) (V.sm (trc (qO p).length (mx (qO p).length (pV (qO p)) f)) e0):=by
 have hp:=hs.nr.pos
 refine (vz_fr hP (show s.2.2.2.2≠0 from Int.ne_of_gt hp) (trS_sz hs.bd (trZ_sz hP)) (hs.bd.1.mono (by omega))).eq ?_
 rw [trS_val hP hs.nr,hs.va]
noncomputable section
end
open Go.Kf
open Go.Kf.V (e0)
abbrev dN:N5:=(0,0,0,0,0)
def pwT (p:List Int) (x:N5):Nat→N5
 | 0=>frT p 1 1
 | k+1=>tmT p (pwT p x k) x
def trK (p t:List Int) (x:N5) (k:Nat):N5:=trT p t (pwT p x k)
def inT (p t:List Int) (x:N5) (cs:List N5) (k:Nat):Nat→N5
 | 0=>trK p t x (k+1)
 | i+1=>plT (inT p t x cs k i) (tmT p (cs.getD i dN) (trK p t x (k-i)))
def csT (p t:List Int) (x:N5):Nat→List N5
 | 0=>[]
 | k+1=>csT p t x k++[tmT p (inT p t x (csT p t x k) k k) (frT p (-1) (k+1:Nat))]
def roT (p:List Int) (x:N5) (c:List N5):Nat→N5
 | 0=>frT p 1 1
 | k+1=>plT (tmT p (roT p x c k) x) (c.getD k dN)
theorem sm_e0 {n:Nat} {p:V} (h1:1≤n) (a b:Rat):Go.Kf.mul n p (V.sm a e0) (V.sm b e0)=V.sm (a*b) e0:=by
 rw [zkp h1 a (zcQ h1) (zdm (zcQ h1)),ziX h1 (zdm (zcQ h1)),zb3]
def cB (D:Nat):Nat→Nat
 | 0=>35+D
 | 1=>105+4*D
 | 2=>245+11*D
 | _=>525+26*D
def sB (D k:Nat):Nat→Nat
 | 0=>24+(k+1)*D
 | i+1=>sB D k i+(cB D i+(24+(k-i)*D)+10)+1
theorem sB_le {D k:Nat} (hk:k≤3):sB D k k+1+10≤cB D k:=by
 obtain rfl | rfl | rfl | rfl:k=0∨k=1∨k=2∨k=3:=by omega
 all_goals (simp only [sB,cB];omega)
section
variable {p:List Int} (hP:za7 p) {m:Nat} {x:N5} {f:V} (hx:Vz p m x f)
include hP hx
theorem zn7:∀k,Vz p (1+k*(m+10)) (pwT p x k) (xp (qO p).length (pV (qO p)) f k)
 | 0=>((vz_fr hP (a:=1) (b:=1) (m:=1) (by decide) (Sz.lit (by decide) (by decide)) (Sz.lit (by decide) (by decide))).mono (by omega)).eq (by
  rw [Rat.div_def,Rat.mul_inv_cancel _ (za8 (d:=1) (by decide))];exact zf8 _)
 | k+1=>(znd hP (zn7 k) hx).mono (by rw [Nat.add_mul];omega)
theorem zoB (k:Nat):Vz p (24+k*(m+10)) (trK p (trZ p) x k) (V.sm (txp (qO p).length (pV (qO p)) f k) e0):=(vz_tr hP (zn7 hP hx k)).mono (by omega)
theorem inT_vz {cs:List N5} {c:List Rat} {k:Nat} (hc:∀i,i<k→Vz p (cB (m+10) i) (cs.getD i dN) (V.sm (c.getD i 0) e0)):∀i,i≤k→Vz p (sB (m+10) k i) (inT p (trZ p) x cs k i) (V.sm (nwS (txp (qO p).length (pV (qO p)) f) c k i) e0)
 | 0,_=>zoB hP hx (k+1)
 | i+1,hi=>by
  refine (vz_pl hP (inT_vz hc i (by omega)) (znd hP (hc i (by omega)) (zoB hP hx (k-i)))).eq ?_
  rw [sm_e0 (qO_1 hP),← zgS];rfl
theorem ziU:∀k,k≤4→(csT p (trZ p) x k).length=k∧(nwC (txp (qO p).length (pV (qO p)) f) k).length=k∧∀i,i<k→Vz p (cB (m+10) i) ((csT p (trZ p) x k).getD i dN) (V.sm ((nwC (txp (qO p).length (pV (qO p)) f) k).getD i 0) e0)
 | 0,_=>⟨rfl,rfl,fun i hi=>by omega⟩
 | k + 1,hk=>by
  obtain ⟨l1,l2,h⟩:=ziU k (by omega)
  unfold csT nwC
  refine ⟨by rw [List.length_append,l1];rfl,by rw [List.length_append,l2];rfl,fun i hi=>?_⟩
  rw [List.getD_eq_getElem?_getD,List.getD_eq_getElem?_getD]
  by_cases h1:i<k
  ·rw [List.getElem?_append_left (by omega),List.getElem?_append_left (by omega),← List.getD_eq_getElem?_getD,← List.getD_eq_getElem?_getD]
   exact h i h1
  ·obtain rfl:i=k:=by omega
   rw [List.getElem?_append_right (by omega),List.getElem?_append_right (by omega),l1,l2,Nat.sub_self]
   refine ((znd hP (inT_vz hP hx h i (Nat.le_refl _)) (vz_fr hP (a:=-1) (b:=(i+1:Nat)) (m:=1) (by omega) (Sz.lit (by decide) (by decide)) (Sz.lit (by omega) (by decide)))).mono (sB_le (by omega))).eq ?_
   rw [sm_e0 (qO_1 hP)];rfl
theorem roT_vz {cs:List N5} {c:List Rat} {N:Nat} (hN:N≤3) (hc:∀i,i<N→Vz p (cB (m+10) i) (cs.getD i dN) (V.sm (c.getD i 0) e0)):∀k,k≤N→Vz p (1+k*(257+12*(m+10))) (roT p x cs k) (rsV (qO p).length (pV (qO p)) f c k)
 | 0,_=>(zn7 hP hx 0).mono (by omega)
 | k + 1,hk=>(vz_pl hP (znd hP (roT_vz hN hc k (by omega)) hx) (hc k (by omega))).mono (by
  have hb:cB (m+10) k≤245+11*(m+10):=by
   obtain rfl | rfl | rfl:k=0∨k=1∨k=2:=by omega
   all_goals (simp only [cB];omega)
  rw [Nat.add_mul];omega)
end
def V9 (p:List Int) (s:N5):Prop:=∃f,Vz p 9000 s f
theorem V9.of {p:List Int} {m:Nat} {s:N5} {f:V} (h:Vz p m s f) (hm:m≤9000):V9 p s:=⟨f,h.mono hm⟩
theorem V9.p5 {p:List Int} {s t:N5} (hs:V9 p s) (ht:V9 p t):pP5 s t:=by
 obtain ⟨_,hs⟩:=hs
 obtain ⟨_,ht⟩:=ht
 exact hs.p5 ht (Nat.le_refl _) (Nat.le_refl _)
theorem V9.n5 {p:List Int} {s:N5} (hs:V9 p s):pN5 s:=(hs.p5 hs).1
theorem cB_le {D i:Nat} (hD:D≤110):cB D i≤3385:=by
 unfold cB
 split<;>omega
theorem sB_9 {D k i:Nat} (hD:D≤110) (hk:k≤3) (hi:i≤k):sB D k i≤5000:=by
 have h:k=0∨k=1∨k=2∨k=3:=by omega
 have h2:i=0∨i=1∨i=2∨i=3:=by omega
 rcases h with rfl | rfl | rfl | rfl<;>rcases h2 with rfl | rfl | rfl | rfl<;>first | omega | (simp only [sB,cB];omega)
structure Run9 (p:List Int) (n:Nat) (x:N5):Prop where
 x9:V9 p x
 fr:∀k,Nat.ble k 3=true→V9 p (frT p (-1) (k+1:Nat))
 pw:∀k,Nat.ble k 4=true→V9 p (pwT p x k)
 tr:∀k,Nat.ble k 4=true→V9 p (trK p (trZ p) x k)
 su:∀k i,Nat.ble k 3=true→Nat.ble i k=true→V9 p (inT p (trZ p) x (csT p (trZ p) x k) k i)
 pr:∀k i,Nat.ble k 3=true→Nat.blt i k=true→V9 p (tmT p ((csT p (trZ p) x k).getD i dN) (trK p (trZ p) x (k-i)))
 co:∀i,Nat.blt i n=true→V9 p ((csT p (trZ p) x n).getD i dN)
 rs:∀k,Nat.blt k n=true→V9 p (roT p x (csT p (trZ p) x n) k)
 rx:∀k,Nat.blt k n=true→V9 p (tmT p (roT p x (csT p (trZ p) x n) k) x)
theorem V9.to {p:List Int} {s u:N5} (e:u=s) (h:V9 p s):V9 p u:=e▸h
theorem run9 {p:List Int} (hP:za7 p) {m:Nat} {x:N5} {f:V} (hx:Vz p m x f) (hm:m≤100) {n:Nat} (hn:n≤4):Run9 p n x:=by
 have hk:∀ {k:Nat},k≤4→k*(m+10)≤440:=fun hk=>Nat.le_trans (Nat.mul_le_mul hk (by omega:m+10≤110)) (by decide)
 have rs:∀k,k<n→Vz p (1+k*(257+12*(m+10))) (roT p x (csT p (trZ p) x n) k) (rsV (qO p).length (pV (qO p)) f (nwC (txp (qO p).length (pV (qO p)) f) n) k):=fun k hk=>
  roT_vz hP hx (N:=n-1) (by omega) (fun i hi=>(ziU hP hx n hn).2.2 i (by omega)) k (by omega)
 have rb:∀k,k<n→1+k*(257+12*(m+10))≤4732:=fun k hk=>by
  have:k*(257+12*(m+10))≤3*1577:=Nat.mul_le_mul (by omega) (by omega)
  omega
 exact {
  x9:=.of hx (by omega)
  fr:=fun k hk=>have hk:=Nat.le_of_ble_eq_true hk; .of (vz_fr hP (a:=-1) (b:=(k+1:Nat)) (m:=1) (by omega) (Sz.lit (by decide) (by decide)) (Sz.lit (by omega) (by decide))) (by decide)
  pw:=fun k h=>.of (zn7 hP hx k) (by have:=hk (Nat.le_of_ble_eq_true h);omega)
  tr:=fun k h=>.of (zoB hP hx k) (by have:=hk (Nat.le_of_ble_eq_true h);omega)
  su:=fun k i h hi=>have h:=Nat.le_of_ble_eq_true h;have hi:=Nat.le_of_ble_eq_true hi; .of (inT_vz hP hx (ziU hP hx k (by omega)).2.2 i hi) (by have:=sB_9 (D:=m+10) (by omega) h hi;omega)
  pr:=fun k i h hi=>have h:=Nat.le_of_ble_eq_true h;have hi:i<k:=Nat.le_of_ble_eq_true hi; .of (znd hP ((ziU hP hx k (by omega)).2.2 i hi) (zoB hP hx (k-i))) (by have:=cB_le (D:=m+10) (i:=i) (by omega);have:=hk (k:=k-i) (by omega);omega)
  co:=fun i hi=>have hi:i<n:=Nat.le_of_ble_eq_true hi; .of ((ziU hP hx n hn).2.2 i hi) (by have:=cB_le (D:=m+10) (i:=i) (by omega);omega)
  rs:=fun k h=>have h:k<n:=Nat.le_of_ble_eq_true h; .of (rs k h) (by have:=rb k h;omega)
  rx:=fun k h=>have h:k<n:=Nat.le_of_ble_eq_true h; .of (znd hP (rs k h) hx) (by have:=rb k h;omega) }
end Go.Proofs.YtagbldogmjhdpaaGreatDoor
end
