/- Part of a proof about a given program: see the last module of the claim. -/
import Derived.Test.YtloaeinogiplbaaGreatDoorE
import Derived.Test.YtloaeinogiplbaaGreatDoorC
import Derived.Test.YtloaeinogiplbaaGreatDoorD
section
namespace Go.Kf
set_option linter.unusedVariables false
set_option linter.unusedSimpArgs false
open V
def qL (c:List Int):List Rat:=c.map fun z:Int=>(z:Rat)
def pV (p:List Int):V:=fun i=>((p.getD i 0:Int):Rat)
theorem qL_cons (x:Int) (l:List Int):qL (x :: l)=(x:Rat) :: qL l:=rfl
theorem zmp (l:List Int):(qL l).length=l.length:=by simp [qL]
theorem ziF (l:List Int) (i:Nat):(qL l).getD i 0=((l.getD i 0:Int):Rat):=by
 simp only [qL,List.getD_eq_getElem?_getD,List.getElem?_map]
 cases l[i]? <;> simp
section
variable {n:Nat} {p:V}
theorem zof {l:List Rat} (h:l.length≤n):ev n p l=fun i=>l.getD i 0:=by
 unfold ev
 rw [e0_ei,zny l 0 (by omega)]
 funext i
 rw [znC,if_pos (Nat.zero_le _)];rfl
def Tn (n:Nat) (p:V):Nat→V→V
 | 0,x=>x
 | k+1,x=>T n p (Tn n p k x)
theorem Tn_sm (k:Nat) (r:Rat) (x:V):Tn n p k (sm r x)=sm r (Tn n p k x):=by
 induction k with
 | zero=>rfl
 | succ k ih=>show T n p (Tn n p k (sm r x))=_;rw [ih,T_sm];rfl
theorem Tn_Tn (j k:Nat) (x:V):Tn n p j (Tn n p k x)=Tn n p (j+k) x:=by
 induction j with
 | zero=>rw [Nat.zero_add];rfl
 | succ j ih=>show T n p (Tn n p j (Tn n p k x))=_;rw [ih,Nat.succ_add];rfl
theorem Tn_ei:∀(k:Nat),k<n→Tn n p k e0=ei k
 | 0,_=>rfl
 | k+1,h=>by show T n p (Tn n p k e0)=_;rw [Tn_ei k (by omega),T_ei h]
theorem ev_snoc (l:List Rat) (t:Rat):ev n p (l++[t])=add (ev n p l) (sm t (Tn n p l.length e0)):=by
 unfold ev
 induction l with
 | nil=>show add (sm t e0) (T n p zero)=add zero (sm t e0);rw [T_zero,zhL,zdg]
 | cons x l ih=>
  show add (sm x e0) (T n p (zcp n p (l++[t]) e0))=add (add (sm x e0) (T n p (zcp n p l e0))) (sm t (T n p (Tn n p l.length e0)))
  rw [ih,zo9,T_sm,zbq]
end
def zipS:List Int→Int→List Int→List Int
 | _,_,[]=>[]
 | [],_,x :: l=>x :: l
 | q :: p,t,x :: l=>(x + -(t*q)) :: zipS p t l
def red1 (p:List Int) (t:Int):Nat→List Int→List Int
 | 0,l=>zipS p t l
 | _+1,[]=>[]
 | k+1,x :: l=>x :: red1 p t k l
theorem zjf:∀(p:List Int) (t:Int) (l:List Int),(zipS p t l).length=l.length
 | _,_,[]=>by unfold zipS;rfl
 | [],_,x :: l=>rfl
 | q :: p,t,x :: l=>by simp [zipS,zjf p t l]
theorem ziN (p:List Int) (t:Int):∀(k:Nat) (l:List Int),(red1 p t k l).length=l.length
 | 0,l=>zjf p t l
 | _+1,[]=>rfl
 | k+1,x :: l=>by simp [red1,ziN p t k l]
theorem zrN (t q:Int):((-(t*q):Int):Rat) = -(t:Rat)*(q:Rat):=by
 grind
section
variable {n:Nat} {p:V}
theorem ev_zipS:∀(q:List Int) (t:Int) (l:List Int),l.length=q.length→ev n p (qL (zipS q t l))=add (ev n p (qL l)) (sm (-(t:Rat)) (ev n p (qL q)))
 | [],t,[],_=>by show zero=add zero (sm _ zero);rw [znO,zhL]
 | [],_,_ :: _,h=>by simp at h
 | _ :: _,_,[],h=>by simp at h
 | q :: qs,t,x :: l,h=>by
  have ih:=ev_zipS qs t l (by simpa using h)
  unfold ev at *
  show add (sm ((x + -(t*q):Int):Rat) e0) (T n p (zcp n p (qL (zipS qs t l)) e0))=add (add (sm (x:Rat) e0) (T n p (zcp n p (qL l) e0))) (sm (-(t:Rat)) (add (sm (q:Rat) e0) (T n p (zcp n p (qL qs) e0))))
  rw [ih,zo9,T_sm,zmO,zk4,add4,Rat.intCast_add,zrN,add_sm]
theorem ev_red1:∀(q:List Int) (t:Int) (k:Nat) (l:List Int),l.length=k+q.length→ev n p (qL (red1 q t k l))=add (ev n p (qL l)) (sm (-(t:Rat)) (Tn n p k (ev n p (qL q))))
 | q,t,0,l,h=>ev_zipS q t l (by omega)
 | q,t,k+1,[],h=>by simp at h;omega
 | q,t,k+1,x :: l,h=>by
  have ih:=ev_red1 q t k l (by simp at h;omega)
  unfold ev at *
  show add (sm (x:Rat) e0) (T n p (zcp n p (qL (red1 q t k l)) e0))=add (add (sm (x:Rat) e0) (T n p (zcp n p (qL l) e0))) (sm (-(t:Rat)) (T n p (Tn n p k (zcp n p (qL q) e0))))
  rw [ih,zo9,T_sm,zbq]
end
theorem Tn_top {q:List Int} (h:1≤q.length):Tn q.length (pV q) q.length e0=sm (-1) (ev q.length (pV q) (qL q)):=by
 obtain ⟨m,hm⟩:∃m,q.length=m+1:=⟨q.length-1,by omega⟩
 rw [zof (by rw [zmp];exact Nat.le_refl _)]
 conv=>lhs;rw [hm]
 show T (m+1) (pV q) (Tn (m+1) (pV q) m e0)=_
 rw [Tn_ei m (by omega)]
 funext i
 have h1:ei m (m+1-1)=1:=if_pos rfl
 show(if i<m+1 then(if i=0 then 0 else ei m (i-1))-ei m (m+1-1)*pV q i else 0) = -1*(qL q).getD i 0
 rw [h1,ziF]
 by_cases hi:i<m+1
 ·rw [if_pos hi]
  have h2:(if i=0 then(0:Rat) else ei m (i-1))=0:=by
   split
   ·rfl
   ·exact if_neg (by omega)
  rw [h2];unfold pV;grind
 ·rw [if_neg hi,List.getD_eq_getElem?_getD,List.getElem?_eq_none (by omega)]
  simp
theorem ev_step {q:List Int} (hq:1≤q.length) {k:Nat} {c:List Int} (hc:c.length=q.length+k+1):ev q.length (pV q) (qL (red1 q (c.getLastD 0) k c.dropLast))=ev q.length (pV q) (qL c):=by
 have hne:c≠[]:=by grind
 have e1:c=c.dropLast++[c.getLastD 0]:=by
  rw [List.getLastD_eq_getLast?,List.getLast?_eq_some_getLast hne];exact(List.dropLast_concat_getLast hne).symm
 have hl:c.dropLast.length=k+q.length:=by grind
 rw [ev_red1 _ _ _ _ hl]
 conv=>rhs;rw [e1]
 have e2:qL (c.dropLast++[c.getLastD 0])=qL c.dropLast++[((c.getLastD 0:Int):Rat)]:=by simp [qL]
 rw [e2,ev_snoc,zmp,hl,← Tn_Tn,Tn_top hq,Tn_sm,zk4]
 congr 2
 grind
def val (q:List Int) (c:List Int) (d:Int):V:=sm ((d:Rat)⁻¹) (ev q.length (pV q) (qL c))
theorem zgz {d:Int} (h:d≠0):(d:Rat)≠0:=fun e=>h (by exact_mod_cast e)
def zmZ:List Int→List Int→List Int
 | [],y=>y
 | a :: x,[]=>a :: x
 | a :: x,b :: y=>(a+b) :: zmZ x y
def smZ (k:Int) (x:List Int):List Int:=x.map fun a=>k*a
def cvZ:List Int→List Int→List Int
 | [],_=>[]
 | a :: x,y=>zmZ (smZ a y) (0 :: cvZ x y)
section
variable {n:Nat} {p:V}
theorem zno (c:Rat) (l:List Rat):ev n p (c :: l)=add (sm c e0) (T n p (ev n p l)):=rfl
theorem znn:∀x y:List Int,ev n p (qL (zmZ x y))=add (ev n p (qL x)) (ev n p (qL y))
 | [],y=>(zdg _).symm
 | a :: x,[]=>(zhL _).symm
 | a :: x,b :: y=>by
  show add (sm ((a+b:Int):Rat) e0) (T n p (ev n p (qL (zmZ x y))))=add (add (sm (a:Rat) e0) (T n p (ev n p (qL x)))) (add (sm (b:Rat) e0) (T n p (ev n p (qL y))))
  rw [znn x y,zo9,Rat.intCast_add,add_sm,add4]
theorem zjG (k:Int):∀x:List Int,ev n p (qL (smZ k x))=sm (k:Rat) (ev n p (qL x))
 | []=>(znO _).symm
 | a :: x=>by
  show add (sm ((k*a:Int):Rat) e0) (T n p (ev n p (qL (smZ k x))))=sm (k:Rat) (add (sm (a:Rat) e0) (T n p (ev n p (qL x))))
  rw [zjG k x,zmO,zk4,T_sm,Rat.intCast_mul]
theorem ev_cvZ:∀x y:List Int,ev n p (qL (cvZ x y))=zcp n p (qL x) (ev n p (qL y))
 | [],y=>rfl
 | a :: x,y=>by
  show ev n p (qL (zmZ (smZ a y) (0 :: cvZ x y)))=add (sm (a:Rat) (ev n p (qL y))) (T n p (zcp n p (qL x) (ev n p (qL y))))
  rw [znn,zjG,← ev_cvZ x y]
  congr 1
  show add (sm ((0:Int):Rat) e0) (T n p (ev n p (qL (cvZ x y))))=_
  rw [show((0:Int):Rat)=0 from rfl,zje,zdg]
theorem zhl:∀l:List Rat,(∀c∈l,c=0)→ev n p l=zero
 | [],_=>rfl
 | c :: l,h=>by
  rw [zno,zhl l fun d hd=>h d (by simp [hd]),h c (by simp),zje,T_zero,zdg]
theorem zlR:∀(l m:List Rat),(∀c∈m,c=0)→ev n p (l++m)=ev n p l
 | [],m,h=>zhl m h
 | c :: l,m,h=>by
  show add (sm c e0) (T n p (ev n p (l++m)))=_
  rw [zlR l m h];rfl
theorem ev_sup {l:List Rat} (h:∀i,n≤i→l.getD i 0=0):ev n p l=fun i=>l.getD i 0:=by
 have e:l=l.take n++l.drop n:=(List.take_append_drop n l).symm
 have hz:∀c∈l.drop n,c=0:=fun c hc=>by
  obtain ⟨i,hi,rfl⟩:=List.getElem_of_mem hc
  have:=h (n+i) (by omega)
  grind
 have e1:ev n p l=ev n p (l.take n):=by
  conv=>lhs;rw [e]
  exact zlR _ _ hz
 rw [e1,zof (by rw [List.length_take];omega)]
 grind
end
theorem sm_mul {n:Nat} {p:V} (r:Rat) {x y:V} (hx:Sup n x) (hy:Sup n y):mul n p (sm r x) y=sm r (mul n p x y):=by
 rw [zc7 (zoX hx) hy,mul_sm,zc7 hy hx]
def zo8 (q c:List Int):Prop:=∀i,q.length≤i→c.getD i 0=0
theorem shrt_of {q c:List Int} (h:c.length≤q.length):zo8 q c:=fun i hi=>by
 grind
section
variable {q:List Int}
abbrev vAdd (x y:V):V:=V.add x y
theorem val_add {c c':List Int} {d d':Int} (hd:d≠0) (hd':d'≠0):val q (zmZ (smZ d' c) (smZ d c')) (d*d')=add (val q c d) (val q c' d'):=by
 unfold val
 rw [znn,zjG,zjG,zmO,zk4,zk4,Rat.intCast_mul]
 have a:=zgz hd
 have b:=zgz hd'
 congr 2<;>grind
theorem val_mul (hq:1≤q.length) {c c':List Int} {d d':Int} (hd:d≠0) (hd':d'≠0):val q (cvZ c c') (d*d')=mul q.length (pV q) (val q c d) (val q c' d'):=by
 unfold val
 have s1:=zoV (p:=pV q) hq (qL c)
 have s2:=zoV (p:=pV q) hq (qL c')
 rw [ev_cvZ,znz hq s2,mul_sm,sm_mul _ s1 s2,zk4,Rat.intCast_mul]
 grind
theorem val_neg {c:List Int} {d:Int}:val q (smZ (-1) c) d=sm (-1) (val q c d):=by
 unfold val
 rw [zjG,sm_comm];rfl
theorem val_scale {c:List Int} {d k:Int} (hd:d≠0) (hk:k≠0):val q (smZ k c) (k*d)=val q c d:=by
 unfold val
 rw [zjG,zk4,Rat.intCast_mul]
 have a:=zgz hd
 have b:=zgz hk
 congr 1;grind
theorem sup_val (hq:1≤q.length) (c:List Int) (d:Int):Sup q.length (val q c d):=zoX (zoV hq _)
theorem val_inj2 {c c':List Int} {d d':Int} (hd:d≠0) (hd':d'≠0) (hc:zo8 q c) (hc':zo8 q c') (h:val q c d=val q c' d') (i:Nat):c.getD i 0*d'=c'.getD i 0*d:=by
 have h1:=congrFun h i
 unfold val at h1
 rw [ev_sup (n:=q.length) (l:=qL c) (fun i hi=>by rw [ziF,hc i hi];rfl),ev_sup (n:=q.length) (l:=qL c') (fun i hi=>by rw [ziF,hc' i hi];rfl)] at h1
 have h2:(d:Rat)⁻¹*((c.getD i 0:Int):Rat)=(d':Rat)⁻¹*((c'.getD i 0:Int):Rat):=by
  have:=h1
  simp only [sm] at this
  rwa [ziF,ziF] at this
 have a:=zgz hd
 have b:=zgz hd'
 have h3:((c.getD i 0:Int):Rat)*(d':Rat)=((c'.getD i 0:Int):Rat)*(d:Rat):=by grind
 exact_mod_cast h3
theorem lo_val2 {c c':List Int} {d d':Int} (hd:d≠0) (hd':d'≠0) (hc:zo8 q c) (hc':zo8 q c') (h:val q c d=val q c' d'):loD c d=loD c' d'∧∀i,loC c d i=loC c' d' i:=
 lo_eq hd hd' (val_inj2 hd hd' hc hc' h)
def za4:List Int→List Int
 | []=>[]
 | x :: l=>match za4 l with
  | []=>if x=0 then [] else [x]
  | y :: m=>x :: y :: m
theorem zbv:∀(l:List Int) (i:Nat),(za4 l).getD i 0=l.getD i 0
 | [],i=>rfl
 | x :: l,i=>by
  have ih:=zbv l
  unfold za4
  split
  ·rename_i h
   rw [h] at ih
   split
   ·rename_i hx
    subst hx
    cases i with
    | zero=>rfl
    | succ i=>simpa using ih i
   ·cases i with
    | zero=>rfl
    | succ i=>simpa using ih i
  ·rename_i y m h
   rw [h] at ih
   cases i with
   | zero=>rfl
   | succ i=>simpa using ih i
theorem zeL:∀l:List Int,za4 l=[]∨(za4 l).getLastD 0≠0
 | []=>.inl rfl
 | x :: l=>by
  have ih:=zeL l
  unfold za4
  grind
theorem trim_ext {a b:List Int} (ha:a=[]∨a.getLastD 0≠0) (hb:b=[]∨b.getLastD 0≠0) (h:∀i,a.getD i 0=b.getD i 0):a=b:=by
 have key:∀ {a b:List Int},(a=[]∨a.getLastD 0≠0)→(∀i,a.getD i 0=b.getD i 0)→a.length≤b.length:=by
  intro a b ha h
  rcases ha with rfl | ha
  ·simp
  ·by_cases hl:a.length≤b.length
   ·exact hl
   ·exfalso
    apply ha
    have hne:a≠[]:=by grind
    have:=h (a.length-1)
    grind
 have l1:=key ha h
 have l2:=key hb fun i=>(h i).symm
 apply List.ext_getElem (by omega)
 intro i h1 h2
 have:=h i
 simp_all
end
end Go.Kf
end
section
namespace Go.Kf
set_option linter.unusedVariables false
set_option linter.unusedSimpArgs false
def agC (q:List Int) (sq first:Int) (shift i:Nat) (x:Int):Int:=if shift≤i then x*sq + -(first*q.getD (i-shift) 0) else x*sq
def agR (q:List Int) (sq first:Int) (shift:Nat) (r:List Int):Nat→List Int
 | 0=>r
 | i+1=>(agR q sq first shift r i).set i (agC q sq first shift i (r.getD i 0))
theorem zhN (q:List Int) (sq first:Int) (shift:Nat) (r:List Int):∀i,(agR q sq first shift r i).length=r.length
 | 0=>rfl
 | i+1=>by simp [agR,zhN q sq first shift r i]
theorem zhM (q:List Int) (sq first:Int) (shift:Nat) (r:List Int):∀i j,i≤r.length→(agR q sq first shift r i).getD j 0=if j<i then agC q sq first shift j (r.getD j 0) else r.getD j 0
 | 0,j,_=>by simp [agR]
 | i+1,j,h=>by
  have ih:=zhM q sq first shift r i j (by omega)
  have hl:=zhN q sq first shift r i
  unfold agR
  grind
def cutN (r:List Int):Nat→Nat
 | 0=>0
 | m+1=>if r.getD m 0=0 then cutN r m else m+1
theorem zh1 (r:List Int):∀n,cutN r n≤n
 | 0=>Nat.le_refl _
 | m+1=>by
  unfold cutN
  split
  ·exact Nat.le_succ_of_le (zh1 r m)
  ·exact Nat.le_refl _
def agN (q:List Int):Nat→Nat→List Int→Nat × List Int
 | 0,n,r=>(n,r)
 | k + 1,n,r=>if q.length≤n then
  let t:=q.getD (q.length-1) 0
  let r':=agR q (t*t) (r.getD (n-1) 0*t) (n-q.length) r n
  agN q k (cutN r' n) r'
  else(n,r)
def ngR (r:List Int):Nat→List Int
 | 0=>r
 | i+1=>(ngR r i).set i (-(r.getD i 0))
theorem zgF (r:List Int):∀i,(ngR r i).length=r.length
 | 0=>rfl
 | i+1=>by simp [ngR,zgF r i]
theorem zkz (r:List Int):∀i j,i≤r.length→(ngR r i).getD j 0=if j<i then -(r.getD j 0) else r.getD j 0
 | 0,j,_=>by simp [ngR]
 | i+1,j,h=>by
  have ih:=zkz r i j (by omega)
  have hl:=zgF r i
  unfold ngR
  grind
def agst (p q:List Int):List Int:=(ngR (agN q p.length p.length p).2 (agN q p.length p.length p).1).take (agN q p.length p.length p).1
end Go.Kf
end
section
open Go Go.Ev Go.RowKit
namespace Go.Proofs.YtloaeinogiplbaaGreatDoor
open Go.Proofs
set_option maxRecDepth 100000
set_option maxHeartbeats 1000000
set_option linter.unusedVariables false
set_option linter.unusedSimpArgs false
noncomputable section
abbrev ag_L2 (s:St) (r:Ex × St):Prop:=Loops 4 Tryz.prog (lZ Tryz.prog 193 0) s r
abbrev zhO (a:List Int) (b c:Int) (d:Nat) (e:List Int):St:=⟨sp 93 [(1,.lst EK.whole a),(5,.own 1 0 d 2),(6,.ref 2 0),(7,.ref 3 0)],[.dead,.lst EK.whole e true,.flat [aD b,.wd b] true,.flat [aD c,.wd c] true],[3,2,1,0]⟩
abbrev zj3 (a:List Int) (b c:Int) (d:Nat) (e:List Int):St:=⟨sp 93 [(1,.lst EK.whole a),(5,.own 1 0 d 2),(6,.ref 2 0),(7,.ref 3 0)],[.dead,.lst EK.whole e true,.flat [aD b,.wd b] true,.flat [aD c,.wd c] true],[3,2,1,0]⟩
abbrev zj2 (s:St) (r:Ex × St):Prop:=Loops 5 Tryz.prog (lZ Tryz.prog 193 1) s r
abbrev zdh (a:List Int) (b:Nat) (c d e f g i:Int) (j:List Int):St:=⟨sp 93 [(1,.lst EK.whole a),(5,.own 1 0 b 2),(6,.ref 2 0),(7,.ref 3 0),(8,.ref 4 0),(9,aI c),(42,aI d),(43,aI i)],[.dead,.lst EK.whole j true,.flat [aD e,.wd e] true,.flat [aD f,.wd f] true,.flat [aD g,.wd g] true],[0,1,2,3]⟩
abbrev zfk (a:List Int) (b:Nat) (c d e f g i:Int) (j:List Int):St:=⟨sp 93 [(1,.lst EK.whole a),(5,.own 1 0 b 2),(6,.ref 2 0),(7,.ref 3 0),(8,.ref 4 0),(9,aI c),(42,aI d),(43,aI i)],[.dead,.lst EK.whole j true,.flat [aD e,.wd e] true,.flat [aD f,.wd f] true,.flat [aD g,.wd g] true],[0,1,2,3]⟩
theorem ag_L0_0_0 (a:List Int) (b:Nat) (d f g j l m:Int) (n:List Int) (h1:m<f) (h2:0≤m) (h3:m<(b:Int)) (h4:m.toNat<n.length) (h5:decide (n.getD m.toNat (EK.dflt EK.whole)<OfNat.ofNat 0)=decide (n.getD m.toNat (EK.dflt EK.whole)<0)) (h6:pDD (n.getD m.toNat (EK.dflt EK.whole)) j) (h7:m≥d) (h8:r64 (m-d)) (h9:0≤m-d) (h10:m-d<(a.length:Int)) (h11:m.toNat<(n.set m.toNat (n.getD m.toNat (EK.dflt EK.whole)*j)).length) (h12:decide (a.getD (m-d).toNat (EK.dflt EK.whole)<OfNat.ofNat 0)=decide (a.getD (m-d).toNat (EK.dflt EK.whole)<0)) (h13:pDD l (a.getD (m-d).toNat (EK.dflt EK.whole))) (h14:decide ((n.set m.toNat (n.getD m.toNat (EK.dflt EK.whole)*j)).getD m.toNat (EK.dflt EK.whole)<OfNat.ofNat 0)=decide ((n.set m.toNat (n.getD m.toNat (EK.dflt EK.whole)*j)).getD m.toNat (EK.dflt EK.whole)<0)) (h15:pDD ((n.set m.toNat (n.getD m.toNat (EK.dflt EK.whole)*j)).getD m.toNat (EK.dflt EK.whole)) (-(l*a.getD (m-d).toNat (EK.dflt EK.whole)))) (h16:r64 (m+1)) {r:Ex × St} (k:zj2 (zdh a b d f g j l (m+1) ((n.set m.toNat (n.getD m.toNat (EK.dflt EK.whole)*j)).set m.toNat ((n.set m.toNat (n.getD m.toNat (EK.dflt EK.whole)*j)).getD m.toNat (EK.dflt EK.whole) + -(l*a.getD (m-d).toNat (EK.dflt EK.whole))))) r):zj2 (zdh a b d f g j l m n) r:=Loops.go (LS.at zjq 60 [] [1,5,6,7,8,9,42,43] [0,1,2,3] [1,1] (.t h1<|.t h2<|.t h3<|.t h4<|.c h5<|.c h6<|.t h7<|.i h8<|.t h9<|.t h10<|.t h11<|.c h12<|.c h13<|.c h14<|.c h15<|.i h16<|.e) [1,2,3,4,5,0,6,2,3,4,0,7,2,3,8,9,10,11,0,12,13,0,0,14,0,15,2,3,11,0,0,12,13,11,0,0,14,0,15,2,3,11,0,0,0,11,14,0,15,2,3,11,0,0,0,16]) k
theorem ag_L0_0_1 (a:List Int) (b:Nat) (d g j l m n:Int) (o:List Int) (h1:n<g) (h2:0≤n) (h3:n<(b:Int)) (h4:n.toNat<o.length) (h5:decide (o.getD n.toNat (EK.dflt EK.whole)<OfNat.ofNat 0)=decide (o.getD n.toNat (EK.dflt EK.whole)<0)) (h6:pDD (o.getD n.toNat (EK.dflt EK.whole)) l) (h7:¬(n≥d)) (h8:r64 (n+1)) {r:Ex × St} (k:zj2 (zdh a b d g j l m (n+1) (o.set n.toNat (o.getD n.toNat (EK.dflt EK.whole)*l))) r):zj2 (zdh a b d g j l m n o) r:=Loops.go (LS.at zjq 60 [] [1,5,6,7,8,9,42,43] [0,1,2,3] [1,0] (.t h1<|.t h2<|.t h3<|.t h4<|.c h5<|.c h6<|.f h7<|.i h8<|.e) [1,2,3,4,5,0,6,2,3,4,0,7,8]) k
theorem ag_L0_0_2 (a:List Int) (b:Nat) (c d g i j l:Int) (m:List Int) (h1:¬(l<d)):zj2 (zdh a b c d g i j l m) (Ex.exit 2,(zfk a b c d g i j l m)):=Loops.fin (LS.at zjq 60 [] [1,5,6,7,8,9,42,43] [0,1,2,3] [0] (.f h1<|.e) [1]) (fun h=>nomatch h)
abbrev zpa (s:St) (r:Ex × St):Prop:=Loops 5 Tryz.prog (lZ Tryz.prog 219 0) s r
abbrev zgt (a:List Int) (b c d:Int) (e:Nat):St:=⟨sp 22 [(0,.own 1 0 e 2)],[.dead,.lst EK.whole a true,.flat [aD b,.wd b] true,.flat [aD c,.wd c] true,.flat [aD d,.wd d] true],[0,1,2,3]⟩
abbrev zfl (a:List Int) (b c d:Int) (e:Nat):St:=⟨sp 22 [(0,.own 1 0 e 2)],[.dead,.lst EK.whole a true,.flat [aD b,.wd b] true,.flat [aD c,.wd c] true,.flat [aD d,.wd d] true],[0,1,2,3]⟩
theorem ag_L1_0_0 (a:List Int) (b d f:Int) (g:Nat) (h1:(g:Int) > 0) (h2:r64 ((g:Int)-1)) (h3:0≤(g:Int)-1) (h4:(g:Int)-1<(g:Int)) (h5:((g:Int)-1).toNat<a.length) (h6:decide (a.getD ((g:Int)-1).toNat (EK.dflt EK.whole)<OfNat.ofNat 0)=decide (a.getD ((g:Int)-1).toNat (EK.dflt EK.whole)<0)) (h7:(a.getD ((g:Int)-1).toNat (EK.dflt EK.whole)).sign=0) (h8:(g:Int)-1≤(g:Int)) {r:Ex × St} (k:zpa (zgt a b d f ((g:Int)-1).toNat) r):zpa (zgt a b d f g) r:=Loops.go (LS.at zjq 60 [] [0] [0,1,2,3] [1,1] (.t h1<|.i h2<|.t h3<|.t h4<|.t h5<|.c h6<|.c (beq_iff_eq.2 h7)<|.t h8<|.e) [1,2,3,4,5,6,0,7,2,3,8]) k
theorem ag_L1_0_1 (a:List Int) (b d f:Int) (g:Nat) (h1:(g:Int) > 0) (h2:r64 ((g:Int)-1)) (h3:0≤(g:Int)-1) (h4:(g:Int)-1<(g:Int)) (h5:((g:Int)-1).toNat<a.length) (h6:decide (a.getD ((g:Int)-1).toNat (EK.dflt EK.whole)<OfNat.ofNat 0)=decide (a.getD ((g:Int)-1).toNat (EK.dflt EK.whole)<0)) (h7:(a.getD ((g:Int)-1).toNat (EK.dflt EK.whole)).sign≠0):zpa (zgt a b d f g) (Ex.exit 0,(zfl a b d f g)):=Loops.fin (LS.at zjq 60 [] [0] [0,1,2,3] [1,0] (.t h1<|.i h2<|.t h3<|.t h4<|.t h5<|.c h6<|.c (beq_false_of_ne h7)<|.e) [1,2,3,4,5,6,0,7]) (fun h=>nomatch h)
theorem ag_L1_0_2 (a:List Int) (b c d:Int) (g:Nat) (h1:¬((g:Int) > 0)):zpa (zgt a b c d g) (Ex.exit 0,(zfl a b c d g)):=Loops.fin (LS.at zjq 60 [] [0] [0,1,2,3] [0] (.f h1<|.e) [1]) (fun h=>nomatch h)
theorem ag_L2_0_0 (a:List Int) (b d:Int) (f:Nat) (g:List Int) (j:Int) (l:List Int) (m:Nat) (h1:(f:Int)≥(a.length:Int)) (h2:r64 ((f:Int)-1)) (h3:0≤(f:Int)-1) (h4:(f:Int)-1<(f:Int)) (h5:((f:Int)-1).toNat<g.length) (h6:decide (g.getD ((f:Int)-1).toNat (EK.dflt EK.whole)<OfNat.ofNat 0)=decide (g.getD ((f:Int)-1).toNat (EK.dflt EK.whole)<0)) (h7:pDD (g.getD ((f:Int)-1).toNat (EK.dflt EK.whole)) b) (h8:r64 ((f:Int)-(a.length:Int))) (hL1:zj2 (zdh a f ((f:Int)-(a.length:Int)) ((f:Int)) b d (g.getD ((f:Int)-1).toNat (EK.dflt EK.whole)*b) (0) g) (Ex.exit 2,(zfk a f ((f:Int)-(a.length:Int)) ((f:Int)) b d (g.getD ((f:Int)-1).toNat (EK.dflt EK.whole)*b) j l))) (hL2:zpa (zgt l b d (g.getD ((f:Int)-1).toNat (EK.dflt EK.whole)*b) f) (Ex.exit 0,(zfl l b d (g.getD ((f:Int)-1).toNat (EK.dflt EK.whole)*b) m))) {r:Ex × St} (k:ag_L2 (zhO a b d m l) r):ag_L2 (zhO a b d f g) r:=Loops.go (LS.at zjq 60 [] [1,5,6,7] [3,2,1,0] [1] (.t h1<|.i h2<|.t h3<|.t h4<|.t h5<|.c h6<|.c h7<|.i h8<|.v [1,5,6,7,8,9,42,43] [0,1,2,3] hL1<|.v [0] [0,1,2,3] hL2<|.e) [1,2,3,4,5,6,0,7,6,0,7,0,8,0,9,0,10]) k
theorem ag_L2_0_1 (a:List Int) (b c:Int) (d:Nat) (g:List Int) (h1:¬((d:Int)≥(a.length:Int))):ag_L2 (zhO a b c d g) (Ex.exit 0,(zj3 a b c d g)):=Loops.fin (LS.at zjq 60 [] [1,5,6,7] [3,2,1,0] [0] (.f h1<|.e) [1]) (fun h=>nomatch h)
abbrev zpb (s:St) (r:Ex × St):Prop:=Loops 4 Tryz.prog (lZ Tryz.prog 193 2) s r
abbrev zgu (a:Nat) (b c d e:Int) (f:List Int):St:=⟨sp 93 [(5,.own 1 0 a 2),(79,aI b),(80,aI e)],[.dead,.lst EK.whole f true,.flat [aD c,.wd c] true,.flat [aD d,.wd d] true],[3,2,1,0]⟩
abbrev zhe (a:Nat) (b c d e:Int) (f:List Int):St:=⟨sp 93 [(5,.own 1 0 a 2),(79,aI b),(80,aI e)],[.dead,.lst EK.whole f true,.flat [aD c,.wd c] true,.flat [aD d,.wd d] true],[3,2,1,0]⟩
theorem ag_L3_0_0 (a:Nat) (b d f g:Int) (j:List Int) (h1:g<b) (h2:0≤g) (h3:g<(a:Int)) (h4:g.toNat<j.length) (h5:decide (j.getD g.toNat (EK.dflt EK.whole)<OfNat.ofNat 0)=decide (j.getD g.toNat (EK.dflt EK.whole)<0)) (h6:r64 (g+1)) {r:Ex × St} (k:zpb (zgu a b d f (g+1) (j.set g.toNat (-j.getD g.toNat (EK.dflt EK.whole)))) r):zpb (zgu a b d f g j) r:=Loops.go (LS.at zjq 60 [] [5,79,80] [3,2,1,0] [1] (.t h1<|.t h2<|.t h3<|.t h4<|.c h5<|.i h6<|.e) [1,2,3,4,5,0,2,3,4,0,6]) k
theorem ag_L3_0_1 (a:Nat) (b c d g:Int) (i:List Int) (h1:¬(g<b)):zpb (zgu a b c d g i) (Ex.exit 4,(zhe a b c d g i)):=Loops.fin (LS.at zjq 60 [] [5,79,80] [3,2,1,0] [0] (.f h1<|.e) [1]) (fun h=>nomatch h)
theorem ag_0 (p q:List Int) (a:Nat) (b:List Int) (d:Int) (f:List Int) (h1:p≠[]) (h2:(0+p.length)*32≤140737488355328) (h3:0+p.length≤4611686018427387904) (h4:r64 ((q.length:Int)-1)) (h5:0≤(q.length:Int)-1) (h6:(q.length:Int)-1<(q.length:Int)) (h7:decide (q.getD ((q.length:Int)-1).toNat (EK.dflt EK.whole)<OfNat.ofNat 0)=decide (q.getD ((q.length:Int)-1).toNat (EK.dflt EK.whole)<0)) (h8:pDD (q.getD ((q.length:Int)-1).toNat (EK.dflt EK.whole)) (q.getD ((q.length:Int)-1).toNat (EK.dflt EK.whole))) (hL1:ag_L2 (zhO q (q.getD ((q.length:Int)-1).toNat (EK.dflt EK.whole)) (q.getD ((q.length:Int)-1).toNat (EK.dflt EK.whole)*q.getD ((q.length:Int)-1).toNat (EK.dflt EK.whole)) (0+p.length) (List.take 0 []++p)) (Ex.exit 0,(zj3 q (q.getD ((q.length:Int)-1).toNat (EK.dflt EK.whole)) (q.getD ((q.length:Int)-1).toNat (EK.dflt EK.whole)*q.getD ((q.length:Int)-1).toNat (EK.dflt EK.whole)) a b))) (hL2:zpb (zgu a ((a:Int)) (q.getD ((q.length:Int)-1).toNat (EK.dflt EK.whole)) (q.getD ((q.length:Int)-1).toNat (EK.dflt EK.whole)*q.getD ((q.length:Int)-1).toNat (EK.dflt EK.whole)) (0) b) (Ex.exit 4,(zhe a ((a:Int)) (q.getD ((q.length:Int)-1).toNat (EK.dflt EK.whole)) (q.getD ((q.length:Int)-1).toNat (EK.dflt EK.whole)*q.getD ((q.length:Int)-1).toNat (EK.dflt EK.whole)) d f))) (h11:a≤f.length):FC Tryz.prog 193 [.lst .whole p,.lst .whole q] (.lst EK.whole (f.take a)):=eZ zjq 60 [] (.c (congrArg Bool.not (zbz h1))<|.t h2<|.t h3<|.i h4<|.t h5<|.t h6<|.c h7<|.c h8<|.v [1,5,6,7] [3,2,1,0] hL1<|.v [5,79,80] [3,2,1,0] hL2<|.c h11<|.e) [1,2,3,0,4,5,6,7,7,8,0,9,0,10,11]
end
open Go.Kf
theorem getD_agR {q r:List Int} {sq first:Int} {shift i:Nat} (h:i≤r.length):(agR q sq first shift r i).getD i 0=r.getD i 0:=by
 rw [zhM _ _ _ _ _ _ _ h,if_neg (Nat.lt_irrefl i)]
theorem getDsetS {l:List Int} {i:Nat} {v:Int} (h:i<l.length):(l.set i v).getD i 0=v:=by
 rw [List.getD_eq_getElem?_getD,List.getElem?_set_self h];rfl
theorem ag_l0 {q r:List Int} {n shift:Nat} {top sq first t9:Int} {k:Nat} (hn:n≤r.length) (hm:n≤100000) (h9:t9=(shift:Int)) (hs:shift+q.length=n) (hk:k≤400000) (hr:∀j,Sz k (r.getD j 0)) (hsq:Sz k sq) (hf:Sz k first) (hq:∀j,Sz k (q.getD j 0)) :
    ∀(m i:Nat),i+m=n→zj2 (zdh q n t9 n top sq first i (agR q sq first shift r i)) (Ex.exit 2,zfk q n t9 n top sq first n (agR q sq first shift r n))
  | 0,i,hi=>by
    obtain rfl:i=n:=by omega
    exact ag_L0_0_2 q i t9 i top sq first i _ (by omega)
  | m + 1, i,hi=>by
    have hlen:=zhN q sq first shift r i
    have hg:=getD_agR (q:=q) (sq:=sq) (first:=first) (shift:=shift) (r:=r) (i:=i) (by omega)
    have ih:=ag_l0 (top:=top) hn hm h9 hs hk hr hsq hf hq m (i+1) (by omega)
    have fz:∀ {z:Int} {j:Nat},Sz j z→j≤1048576→zaP z:=fun h h2=>vZ h h2
    have e1:Int.toNat (i:Int)=i:=rfl
    by_cases hsh:shift≤i
    · have e2:Int.toNat ((i:Int)-t9)=i-shift:=by omega
      have hset:((agR q sq first shift r i).set i (r.getD i 0*sq)).getD i 0=r.getD i 0*sq:=getDsetS (by omega)
      have key:agR q sq first shift r (i+1)=((agR q sq first shift r i).set i (r.getD i 0*sq)).set i (r.getD i 0*sq + -(first*q.getD (i-shift) 0)):=by
        rw [List.set_set]
        show(agR q sq first shift r i).set i (agC q sq first shift i (r.getD i 0))=_
        unfold agC;rw [if_pos hsh]
      rw [key] at ih
      have go:=@ag_L0_0_0 q n t9 n top sq first i (agR q sq first shift r i) (by omega) (by omega) (by omega) (by rw [e1,hlen];omega) rfl (by rw [e1];show pDD ((agR q sq first shift r i).getD i 0) sq;rw [hg];exact ⟨fz (hr i) (by omega),fz hsq (by omega)⟩) (by omega) (by omega) (by omega) (by omega)
        (by rw [List.length_set,e1,hlen];omega) rfl (by rw [e2];exact ⟨fz hf (by omega),fz (hq _) (by omega)⟩) rfl
        (by
          rw [e1,e2]
          show pDD (((agR q sq first shift r i).set i ((agR q sq first shift r i).getD i 0*sq)).getD i 0) (-(first*q.getD (i-shift) 0))
          rw [hg,hset]
          exact ⟨fz ((hr i).mul hsq) (by omega),fz ((hf.mul (hq _)).neg) (by omega)⟩) (by omega) (Ex.exit 2,zfk q n t9 n top sq first n (agR q sq first shift r n))
      rw [e1,e2] at go
      refine go ?_
      show zj2 (zdh q n t9 n top sq first ((i:Int)+1) (((agR q sq first shift r i).set i ((agR q sq first shift r i).getD i 0*sq)).set i (((agR q sq first shift r i).set i ((agR q sq first shift r i).getD i 0*sq)).getD i 0 + -(first*q.getD (i-shift) 0)))) _
      rw [hg,hset]
      exact ih
    · have key:agR q sq first shift r (i+1)=(agR q sq first shift r i).set i (r.getD i 0*sq):=by
        show(agR q sq first shift r i).set i (agC q sq first shift i (r.getD i 0))=_
        unfold agC;rw [if_neg hsh]
      rw [key] at ih
      have go:=@ag_L0_0_1 q n t9 n top sq first i (agR q sq first shift r i) (by omega) (by omega) (by omega) (by rw [e1,hlen];omega) rfl (by rw [e1];show pDD ((agR q sq first shift r i).getD i 0) sq;rw [hg];exact ⟨fz (hr i) (by omega),fz hsq (by omega)⟩) (by omega) (by omega) (Ex.exit 2,zfk q n t9 n top sq first n (agR q sq first shift r n))
      rw [e1] at go
      refine go ?_
      show zj2 (zdh q n t9 n top sq first ((i:Int)+1) ((agR q sq first shift r i).set i ((agR q sq first shift r i).getD i 0*sq))) _
      rw [hg]
      exact ih
theorem ag_l1 {r:List Int} {a b c:Int}:∀(n:Nat),n≤r.length→n≤100000→zpa (zgt r a b c n) (Ex.exit 0,zfl r a b c (cutN r n))
 | 0,_,_=>ag_L1_0_2 r a b c 0 (by omega)
 | n + 1,h,hm=>by
  have e1:Int.toNat (((n+1:Nat):Int)-1)=n:=by omega
  unfold cutN
  by_cases hz:r.getD n 0=0
  ·rw [if_pos hz]
   have ih:=ag_l1 (r:=r) (a:=a) (b:=b) (c:=c) n (by omega) (by omega)
   have go:=@ag_L1_0_0 r a b c (n+1) (by omega) (by omega) (by omega) (by omega) (by omega) rfl (by rw [e1];show Int.sign (r.getD n 0)=0;rw [hz];rfl) (by omega) (Ex.exit 0,zfl r a b c (cutN r n))
   rw [e1] at go
   exact go ih
  ·rw [if_neg hz]
   exact ag_L1_0_1 r a b c (n+1) (by omega) (by omega) (by omega) (by omega) (by omega) rfl (by rw [e1];show Int.sign (r.getD n 0)≠0;exact fun h0=>hz (Int.sign_eq_zero_iff_zero.1 h0))
theorem ag_l3 {r:List Int} {n:Nat} {a b:Int} (hn:n≤r.length) (hm:n≤100000):∀(m i:Nat),i+m=n→zpb (zgu n n a b i (ngR r i)) (Ex.exit 4,zhe n n a b n (ngR r n))
 | 0,i,hi=>by
  obtain rfl:i=n:=by omega
  exact ag_L3_0_1 i i a b i _ (by omega)
 | m+1,i,hi=>by
  have hlen:=zgF r i
  have hg:(ngR r i).getD i 0=r.getD i 0:=by rw [zkz _ _ _ (by omega),if_neg (Nat.lt_irrefl i)]
  have ih:=ag_l3 (a:=a) (b:=b) hn hm m (i+1) (by omega)
  have e1:Int.toNat (i:Int)=i:=rfl
  have go:=@ag_L3_0_0 n n a b i (ngR r i) (by omega) (by omega) (by omega) (by rw [e1,hlen];omega) rfl (by omega) (Ex.exit 4,zhe n n a b n (ngR r n))
  rw [e1] at go
  refine go ?_
  show zpb (zgu n n a b ((i:Int)+1) ((ngR r i).set i (-((ngR r i).getD i 0)))) _
  rw [hg]
  exact ih
theorem agC_sz {q:List Int} {sq first x:Int} {shift i a b c d m:Nat} (hx:Sz a x) (hs:Sz b sq) (hf:Sz c first) (hq:∀j,Sz d (q.getD j 0)) (h1:a+b<m) (h2:c+d<m):Sz m (agC q sq first shift i x):=by
 unfold agC
 split
 ·exact Sz.add (hx.mul hs) ((hf.mul (hq _)).neg) h1 h2
 ·exact(hx.mul hs).mono (by omega)
theorem agR_sz {q r:List Int} {sq first:Int} {shift n a b c d m:Nat} (hn:n≤r.length) (hr:∀j,Sz a (r.getD j 0)) (hs:Sz b sq) (hf:Sz c first) (hq:∀j,Sz d (q.getD j 0)) (h1:a+b<m) (h2:c+d<m) (j:Nat):Sz m ((agR q sq first shift r n).getD j 0):=by
 rw [zhM _ _ _ _ _ _ _ hn]
 split
 ·exact agC_sz (hr j) hs hf hq h1 h2
 ·exact(hr j).mono (by omega)
theorem zod {r:List Int} {n:Nat} (h:r.getD n 0=0):cutN r (n+1)≤n:=by
 unfold cutN;rw [if_pos h];exact zh1 r n
theorem ag_l2 {q:List Int} {d:Nat} (hq0:1≤q.length) (hq:∀j,Sz d (q.getD j 0)):∀(k n:Nat) (r:List Int) (a:Nat),n≤k→n≤r.length→n≤1000→(∀j,Sz a (r.getD j 0))→a+k*(2*d+1)≤300000→d≤50000 →
    ag_L2 (zhO q (q.getD (q.length-1) 0) (q.getD (q.length-1) 0*q.getD (q.length-1) 0) n r) (Ex.exit 0,zj3 q (q.getD (q.length-1) 0) (q.getD (q.length-1) 0*q.getD (q.length-1) 0) (agN q k n r).1 (agN q k n r).2) ∧
      (agN q k n r).1≤(agN q k n r).2.length∧(agN q k n r).1≤n∧(agN q k n r).2.length=r.length∧(q.length≤n→(agN q k n r).1<q.length)∧(∀j,Sz (a+k*(2*d+1)) ((agN q k n r).2.getD j 0))
  | k, n,r,a,hk,hn,hm,hr,hs,hd=>by
    by_cases hc:q.length≤n
    · obtain ⟨k,rfl⟩:∃j,k=j+1:=⟨k-1,by omega⟩
      obtain ⟨m,rfl⟩:∃j,n=j+1:=⟨n-1,by omega⟩
      have hmul:(k+1)*(2*d+1)=k*(2*d+1)+(2*d+1):=Nat.succ_mul _ _
      have ht:=hq (q.length-1)
      generalize htt:q.getD (q.length-1) 0=t at ht
      have hsq:Sz (d+d) (t*t):=ht.mul ht
      have hf:Sz (a+d) (r.getD m 0*t):=(hr m).mul ht
      have hR:∀j,Sz (a+(2*d+1)) ((agR q (t*t) (r.getD m 0*t) (m+1-q.length) r (m+1)).getD j 0):=agR_sz hn hr hsq hf hq (by omega) (by omega)
      have hl:=zhN q (t*t) (r.getD m 0*t) (m+1-q.length) r (m+1)
      have htop:(agR q (t*t) (r.getD m 0*t) (m+1-q.length) r (m+1)).getD m 0=0:=by
        rw [zhM _ _ _ _ _ _ _ hn,if_pos (by omega)]
        unfold agC
        rw [if_pos (by omega),show m-(m+1-q.length)=q.length-1 by omega,htt]
        grind
      have hcut:=zod htop
      have hcut2:=zh1 (agR q (t*t) (r.getD m 0*t) (m+1-q.length) r (m+1)) (m+1)
      have e:agN q (k+1) (m+1) r=agN q k (cutN (agR q (t*t) (r.getD m 0*t) (m+1-q.length) r (m+1)) (m+1)) (agR q (t*t) (r.getD m 0*t) (m+1-q.length) r (m+1)):=by
        conv=>lhs;unfold agN
        rw [if_pos hc]
        simp only [htt,Nat.add_sub_cancel]
      obtain ⟨i1,i2,i3,i4,i5,i6⟩:=ag_l2 hq0 hq k (cutN (agR q (t*t) (r.getD m 0*t) (m+1-q.length) r (m+1)) (m+1)) (agR q (t*t) (r.getD m 0*t) (m+1-q.length) r (m+1)) (a+(2*d+1)) (by omega) (by omega) (by omega) hR (by omega) hd
      rw [htt] at i1
      rw [e]
      have e1:Int.toNat (((m+1:Nat):Int)-1)=m:=by omega
      have fz:∀ {z:Int} {j:Nat},Sz j z→j≤1048576→zaP z:=fun h h2=>vZ h h2
      have L0:=ag_l0 (q:=q) (r:=r) (n:=m+1) (shift:=m+1-q.length) (top:=t) (sq:=t*t) (first:=r.getD m 0*t) (t9:=((m+1:Nat):Int)-(q.length:Int)) (k:=a+d+d+d) hn (by omega) (by omega) (by omega) (by omega)
        (fun j=>(hr j).mono (by omega)) (hsq.mono (by omega)) (hf.mono (by omega)) (fun j=>(hq j).mono (by omega)) (m+1) 0 (by omega)
      have L1:=ag_l1 (r:=agR q (t*t) (r.getD m 0*t) (m+1-q.length) r (m+1)) (a:=t) (b:=t*t) (c:=r.getD m 0*t) (m+1) (by omega) (by omega)
      have go:=@ag_L2_0_0 q t (t*t) (m+1) r ((m+1:Nat):Int) (agR q (t*t) (r.getD m 0*t) (m+1-q.length) r (m+1)) (cutN (agR q (t*t) (r.getD m 0*t) (m+1-q.length) r (m+1)) (m+1)) (by omega) (by omega) (by omega) (by omega) (by omega) rfl
        (by rw [e1];exact ⟨fz (hr m) (by omega),fz ht (by omega)⟩) (by omega) (by rw [e1];exact L0) (by rw [e1];exact L1)
      refine ⟨?_,i2,by omega,by omega,fun _=>?_,fun j=>?_⟩
      · exact go i1
      · by_cases h2:q.length≤cutN (agR q (t*t) (r.getD m 0*t) (m+1-q.length) r (m+1)) (m+1)
        · exact i5 h2
        · omega
      · rw [hmul,← Nat.add_assoc,Nat.add_right_comm];exact i6 j
    · have e:agN q k n r=(n,r):=by
        cases k with
        | zero=>rfl
        | succ k=>unfold agN;rw [if_neg hc]
      rw [e]
      exact ⟨ag_L2_0_1 q _ _ n r (by omega),hn,Nat.le_refl _,rfl,fun h=>absurd h hc,fun j=>(hr j).mono (Nat.le_add_right _ _)⟩
def pAg (p q:List Int):Prop:=(∃a d:Nat,(∀j,Sz a (p.getD j 0))∧(∀j,Sz d (q.getD j 0))∧a+p.length*(2*d+1)≤300000∧d≤50000)∧p≠[]∧p.length≤1000∧1≤q.length∧q.length≤1000
instance tAg {p q:List Int}:Tst (pAg p q):=⟨false,fun h=>by cases h⟩
theorem zpc (p q:List Int) (h:pAg p q):FC Tryz.prog 193 [.lst .whole p,.lst .whole q] (.lst .whole (agst p q)):=by
 obtain ⟨⟨a,d,hp,hq,h1,h2⟩,hne,hpl,hq0,hql⟩:=h
 obtain ⟨i1,i2,i3,i4,i5,i6⟩:=ag_l2 hq0 hq p.length p.length p a (Nat.le_refl _) (Nat.le_refl _) hpl hp h1 h2
 have L3:=ag_l3 (r:=(agN q p.length p.length p).2) (n:=(agN q p.length p.length p).1) (a:=q.getD (q.length-1) 0) (b:=q.getD (q.length-1) 0*q.getD (q.length-1) 0) i2 (by omega) (agN q p.length p.length p).1 0 (by omega)
 have e1:Int.toNat ((q.length:Int)-1)=q.length-1:=by omega
 have ht:=hq (q.length-1)
 have hf:zaP (q.getD (q.length-1) 0):=vZ ht (by omega)
 have:=ag_0 p q (agN q p.length p.length p).1 (agN q p.length p.length p).2 ((agN q p.length p.length p).1:Int) (ngR (agN q p.length p.length p).2 (agN q p.length p.length p).1) hne (by omega) (by omega) (by omega) (by omega) (by omega) rfl
  (by rw [e1];exact ⟨hf,hf⟩) (by rw [e1,Nat.zero_add];exact i1) (by rw [e1];exact L3) (by rw [zgF];exact i2)
 exact this
abbrev kdR:List (TypeId × EK):=[(100,.whole),(22,.sl (.int .i64))]
noncomputable def ctrH4:Ctr:=(193,cD2 (.sl .whole) (.sl .whole) pAg (fun p q=>.lst .whole (Go.Kf.agst p q))) :: ctrH3
theorem zlC:∀p∈ctrH4,kZ Tryz.prog p.1 p.2:=CAll.cons (zeS zpc) zlB
theorem okKR:(dZ Tryz.prog ctrH4 bw [] kdR).OK:=DZ zbQ mixed zlC zbM
noncomputable section
abbrev zjS (s:St) (r:Ex × St):Prop:=Loops 0 Tryz.prog (lZ Tryz.prog 188 0) s r
abbrev zeH (a:List (List Int)) (b:Int):St:=⟨sp 22 [(0,.lst (EK.sl (.int .i64)) a),(3,aI b)],[],[]⟩
abbrev zet (a:List (List Int)) (b:Int):St:=⟨sp 22 [(0,.lst (EK.sl (.int .i64)) a),(3,aI b)],[],[]⟩
theorem zrE (a:List (List Int)) (b:Int) (h1:b > 0) (h2:r64 (b-1)) (h3:0≤b-1) (h4:b-1<(a.length:Int)) (h5:pX (a.getD (b-1).toNat (EK.dflt (EK.sl (.int .i64))))) (h6:(vl (a.getD (b-1).toNat (EK.dflt (EK.sl (.int .i64))))).sign=0) {r:Ex × St} (k:zjS (zeH a (b-1)) r):zjS (zeH a b) r:=Loops.go (LS.at okKR 60 [] [0,3] [] [1,1] (.t h1<|.i h2<|.t h3<|.t h4<|.c h5<|.c (beq_iff_eq.2 h6)<|.e) [1,2,3,4,5,6,2]) k
theorem zrF (a:List (List Int)) (b:Int) (h1:b > 0) (h2:r64 (b-1)) (h3:0≤b-1) (h4:b-1<(a.length:Int)) (h5:pX (a.getD (b-1).toNat (EK.dflt (EK.sl (.int .i64))))) (h6:(vl (a.getD (b-1).toNat (EK.dflt (EK.sl (.int .i64))))).sign≠0):zjS (zeH a b) (Ex.exit 0,(zet a b)):=Loops.fin (LS.at okKR 60 [] [0,3] [] [1,0] (.t h1<|.i h2<|.t h3<|.t h4<|.c h5<|.c (beq_false_of_ne h6)<|.e) [1,2,3,4,5,6]) (fun h=>nomatch h)
theorem zrG (a:List (List Int)) (b:Int) (h1:¬(b > 0)):zjS (zeH a b) (Ex.exit 0,(zet a b)):=Loops.fin (LS.at okKR 60 [] [0,3] [] [0] (.f h1<|.e) [1]) (fun h=>nomatch h)
theorem rsh_0 (p:List (List Int)) (a:Int) (hL1:zjS (zeH p ((p.length:Int))) (Ex.exit 0,(zet p a))) (h2:0≤a) (h3:a≤(p.length:Int)):FC Tryz.prog 188 [.lst (.sl (.int .i64)) p] (.lst (EK.sl (.int .i64)) ((p.take a.toNat).drop 0)):=eZ okKR 60 [] (.v [0,3] [] hL1<|.t h2<|.t h3<|.e) [0,1,0,2,3]
end
open Go.Kf
def vls (p:List (List Int)):List Int:=p.map vl
theorem za5 (p:List (List Int)) (i:Nat):vl (p.getD i [])=(vls p).getD i 0:=by
 simp only [vls,List.getD_eq_getElem?_getD,List.getElem?_map]
 cases p[i]? <;> rfl
def pSh (p:List (List Int)):Prop:=p.length≤1000∧∀l∈p,pX l
instance tSh {p:List (List Int)}:Tst (pSh p):=⟨false,fun h=>by cases h⟩
theorem pSh_get {p:List (List Int)} (h:pSh p) {i:Nat} (hi:i<p.length):pX (p.getD i []):=by
 rw [List.getD_eq_getElem?_getD,List.getElem?_eq_getElem hi];exact h.2 _ (List.getElem_mem hi)
theorem zoQ {p:List (List Int)} (h:pSh p):∀(n:Nat),n≤p.length→zjS (zeH p n) (Ex.exit 0,zet p (cutN (vls p) n))
 | 0,_=>zrG p _ (by omega)
 | n + 1,hn=>by
  have hl:=h.1
  have e1:Int.toNat (((n+1:Nat):Int)-1)=n:=by omega
  have e2:((n+1:Nat):Int)-1=(n:Int):=by omega
  have hx:=pSh_get h (i:=n) (by omega)
  unfold cutN
  rw [← za5]
  by_cases hz:vl (p.getD n [])=0
  ·rw [if_pos hz]
   have ih:=zoQ h n (by omega)
   have go:=@zrE p ((n+1:Nat):Int) (by omega) (by omega) (by omega) (by omega) (by rw [e1];exact hx) (by rw [e1];show Int.sign (vl (p.getD n []))=0;rw [hz];rfl) (Ex.exit 0,zet p (cutN (vls p) n))
   rw [e2] at go
   exact go ih
  ·rw [if_neg hz]
   exact zrF p _ (by omega) (by omega) (by omega) (by omega) (by rw [e1];exact hx) (by rw [e1];show Int.sign (vl (p.getD n []))≠0;exact fun h0=>hz (Int.sign_eq_zero_iff_zero.1 h0))
theorem rshort_fc (p:List (List Int)) (h:pSh p):FC Tryz.prog 188 [.lst (.sl (.int .i64)) p] (.lst (.sl (.int .i64)) (p.take (cutN (vls p) p.length))):=by
 have hc:=zh1 (vls p) p.length
 have:=rsh_0 p (cutN (vls p) p.length:Nat) (zoQ h p.length (Nat.le_refl _)) (by omega) (by omega)
 exact this
noncomputable def ctrH5:Ctr:=(188,cD1 (.sl (.sl (.int .i64))) pSh (fun p=>.lst (.sl (.int .i64)) (p.take (cutN (vls p) p.length)))) :: ctrH4
theorem zlD:∀p∈ctrH5,kZ Tryz.prog p.1 p.2:=CAll.cons (zhR rshort_fc) zlC
theorem zed:(dZ Tryz.prog ctrH5 bw [] kdR).OK:=DZ zbQ mixed zlD zbM
noncomputable section
theorem sa0_0 (a b:Int):FunI (dZ Tryz.prog zbl bw) 60 153 [.sl (yZ .W []) 0,W a,W b] [] [] [1,0,0,0] (aI 0) [cZ 1]:={}
theorem sa1_0 (c a b:Int):FunI (dZ Tryz.prog zbl bw) 60 153 [.sl (yZ .W [c]) 1,W a,W b] [] [] [1,0,0,0,2,0,0,3,0,0,4,0,0,5,0,0] (aI (0*a+c*1).sign) [cZ 1,pDD 0 a,pDD c 1,pDD (0*a) (c*1),pDD 1 b]:={}
theorem sa2_0 (c d a b:Int):FunI (dZ Tryz.prog zbl bw) 60 153 [.sl (yZ .W [c,d]) 2,W a,W b] [] [] [1,0,0,0,2,0,0,3,0,0,4,0,0,5,0,0,6,0,0,7,0,0,8,0,0,9,0,0] (aI ((0*a+d*1)*a+c*(1*b)).sign) [cZ 1,pDD 0 a,pDD d 1,pDD (0*a) (d*1),pDD 1 b,pDD (0*a+d*1) a,pDD c (1*b),pDD ((0*a+d*1)*a) (c*(1*b)),pDD (1*b) b]:={}
theorem sa3_0 (c d e a b:Int):FunI (dZ Tryz.prog zbl bw) 60 153 [.sl (yZ .W [c,d,e]) 3,W a,W b] [] [] [1,0,0,0,2,0,0,3,0,0,4,0,0,5,0,0,6,0,0,7,0,0,8,0,0,9,0,0,10,0,0,11,0,0,12,0,0,13,0,0] (aI (((0*a+e*1)*a+d*(1*b))*a+c*(1*b*b)).sign) [cZ 1,pDD 0 a,pDD e 1,pDD (0*a) (e*1),pDD 1 b,pDD (0*a+e*1) a,pDD d (1*b),pDD ((0*a+e*1)*a) (d*(1*b)),pDD (1*b) b,pDD ((0*a+e*1)*a+d*(1*b)) a,pDD c (1*b*b),pDD (((0*a+e*1)*a+d*(1*b))*a) (c*(1*b*b)),pDD (1*b*b) b]:={}
theorem sa4_0 (c d e f a b:Int):FunI (dZ Tryz.prog zbl bw) 60 153 [.sl (yZ .W [c,d,e,f]) 4,W a,W b] [] [] [1,0,0,0,2,0,0,3,0,0,4,0,0,5,0,0,6,0,0,7,0,0,8,0,0,9,0,0,10,0,0,11,0,0,12,0,0,13,0,0,14,0,0,15,0,0,16,0,0,17,0,0] (aI ((((0*a+f*1)*a+e*(1*b))*a+d*(1*b*b))*a+c*(1*b*b*b)).sign) [cZ 1,pDD 0 a,pDD f 1,pDD (0*a) (f*1),pDD 1 b,pDD (0*a+f*1) a,pDD e (1*b),pDD ((0*a+f*1)*a) (e*(1*b)),pDD (1*b) b,pDD ((0*a+f*1)*a+e*(1*b)) a,pDD d (1*b*b),pDD (((0*a+f*1)*a+e*(1*b))*a) (d*(1*b*b)),pDD (1*b*b) b,pDD (((0*a+f*1)*a+e*(1*b))*a+d*(1*b*b)) a,pDD c (1*b*b*b),pDD ((((0*a+f*1)*a+e*(1*b))*a+d*(1*b*b))*a) (c*(1*b*b*b)),pDD (1*b*b*b) b]:={}
theorem sa5_0 (c d e f g a b:Int):FunI (dZ Tryz.prog zbl bw) 60 153 [.sl (yZ .W [c,d,e,f,g]) 5,W a,W b] [] [] [1,0,0,0,2,0,0,3,0,0,4,0,0,5,0,0,6,0,0,7,0,0,8,0,0,9,0,0,10,0,0,11,0,0,12,0,0,13,0,0,14,0,0,15,0,0,16,0,0,17,0,0,18,0,0,19,0,0,20,0,0,21,0,0] (aI (((((0*a+g*1)*a+f*(1*b))*a+e*(1*b*b))*a+d*(1*b*b*b))*a+c*(1*b*b*b*b)).sign) [cZ 1,pDD 0 a,pDD g 1,pDD (0*a) (g*1),pDD 1 b,pDD (0*a+g*1) a,pDD f (1*b),pDD ((0*a+g*1)*a) (f*(1*b)),pDD (1*b) b,pDD ((0*a+g*1)*a+f*(1*b)) a,pDD e (1*b*b),pDD (((0*a+g*1)*a+f*(1*b))*a) (e*(1*b*b)),pDD (1*b*b) b,pDD (((0*a+g*1)*a+f*(1*b))*a+e*(1*b*b)) a,pDD d (1*b*b*b),pDD ((((0*a+g*1)*a+f*(1*b))*a+e*(1*b*b))*a) (d*(1*b*b*b)),pDD (1*b*b*b) b,pDD ((((0*a+g*1)*a+f*(1*b))*a+e*(1*b*b))*a+d*(1*b*b*b)) a,pDD c (1*b*b*b*b),pDD (((((0*a+g*1)*a+f*(1*b))*a+e*(1*b*b))*a+d*(1*b*b*b))*a) (c*(1*b*b*b*b)),pDD (1*b*b*b*b) b]:={}
end
theorem nZ {x y:Int} {j k:Nat} [hx:SzC x j] [hy:SzC y k] (hj:j≤1048576) (hk:k≤1048576):pDD x y:=⟨zey hj,zey hk⟩
def zmL (a b:Int):List Int→Int × Int
 | []=>(0,1)
 | c :: l=>((zmL a b l).1*a+c*(zmL a b l).2,(zmL a b l).2*b)
def zai (l:List Int) (a b:Int):Int:=(zmL a b l).1
def zdz (l:List Int) (a b:Int):Prop:=Nat.ble l.length 5=true∧SzL 20000 l∧Sz 20000 a∧Sz 20000 b
instance tstPoly {l:List Int} {a b:Int}:Tst (zdz l a b):=inferInstanceAs (Tst (_∧SzL 20000 l∧Sz 20000 a∧Sz 20000 b))
theorem zi2 (l:List Int) (a b:Int) (h:zdz l a b):FC Tryz.prog 153 [.zl .W l,W a,W b] (.lit (.int .i64 (zai l a b).sign)):=by
 obtain ⟨hl,hz,ha,hb⟩:=h
 have ia:SzC a 20000:=⟨ha⟩
 have ib:SzC b 20000:=⟨hb⟩
 match l,hl,hz with
 | [],_,_=>
  exact(mZ ziy (sa0_0  a b) (by(repeat' (first | exact AllC.nil | refine AllC.cons ?_ ?_));all_goals (first | (with_reducible rfl) | exact nZ (by decide) (by decide) | trivial | exact ⟨by decide,by decide⟩))).le (.cons (Le.zl_sl .W []) (LeL.refl _)) (Le.refl _)
 | [c0],_,⟨h0,_⟩=>
  have i0:SzC c0 20000:=⟨h0⟩
  exact(mZ ziy (sa1_0 c0 a b) (by(repeat' (first | exact AllC.nil | refine AllC.cons ?_ ?_));all_goals (first | (with_reducible rfl) | exact nZ (by decide) (by decide) | trivial | exact ⟨by decide,by decide⟩))).le (.cons (Le.zl_sl .W [c0]) (LeL.refl _)) (Le.refl _)
 | [c0,c1],_,⟨h0,h1,_⟩=>
  have i0:SzC c0 20000:=⟨h0⟩
  have i1:SzC c1 20000:=⟨h1⟩
  exact(mZ ziy (sa2_0 c0 c1 a b) (by(repeat' (first | exact AllC.nil | refine AllC.cons ?_ ?_));all_goals (first | (with_reducible rfl) | exact nZ (by decide) (by decide) | trivial | exact ⟨by decide,by decide⟩))).le (.cons (Le.zl_sl .W [c0,c1]) (LeL.refl _)) (Le.refl _)
 | [c0,c1,c2],_,⟨h0,h1,h2,_⟩=>
  have i0:SzC c0 20000:=⟨h0⟩
  have i1:SzC c1 20000:=⟨h1⟩
  have i2:SzC c2 20000:=⟨h2⟩
  exact(mZ ziy (sa3_0 c0 c1 c2 a b) (by(repeat' (first | exact AllC.nil | refine AllC.cons ?_ ?_));all_goals (first | (with_reducible rfl) | exact nZ (by decide) (by decide) | trivial | exact ⟨by decide,by decide⟩))).le (.cons (Le.zl_sl .W [c0,c1,c2]) (LeL.refl _)) (Le.refl _)
 | [c0,c1,c2,c3],_,⟨h0,h1,h2,h3,_⟩=>
  have i0:SzC c0 20000:=⟨h0⟩
  have i1:SzC c1 20000:=⟨h1⟩
  have i2:SzC c2 20000:=⟨h2⟩
  have i3:SzC c3 20000:=⟨h3⟩
  exact(mZ ziy (sa4_0 c0 c1 c2 c3 a b) (by(repeat' (first | exact AllC.nil | refine AllC.cons ?_ ?_));all_goals (first | (with_reducible rfl) | exact nZ (by decide) (by decide) | trivial | exact ⟨by decide,by decide⟩))).le (.cons (Le.zl_sl .W [c0,c1,c2,c3]) (LeL.refl _)) (Le.refl _)
 | [c0,c1,c2,c3,c4],_,⟨h0,h1,h2,h3,h4,_⟩=>
  have i0:SzC c0 20000:=⟨h0⟩
  have i1:SzC c1 20000:=⟨h1⟩
  have i2:SzC c2 20000:=⟨h2⟩
  have i3:SzC c3 20000:=⟨h3⟩
  have i4:SzC c4 20000:=⟨h4⟩
  exact(mZ ziy (sa5_0 c0 c1 c2 c3 c4 a b) (by(repeat' (first | exact AllC.nil | refine AllC.cons ?_ ?_));all_goals (first | (with_reducible rfl) | exact nZ (by decide) (by decide) | trivial | exact ⟨by decide,by decide⟩))).le (.cons (Le.zl_sl .W [c0,c1,c2,c3,c4]) (LeL.refl _)) (Le.refl _)
 | _ :: _ :: _ :: _ :: _ :: _ :: _,hl,_=>simp [Nat.ble_eq] at hl
def ctr12:Ctr:=(153,cPWW zdz (fun l a b=>.lit (.int .i64 (zai l a b).sign))) :: zbl
theorem zhW:∀p∈ctr12,kZ Tryz.prog p.1 p.2:=CAll.cons (cPWW_ok zi2) zfn
theorem ok12:(dZ Tryz.prog ctr12 bw).OK:=TZ zhW
noncomputable section
theorem lw_0 (a b c e d:Int):FunI (dZ Tryz.prog ctr12 bw) 60 126 [nuA a b c e d] [1,1,1,1,0,1,1,1,1,0] [] [0,0,0,0,0,1,0,0,0,0,0,0,2,0,0,0,0,0,0,3,0,0,0,0,0,0,4,0,0,0,0,0,0,0,5,0,0,0,0,0,0,0,0,6,0,0,0,0,0,0,0,0,7,0,0,0,0,0,0,0,0,8,0,0,0,0,0,0,9] (.agg [.lit (.bool (decide (a / (↑(Int.gcd (↑(Int.gcd (↑(Int.gcd (↑(Int.gcd d a):Int) b):Int) c):Int) e):Int)<0))),.wd (a / (↑(Int.gcd (↑(Int.gcd (↑(Int.gcd (↑(Int.gcd d a):Int) b):Int) c):Int) e):Int)),.lit (.bool (decide (b / (↑(Int.gcd (↑(Int.gcd (↑(Int.gcd (↑(Int.gcd d a):Int) b):Int) c):Int) e):Int)<0))),.wd (b / (↑(Int.gcd (↑(Int.gcd (↑(Int.gcd (↑(Int.gcd d a):Int) b):Int) c):Int) e):Int)),.lit (.bool (decide (c / (↑(Int.gcd (↑(Int.gcd (↑(Int.gcd (↑(Int.gcd d a):Int) b):Int) c):Int) e):Int)<0))),.wd (c / (↑(Int.gcd (↑(Int.gcd (↑(Int.gcd (↑(Int.gcd d a):Int) b):Int) c):Int) e):Int)),.lit (.bool (decide (e / (↑(Int.gcd (↑(Int.gcd (↑(Int.gcd (↑(Int.gcd d a):Int) b):Int) c):Int) e):Int)<0))),.wd (e / (↑(Int.gcd (↑(Int.gcd (↑(Int.gcd (↑(Int.gcd d a):Int) b):Int) c):Int) e):Int)),.lit (.bool (decide (d / (↑(Int.gcd (↑(Int.gcd (↑(Int.gcd (↑(Int.gcd d a):Int) b):Int) c):Int) e):Int)<0))),.wd (d / (↑(Int.gcd (↑(Int.gcd (↑(Int.gcd (↑(Int.gcd d a):Int) b):Int) c):Int) e):Int))]) [pDD d a,pDD (↑(Int.gcd d a):Int) b,pDD (↑(Int.gcd (↑(Int.gcd d a):Int) b):Int) c,pDD (↑(Int.gcd (↑(Int.gcd (↑(Int.gcd d a):Int) b):Int) c):Int) e,zgG a (↑(Int.gcd (↑(Int.gcd (↑(Int.gcd (↑(Int.gcd d a):Int) b):Int) c):Int) e):Int),zgG b (↑(Int.gcd (↑(Int.gcd (↑(Int.gcd (↑(Int.gcd d a):Int) b):Int) c):Int) e):Int),zgG c (↑(Int.gcd (↑(Int.gcd (↑(Int.gcd (↑(Int.gcd d a):Int) b):Int) c):Int) e):Int),zgG e (↑(Int.gcd (↑(Int.gcd (↑(Int.gcd (↑(Int.gcd d a):Int) b):Int) c):Int) e):Int),zgG d (↑(Int.gcd (↑(Int.gcd (↑(Int.gcd (↑(Int.gcd d a):Int) b):Int) c):Int) e):Int)]:={}
end
def gc5 (a b c e d:Int):Int:=(Int.gcd (Int.gcd (Int.gcd (Int.gcd d a:Int) b:Int) c:Int) e:Int)
theorem zrV {k:Nat} {x y:Int} (hx:Sz k x) (h0:x≠0):Sz k (Int.gcd x y:Int):=by
 refine hx.le ?_
 have h1:Int.gcd x y∣x.natAbs:=Int.natAbs_dvd_natAbs.2 (Int.gcd_dvd_left x y)
 exact Nat.le_of_dvd (by omega) h1
theorem zjH {x y:Int} (h0:x≠0):(Int.gcd x y:Int)≠0:=by
 intro h
 have h1:=Int.gcd_dvd_left x y
 rw [h] at h1
 exact h0 (Int.zero_dvd.1 h1)
def pNu (a b c e d:Int):Prop:=d≠0∧Sz 50000 a∧Sz 50000 b∧Sz 50000 c∧Sz 50000 e∧Sz 50000 d
instance tstNu {a b c e d:Int}:Tst (pNu a b c e d):=inferInstanceAs (Tst (d≠0∧Sz 50000 a∧Sz 50000 b∧Sz 50000 c∧Sz 50000 e∧Sz 50000 d))
def loA (a b c e d:Int):AV:=nuA (a / gc5 a b c e d) (b / gc5 a b c e d) (c / gc5 a b c e d) (e / gc5 a b c e d) (d / gc5 a b c e d)
theorem pDD_of {x y:Int} (h:zaP x) (k:zaP y):pDD x y:=⟨h,k⟩
theorem pOver_of {x y:Int} (h0:y≠0) (h:zaP x) (k:zaP y):zgG x y:=⟨h0,h,k⟩
theorem zl0 (a b c e d:Int) (h:pNu a b c e d):FC Tryz.prog 126 [nuA a b c e d] (loA a b c e d):=by
 obtain ⟨h0,ha,hb,hc,he,hd⟩:=h
 have n1:=zjH (y:=a) h0
 have n2:=zjH (y:=b) n1
 have n3:=zjH (y:=c) n2
 have n4:=zjH (y:=e) n3
 have s1:=zrV (y:=a) hd h0
 have s2:=zrV (y:=b) s1 n1
 have s3:=zrV (y:=c) s2 n2
 have s4:=zrV (y:=e) s3 n3
 have f:∀ {z:Int},Sz 50000 z→zaP z:=fun h=>vZ h (by decide)
 exact mZ ok12 (lw_0 a b c e d) (by(repeat' (first | exact AllC.nil | refine AllC.cons ?_ ?_));all_goals (first | (with_reducible rfl) | (with_reducible exact pDD_of (f (by assumption)) (f (by assumption))) | (with_reducible exact pOver_of n4 (f (by assumption)) (f (by assumption))) | rfl | trivial))
def cNu (p:Int→Int→Int→Int→Int→Prop) [∀a b c e d,Tst (p a b c e d)] (r:Int→Int→Int→Int→Int→AV) (args:List AV):M AV:=match args with
 | [x]=>do
  let q ← zrY x
  match q with
  | (a,b,c,e,d)=>do
   tellD (p a b c e d) (Tst.b (p a b c e d))
   gives (r a b c e d)
 | _=>fail 260
theorem cNu_ok {P:Program} {f:FuncId} {p:Int→Int→Int→Int→Int→Prop} [∀a b c e d,Tst (p a b c e d)] {r:Int→Int→Int→Int→Int→AV} (h:∀a b c e d,p a b c e d→FC P f [nuA a b c e d] (r a b c e d)):kZ P f (cNu p r):=by
 intro args _
 unfold cNu
 split
 ·exact Spec.bind (asNu_spec.mono fun q hq=>Spec.bind (Spec.tellD Tst.ok fun hp=>Spec.gives ((h _ _ _ _ _ hp).le (.cons hq .nil) (Le.refl _))))
 ·exact Spec.fail
def ctrL:Ctr:=(126,cNu pNu loA) :: ctr12
theorem zoa:∀p∈ctrL,kZ Tryz.prog p.1 p.2:=CAll.cons (cNu_ok zl0) zhW
theorem okL:(dZ Tryz.prog ctrL bw).OK:=TZ zoa
def ctrQ:Ctr:=(126,cNu pNu loA) :: ctr12
abbrev kdQ:List (TypeId × EK):=[(100,.whole)]
abbrev tL (c:List Int) (n:Int) (l:List Int):List Int:=List.take (Int.toNat (if(↑(0+List.length c):Int)<n then(↑(0+List.length c):Int) else n)) l
theorem zhf:∀p∈ctrQ,kZ Tryz.prog p.1 p.2:=CAll.cons (cNu_ok zl0) zhW
theorem okQ:(dZ Tryz.prog ctrQ bw [] kdQ).OK:=DZ zbQ mixed zhf zbM
noncomputable section
abbrev ziH (s:St) (r:Ex × St):Prop:=Loops 4 Tryz.prog (lZ Tryz.prog 134 0) s r
abbrev zdJ (a:List Int) (b:Nat) (c d e:Int) (f:List Int):St:=⟨sp 89 [(0,.pd [aJ,aJ,aJ,aJ,.lst EK.whole a,aJ,aJ,aJ,aJ,aJ,aJ,aJ] 0),(1,.own 3 0 b 2),(5,.ref 0 0),(6,.ref 1 0),(7,aI c),(8,aI e)],[.flat [aD d,.wd d] true,.flat [aF,aN,aF,aN,aF,aN,aF,aN,aF,aN] true,.dead,.lst EK.whole f true],[3,2]⟩
abbrev zek (a:List Int) (b:Nat) (c d e:Int) (f:List Int):St:=⟨sp 89 [(0,.pd [aJ,aJ,aJ,aJ,.lst EK.whole a,aJ,aJ,aJ,aJ,aJ,aJ,aJ] 0),(1,.own 3 0 b 2),(5,.ref 0 0),(6,.ref 1 0),(7,aI c),(8,aI e)],[.flat [aD d,.wd d] true,.flat [aF,aN,aF,aN,aF,aN,aF,aN,aF,aN] true,.dead,.lst EK.whole f true],[3,2]⟩
abbrev zmu (s:St) (r:Ex × St):Prop:=Loops 4 Tryz.prog (lZ Tryz.prog 134 1) s r
abbrev zfI (a:List Int) (b:Nat) (c d e f:Int) (g:List Int):St:=⟨sp 89 [(0,.pd [aJ,aJ,aJ,aJ,.lst EK.whole a,aJ,aJ,aJ,aJ,aJ,aJ,aJ] 0),(1,.own 3 0 b 2),(5,.ref 0 0),(6,.ref 1 0),(7,aI c),(8,aI d),(24,aI c),(25,aI f)],[.flat [aD e,.wd e] true,.flat [aF,aN,aF,aN,aF,aN,aF,aN,aF,aN] true,.dead,.lst EK.whole g true],[3,2]⟩
abbrev zfJ (a:List Int) (b:Nat) (c d e f:Int) (g:List Int):St:=⟨sp 89 [(0,.pd [aJ,aJ,aJ,aJ,.lst EK.whole a,aJ,aJ,aJ,aJ,aJ,aJ,aJ] 0),(1,.own 3 0 b 2),(5,.ref 0 0),(6,.ref 1 0),(7,aI c),(8,aI d),(24,aI c),(25,aI f)],[.flat [aD e,.wd e] true,.flat [aF,aN,aF,aN,aF,aN,aF,aN,aF,aN] true,.dead,.lst EK.whole g true],[3,2]⟩
theorem zqs (a:List Int) (b:Nat) (d f g j:Int) (l:List Int) (h1:j<d) (h2:r64 (f-d)) (h3:r64 (f-d+j)) (h4:0≤f-d+j) (h5:f-d+j<(b:Int)) (h6:0≤f) (h7:f<(b:Int)) (h8:0≤j) (h9:j<(a.length:Int)) (h10:(f-d+j).toNat<l.length) (h11:f.toNat<l.length) (h12:decide (l.getD f.toNat (EK.dflt EK.whole)<OfNat.ofNat 0)=decide (l.getD f.toNat (EK.dflt EK.whole)<0)) (h13:decide (a.getD j.toNat (EK.dflt EK.whole)<OfNat.ofNat 0)=decide (a.getD j.toNat (EK.dflt EK.whole)<0)) (h14:pDD (l.getD f.toNat (EK.dflt EK.whole)) (a.getD j.toNat (EK.dflt EK.whole))) (h15:decide (l.getD (f-d+j).toNat (EK.dflt EK.whole)<OfNat.ofNat 0)=decide (l.getD (f-d+j).toNat (EK.dflt EK.whole)<0)) (h16:pDD (l.getD (f-d+j).toNat (EK.dflt EK.whole)) (-(l.getD f.toNat (EK.dflt EK.whole)*a.getD j.toNat (EK.dflt EK.whole)))) (h17:r64 (j+1)) {r:Ex × St} (k:zmu (zfI a b d f g (j+1) (l.set (f-d+j).toNat (l.getD (f-d+j).toNat (EK.dflt EK.whole) + -(l.getD f.toNat (EK.dflt EK.whole)*a.getD j.toNat (EK.dflt EK.whole))))) r):zmu (zfI a b d f g j l) r:=Loops.go (LS.at okQ 60 [] [0,1,5,6,7,8,24,25] [3,2] [1] (.t h1<|.i h2<|.i h3<|.t h4<|.t h5<|.t h6<|.t h7<|.t h8<|.t h9<|.t h10<|.t h11<|.c h12<|.c h13<|.c h14<|.c h15<|.c h16<|.i h17<|.e) [1,2,3,2,3,4,5,6,7,8,9,10,11,12,13,14,0,0,15,0,16,4,5,10,0,11,10,12,13,14,0,0,15,0,16,4,5,10,0,12,13,14,10,0,0,15,0,16,4,5,10,0,0,0,10,15,0,16,4,5,10,0,0,0,0,17]) k
theorem zqt (a:List Int) (b:Nat) (c d g i:Int) (j:List Int) (h1:¬(i<c)):zmu (zfI a b c d g i j) (Ex.exit 2,(zfJ a b c d g i j)):=Loops.fin (LS.at okQ 60 [] [0,1,5,6,7,8,24,25] [3,2] [0] (.f h1<|.e) [1]) (fun h=>nomatch h)
theorem zqu (a:List Int) (b:Nat) (c d f:Int) (g:List Int) (j:Int) (l:List Int) (h1:f≥c) (hL1:zmu (zfI a b c f d (0) g) (Ex.exit 2,(zfJ a b c f d j l))) (h3:r64 (f-1)) {r:Ex × St} (k:ziH (zdJ a b c d (f-1) l) r):ziH (zdJ a b c d f g) r:=Loops.go (LS.at okQ 60 [] [0,1,5,6,7,8] [3,2] [1] (.t h1<|.v [0,1,5,6,7,8,24,25] [3,2] hL1<|.i h3<|.e) [1,0,2,3]) k
theorem zc8 (a:List Int) (b:Nat) (c d g:Int) (i:List Int) (h1:¬(g≥c)):ziH (zdJ a b c d g i) (Ex.exit 0,(zek a b c d g i)):=Loops.fin (LS.at okQ 60 [] [0,1,5,6,7,8] [3,2] [0] (.f h1<|.e) [1]) (fun h=>nomatch h)
theorem rda_0 (a b:Int) (c:List Int) (d f:Int) (g:List Int) (h1:r64 ((1:Int))) (h2:c≠[]) (h3:(0+c.length)*32≤140737488355328) (h4:0+c.length≤4611686018427387904) (h5:r64 ((↑(0+c.length):Int)-1)) (hL1:ziH (zdJ ([a,b]) (0+c.length) ((1:Int)) d ((↑(0+c.length):Int)-1) (List.take 0 []++c)) (Ex.exit 0,(zek ([a,b]) (0+c.length) ((1:Int)) d f g))) (h7:0≤(1:Int)) (h8:(1:Int)≤4) (h9:0≤if(↑(0+c.length):Int)<(1:Int) then(↑(0+c.length):Int) else(1:Int)) (h10:(if(↑(0+c.length):Int)<(1:Int) then(↑(0+c.length):Int) else(1:Int))≤(↑(0+c.length):Int)) (h11:(if(↑(0+c.length):Int)<(1:Int) then(↑(0+c.length):Int) else(1:Int)).toNat≤g.length) (h12:(if(↑(0+c.length):Int)<(1:Int) then(↑(0+c.length):Int) else(1:Int)).toNat≤((1:Int)-0).toNat) (h13:d<0) (h14:pNu (-(tL c (1:Int) g).getD 0 0) 0 0 0 (-d)):FC Tryz.prog 134 [reA (.lst .whole [a,b]),.lst .whole c,W d] (loA (-(tL c (1:Int) g).getD 0 0) 0 0 0 (-d)):=eZ okQ 60 [1] (.i h1<|.c (congrArg Bool.not (zbz h2))<|.t h3<|.t h4<|.i h5<|.v [0,1,5,6,7,8] [3,2] hL1<|.t h7<|.t h8<|.t h9<|.t h10<|.t h11<|.t h12<|.t h13<|.c h14<|.o<|.e) [1,2,3,4,0,5,0,6,0,7,8,9,10,11,12,13,0,0,0,0,0,0,0,0,0,0,0,0,0,0,0,0,0,0,0,0,0,0,0,0,0,0,0,0,0,0,0,0,0,0,0,14]
theorem rda_1 (a b:Int) (c:List Int) (d g:Int) (j:List Int) (h1:r64 ((1:Int))) (h2:c≠[]) (h3:(0+c.length)*32≤140737488355328) (h4:0+c.length≤4611686018427387904) (h5:r64 ((↑(0+c.length):Int)-1)) (hL1:ziH (zdJ ([a,b]) (0+c.length) ((1:Int)) d ((↑(0+c.length):Int)-1) (List.take 0 []++c)) (Ex.exit 0,(zek ([a,b]) (0+c.length) ((1:Int)) d g j))) (h7:0≤(1:Int)) (h8:(1:Int)≤4) (h9:0≤if(↑(0+c.length):Int)<(1:Int) then(↑(0+c.length):Int) else(1:Int)) (h10:(if(↑(0+c.length):Int)<(1:Int) then(↑(0+c.length):Int) else(1:Int))≤(↑(0+c.length):Int)) (h11:(if(↑(0+c.length):Int)<(1:Int) then(↑(0+c.length):Int) else(1:Int)).toNat≤j.length) (h12:(if(↑(0+c.length):Int)<(1:Int) then(↑(0+c.length):Int) else(1:Int)).toNat≤((1:Int)-0).toNat) (h13:¬(d<0)) (h14:pNu ((tL c (1:Int) j).getD 0 0) 0 0 0 d):FC Tryz.prog 134 [reA (.lst .whole [a,b]),.lst .whole c,W d] (loA ((tL c (1:Int) j).getD 0 0) 0 0 0 d):=eZ okQ 60 [0] (.i h1<|.c (congrArg Bool.not (zbz h2))<|.t h3<|.t h4<|.i h5<|.v [0,1,5,6,7,8] [3,2] hL1<|.t h7<|.t h8<|.t h9<|.t h10<|.t h11<|.t h12<|.f h13<|.c h14<|.e) [1,2,3,4,0,5,0,6,0,7,8,9,10,11,12,13,0,0,0,0,0,14]
abbrev rdb_L1 (s:St) (r:Ex × St):Prop:=Loops 4 Tryz.prog (lZ Tryz.prog 134 0) s r
abbrev zkN (a:List Int) (b:Nat) (c d e:Int) (f:List Int):St:=⟨sp 89 [(0,.pd [aJ,aJ,aJ,aJ,.lst EK.whole a,aJ,aJ,aJ,aJ,aJ,aJ,aJ] 0),(1,.own 3 0 b 2),(5,.ref 0 0),(6,.ref 1 0),(7,aI c),(8,aI e)],[.flat [aD d,.wd d] true,.flat [aF,aN,aF,aN,aF,aN,aF,aN,aF,aN] true,.dead,.lst EK.whole f true],[3,2]⟩
abbrev ziJ (a:List Int) (b:Nat) (c d e:Int) (f:List Int):St:=⟨sp 89 [(0,.pd [aJ,aJ,aJ,aJ,.lst EK.whole a,aJ,aJ,aJ,aJ,aJ,aJ,aJ] 0),(1,.own 3 0 b 2),(5,.ref 0 0),(6,.ref 1 0),(7,aI c),(8,aI e)],[.flat [aD d,.wd d] true,.flat [aF,aN,aF,aN,aF,aN,aF,aN,aF,aN] true,.dead,.lst EK.whole f true],[3,2]⟩
theorem rdb_0 (a b f:Int) (c:List Int) (d g:Int) (j:List Int) (h1:r64 ((2:Int))) (h2:c≠[]) (h3:(0+c.length)*32≤140737488355328) (h4:0+c.length≤4611686018427387904) (h5:r64 ((↑(0+c.length):Int)-1)) (hL1:rdb_L1 (zkN ([a,b,f]) (0+c.length) ((2:Int)) d ((↑(0+c.length):Int)-1) (List.take 0 []++c)) (Ex.exit 0,(ziJ ([a,b,f]) (0+c.length) ((2:Int)) d g j))) (h7:0≤(2:Int)) (h8:(2:Int)≤4) (h9:0≤if(↑(0+c.length):Int)<(2:Int) then(↑(0+c.length):Int) else(2:Int)) (h10:(if(↑(0+c.length):Int)<(2:Int) then(↑(0+c.length):Int) else(2:Int))≤(↑(0+c.length):Int)) (h11:(if(↑(0+c.length):Int)<(2:Int) then(↑(0+c.length):Int) else(2:Int)).toNat≤j.length) (h12:(if(↑(0+c.length):Int)<(2:Int) then(↑(0+c.length):Int) else(2:Int)).toNat≤((2:Int)-0).toNat) (h13:d<0) (h14:pNu (-(tL c (2:Int) j).getD 0 0) (-(tL c (2:Int) j).getD 1 0) 0 0 (-d)):FC Tryz.prog 134 [reA (.lst .whole [a,b,f]),.lst .whole c,W d] (loA (-(tL c (2:Int) j).getD 0 0) (-(tL c (2:Int) j).getD 1 0) 0 0 (-d)):=eZ okQ 60 [1] (.i h1<|.c (congrArg Bool.not (zbz h2))<|.t h3<|.t h4<|.i h5<|.v [0,1,5,6,7,8] [3,2] hL1<|.t h7<|.t h8<|.t h9<|.t h10<|.t h11<|.t h12<|.t h13<|.c h14<|.o<|.e) [1,2,3,4,0,5,0,6,0,7,8,9,10,11,12,13,0,0,0,0,0,0,0,0,0,0,0,0,0,0,0,0,0,0,0,0,0,0,0,0,0,0,0,0,0,0,0,0,0,0,0,14]
theorem rdb_1 (a b g:Int) (c:List Int) (d j:Int) (l:List Int) (h1:r64 ((2:Int))) (h2:c≠[]) (h3:(0+c.length)*32≤140737488355328) (h4:0+c.length≤4611686018427387904) (h5:r64 ((↑(0+c.length):Int)-1)) (hL1:rdb_L1 (zkN ([a,b,g]) (0+c.length) ((2:Int)) d ((↑(0+c.length):Int)-1) (List.take 0 []++c)) (Ex.exit 0,(ziJ ([a,b,g]) (0+c.length) ((2:Int)) d j l))) (h7:0≤(2:Int)) (h8:(2:Int)≤4) (h9:0≤if(↑(0+c.length):Int)<(2:Int) then(↑(0+c.length):Int) else(2:Int)) (h10:(if(↑(0+c.length):Int)<(2:Int) then(↑(0+c.length):Int) else(2:Int))≤(↑(0+c.length):Int)) (h11:(if(↑(0+c.length):Int)<(2:Int) then(↑(0+c.length):Int) else(2:Int)).toNat≤l.length) (h12:(if(↑(0+c.length):Int)<(2:Int) then(↑(0+c.length):Int) else(2:Int)).toNat≤((2:Int)-0).toNat) (h13:¬(d<0)) (h14:pNu ((tL c (2:Int) l).getD 0 0) ((tL c (2:Int) l).getD 1 0) 0 0 d):FC Tryz.prog 134 [reA (.lst .whole [a,b,g]),.lst .whole c,W d] (loA ((tL c (2:Int) l).getD 0 0) ((tL c (2:Int) l).getD 1 0) 0 0 d):=eZ okQ 60 [0] (.i h1<|.c (congrArg Bool.not (zbz h2))<|.t h3<|.t h4<|.i h5<|.v [0,1,5,6,7,8] [3,2] hL1<|.t h7<|.t h8<|.t h9<|.t h10<|.t h11<|.t h12<|.f h13<|.c h14<|.e) [1,2,3,4,0,5,0,6,0,7,8,9,10,11,12,13,0,0,0,0,0,14]
abbrev rdc_L1 (s:St) (r:Ex × St):Prop:=Loops 4 Tryz.prog (lZ Tryz.prog 134 0) s r
abbrev zkO (a:List Int) (b:Nat) (c d e:Int) (f:List Int):St:=⟨sp 89 [(0,.pd [aJ,aJ,aJ,aJ,.lst EK.whole a,aJ,aJ,aJ,aJ,aJ,aJ,aJ] 0),(1,.own 3 0 b 2),(5,.ref 0 0),(6,.ref 1 0),(7,aI c),(8,aI e)],[.flat [aD d,.wd d] true,.flat [aF,aN,aF,aN,aF,aN,aF,aN,aF,aN] true,.dead,.lst EK.whole f true],[3,2]⟩
abbrev ziK (a:List Int) (b:Nat) (c d e:Int) (f:List Int):St:=⟨sp 89 [(0,.pd [aJ,aJ,aJ,aJ,.lst EK.whole a,aJ,aJ,aJ,aJ,aJ,aJ,aJ] 0),(1,.own 3 0 b 2),(5,.ref 0 0),(6,.ref 1 0),(7,aI c),(8,aI e)],[.flat [aD d,.wd d] true,.flat [aF,aN,aF,aN,aF,aN,aF,aN,aF,aN] true,.dead,.lst EK.whole f true],[3,2]⟩
theorem rdc_0 (a b f g:Int) (c:List Int) (d j:Int) (l:List Int) (h1:r64 ((3:Int))) (h2:c≠[]) (h3:(0+c.length)*32≤140737488355328) (h4:0+c.length≤4611686018427387904) (h5:r64 ((↑(0+c.length):Int)-1)) (hL1:rdc_L1 (zkO ([a,b,f,g]) (0+c.length) ((3:Int)) d ((↑(0+c.length):Int)-1) (List.take 0 []++c)) (Ex.exit 0,(ziK ([a,b,f,g]) (0+c.length) ((3:Int)) d j l))) (h7:0≤(3:Int)) (h8:(3:Int)≤4) (h9:0≤if(↑(0+c.length):Int)<(3:Int) then(↑(0+c.length):Int) else(3:Int)) (h10:(if(↑(0+c.length):Int)<(3:Int) then(↑(0+c.length):Int) else(3:Int))≤(↑(0+c.length):Int)) (h11:(if(↑(0+c.length):Int)<(3:Int) then(↑(0+c.length):Int) else(3:Int)).toNat≤l.length) (h12:(if(↑(0+c.length):Int)<(3:Int) then(↑(0+c.length):Int) else(3:Int)).toNat≤((3:Int)-0).toNat) (h13:d<0) (h14:pNu (-(tL c (3:Int) l).getD 0 0) (-(tL c (3:Int) l).getD 1 0) (-(tL c (3:Int) l).getD 2 0) 0 (-d)):FC Tryz.prog 134 [reA (.lst .whole [a,b,f,g]),.lst .whole c,W d] (loA (-(tL c (3:Int) l).getD 0 0) (-(tL c (3:Int) l).getD 1 0) (-(tL c (3:Int) l).getD 2 0) 0 (-d)):=eZ okQ 60 [1] (.i h1<|.c (congrArg Bool.not (zbz h2))<|.t h3<|.t h4<|.i h5<|.v [0,1,5,6,7,8] [3,2] hL1<|.t h7<|.t h8<|.t h9<|.t h10<|.t h11<|.t h12<|.t h13<|.c h14<|.o<|.e) [1,2,3,4,0,5,0,6,0,7,8,9,10,11,12,13,0,0,0,0,0,0,0,0,0,0,0,0,0,0,0,0,0,0,0,0,0,0,0,0,0,0,0,0,0,0,0,0,0,0,0,14]
theorem rdc_1 (a b g j:Int) (c:List Int) (d l:Int) (m:List Int) (h1:r64 ((3:Int))) (h2:c≠[]) (h3:(0+c.length)*32≤140737488355328) (h4:0+c.length≤4611686018427387904) (h5:r64 ((↑(0+c.length):Int)-1)) (hL1:rdc_L1 (zkO ([a,b,g,j]) (0+c.length) ((3:Int)) d ((↑(0+c.length):Int)-1) (List.take 0 []++c)) (Ex.exit 0,(ziK ([a,b,g,j]) (0+c.length) ((3:Int)) d l m))) (h7:0≤(3:Int)) (h8:(3:Int)≤4) (h9:0≤if(↑(0+c.length):Int)<(3:Int) then(↑(0+c.length):Int) else(3:Int)) (h10:(if(↑(0+c.length):Int)<(3:Int) then(↑(0+c.length):Int) else(3:Int))≤(↑(0+c.length):Int)) (h11:(if(↑(0+c.length):Int)<(3:Int) then(↑(0+c.length):Int) else(3:Int)).toNat≤m.length) (h12:(if(↑(0+c.length):Int)<(3:Int) then(↑(0+c.length):Int) else(3:Int)).toNat≤((3:Int)-0).toNat) (h13:¬(d<0)) (h14:pNu ((tL c (3:Int) m).getD 0 0) ((tL c (3:Int) m).getD 1 0) ((tL c (3:Int) m).getD 2 0) 0 d):FC Tryz.prog 134 [reA (.lst .whole [a,b,g,j]),.lst .whole c,W d] (loA ((tL c (3:Int) m).getD 0 0) ((tL c (3:Int) m).getD 1 0) ((tL c (3:Int) m).getD 2 0) 0 d):=eZ okQ 60 [0] (.i h1<|.c (congrArg Bool.not (zbz h2))<|.t h3<|.t h4<|.i h5<|.v [0,1,5,6,7,8] [3,2] hL1<|.t h7<|.t h8<|.t h9<|.t h10<|.t h11<|.t h12<|.f h13<|.c h14<|.e) [1,2,3,4,0,5,0,6,0,7,8,9,10,11,12,13,0,0,0,0,0,14]
abbrev rdd_L1 (s:St) (r:Ex × St):Prop:=Loops 4 Tryz.prog (lZ Tryz.prog 134 0) s r
abbrev zkP (a:List Int) (b:Nat) (c d e:Int) (f:List Int):St:=⟨sp 89 [(0,.pd [aJ,aJ,aJ,aJ,.lst EK.whole a,aJ,aJ,aJ,aJ,aJ,aJ,aJ] 0),(1,.own 3 0 b 2),(5,.ref 0 0),(6,.ref 1 0),(7,aI c),(8,aI e)],[.flat [aD d,.wd d] true,.flat [aF,aN,aF,aN,aF,aN,aF,aN,aF,aN] true,.dead,.lst EK.whole f true],[3,2]⟩
abbrev ziL (a:List Int) (b:Nat) (c d e:Int) (f:List Int):St:=⟨sp 89 [(0,.pd [aJ,aJ,aJ,aJ,.lst EK.whole a,aJ,aJ,aJ,aJ,aJ,aJ,aJ] 0),(1,.own 3 0 b 2),(5,.ref 0 0),(6,.ref 1 0),(7,aI c),(8,aI e)],[.flat [aD d,.wd d] true,.flat [aF,aN,aF,aN,aF,aN,aF,aN,aF,aN] true,.dead,.lst EK.whole f true],[3,2]⟩
theorem rdd_0 (a b f g j:Int) (c:List Int) (d l:Int) (m:List Int) (h1:r64 ((4:Int))) (h2:c≠[]) (h3:(0+c.length)*32≤140737488355328) (h4:0+c.length≤4611686018427387904) (h5:r64 ((↑(0+c.length):Int)-1)) (hL1:rdd_L1 (zkP ([a,b,f,g,j]) (0+c.length) ((4:Int)) d ((↑(0+c.length):Int)-1) (List.take 0 []++c)) (Ex.exit 0,(ziL ([a,b,f,g,j]) (0+c.length) ((4:Int)) d l m))) (h7:0≤(4:Int)) (h8:(4:Int)≤4) (h9:0≤if(↑(0+c.length):Int)<(4:Int) then(↑(0+c.length):Int) else(4:Int)) (h10:(if(↑(0+c.length):Int)<(4:Int) then(↑(0+c.length):Int) else(4:Int))≤(↑(0+c.length):Int)) (h11:(if(↑(0+c.length):Int)<(4:Int) then(↑(0+c.length):Int) else(4:Int)).toNat≤m.length) (h12:(if(↑(0+c.length):Int)<(4:Int) then(↑(0+c.length):Int) else(4:Int)).toNat≤((4:Int)-0).toNat) (h13:d<0) (h14:pNu (-(tL c (4:Int) m).getD 0 0) (-(tL c (4:Int) m).getD 1 0) (-(tL c (4:Int) m).getD 2 0) (-(tL c (4:Int) m).getD 3 0) (-d)):FC Tryz.prog 134 [reA (.lst .whole [a,b,f,g,j]),.lst .whole c,W d] (loA (-(tL c (4:Int) m).getD 0 0) (-(tL c (4:Int) m).getD 1 0) (-(tL c (4:Int) m).getD 2 0) (-(tL c (4:Int) m).getD 3 0) (-d)):=eZ okQ 60 [1] (.i h1<|.c (congrArg Bool.not (zbz h2))<|.t h3<|.t h4<|.i h5<|.v [0,1,5,6,7,8] [3,2] hL1<|.t h7<|.t h8<|.t h9<|.t h10<|.t h11<|.t h12<|.t h13<|.c h14<|.o<|.e) [1,2,3,4,0,5,0,6,0,7,8,9,10,11,12,13,0,0,0,0,0,0,0,0,0,0,0,0,0,0,0,0,0,0,0,0,0,0,0,0,0,0,0,0,0,0,0,0,0,0,0,14]
theorem rdd_1 (a b g j l:Int) (c:List Int) (d m:Int) (n:List Int) (h1:r64 ((4:Int))) (h2:c≠[]) (h3:(0+c.length)*32≤140737488355328) (h4:0+c.length≤4611686018427387904) (h5:r64 ((↑(0+c.length):Int)-1)) (hL1:rdd_L1 (zkP ([a,b,g,j,l]) (0+c.length) ((4:Int)) d ((↑(0+c.length):Int)-1) (List.take 0 []++c)) (Ex.exit 0,(ziL ([a,b,g,j,l]) (0+c.length) ((4:Int)) d m n))) (h7:0≤(4:Int)) (h8:(4:Int)≤4) (h9:0≤if(↑(0+c.length):Int)<(4:Int) then(↑(0+c.length):Int) else(4:Int)) (h10:(if(↑(0+c.length):Int)<(4:Int) then(↑(0+c.length):Int) else(4:Int))≤(↑(0+c.length):Int)) (h11:(if(↑(0+c.length):Int)<(4:Int) then(↑(0+c.length):Int) else(4:Int)).toNat≤n.length) (h12:(if(↑(0+c.length):Int)<(4:Int) then(↑(0+c.length):Int) else(4:Int)).toNat≤((4:Int)-0).toNat) (h13:¬(d<0)) (h14:pNu ((tL c (4:Int) n).getD 0 0) ((tL c (4:Int) n).getD 1 0) ((tL c (4:Int) n).getD 2 0) ((tL c (4:Int) n).getD 3 0) d):FC Tryz.prog 134 [reA (.lst .whole [a,b,g,j,l]),.lst .whole c,W d] (loA ((tL c (4:Int) n).getD 0 0) ((tL c (4:Int) n).getD 1 0) ((tL c (4:Int) n).getD 2 0) ((tL c (4:Int) n).getD 3 0) d):=eZ okQ 60 [0] (.i h1<|.c (congrArg Bool.not (zbz h2))<|.t h3<|.t h4<|.i h5<|.v [0,1,5,6,7,8] [3,2] hL1<|.t h7<|.t h8<|.t h9<|.t h10<|.t h11<|.t h12<|.f h13<|.c h14<|.e) [1,2,3,4,0,5,0,6,0,7,8,9,10,11,12,13,0,0,0,0,0,14]
end
open Go.Kf
def zim (q c:List Int) (i n:Nat):Nat→List Int
 | 0=>c
 | k+1=>(zim q c i n k).set (i-n+k) ((zim q c i n k).getD (i-n+k) 0 + -((zim q c i n k).getD i 0*q.getD k 0))
theorem zfu (q c:List Int) (i n:Nat):∀k,(zim q c i n k).length=c.length
 | 0=>rfl
 | k+1=>by simp [zim,zfu q c i n k]
theorem zft {q c:List Int} {i n:Nat} (hn:n≤i) (hi:i<c.length):∀k,k≤n→∀j,(zim q c i n k).getD j 0=if i-n≤j∧j<i-n+k then c.getD j 0 + -(c.getD i 0*q.getD (j-(i-n)) 0) else c.getD j 0
 | 0,_,j=>by
  rw [if_neg (by omega)];rfl
 | k+1,hk,j=>by
  have ih:=zft (q:=q) hn hi k (by omega)
  have hl:=zfu q c i n k
  unfold zim
  grind
def ouR (q:List Int) (n:Nat) (c:List Int):Nat→List Int
 | 0=>c
 | s+1=>zim q (ouR q n c s) (c.length-1-s) n n
theorem zeg (q:List Int) (n:Nat) (c:List Int):∀s,(ouR q n c s).length=c.length
 | 0=>rfl
 | s+1=>by unfold ouR;rw [zfu,zeg q n c s]
def zat (q:List Int) (n:Nat) (c:List Int):List Int:=(ouR q n c (c.length-n)).take n
theorem zfR (q:List Int) (n:Nat) (c:List Int):(zat q n c).length≤n:=by unfold zat;rw [List.length_take];omega
theorem ziB {q:List Int} {n A:Nat} {c:List Int} (hq:∀j,Sz 1 (q.getD j 0)) (hc:∀j,Sz A (c.getD j 0)):∀s,s+n≤c.length→∀j,Sz (A+2*s) ((ouR q n c s).getD j 0)
 | 0,_,j=>hc j
 | s+1,hs,j=>by
  have ih:=ziB (n:=n) (c:=c) hq hc s (by omega)
  have hl:=zeg q n c s
  unfold ouR
  rw [zft (by omega) (by omega) n (Nat.le_refl _)]
  split
  ·exact Sz.add (ih _) ((ih _).mul (hq _)).neg (by omega) (by omega)
  ·exact(ih j).mono (by omega)
theorem zo7:∀(q:List Int) (t:Int) (l:List Int) (j:Nat),(zipS q t l).getD j 0=if j<q.length∧j<l.length then l.getD j 0 + -(t*q.getD j 0) else l.getD j 0
 | [],t,l,j=>by
  rw [if_neg (by simp)]
  cases l<;>rfl
 | _ :: _,_,[],j=>by rw [if_neg (by simp)];rfl
 | q :: qs,t,x :: l,0=>by rw [if_pos (by simp)];rfl
 | q :: qs,t,x :: l,j+1=>by
  have:=zo7 qs t l j
  simp only [zipS,List.getD_cons_succ,List.length_cons,Nat.add_lt_add_iff_right]
  exact this
theorem zoG:∀(q:List Int) (t:Int) (k:Nat) (l:List Int) (j:Nat),(red1 q t k l).getD j 0=if k≤j∧j<k+q.length∧j<l.length then l.getD j 0 + -(t*q.getD (j-k) 0) else l.getD j 0
 | q,t,0,l,j=>by
  have:=zo7 q t l j
  show(zipS q t l).getD j 0=_
  simp_all
 | q,t,k+1,[],j=>by rw [if_neg (by simp)];rfl
 | q,t,k+1,x :: l,0=>by rw [if_neg (by omega)];rfl
 | q,t,k+1,x :: l,j+1=>by
  have:=zoG q t k l j
  show(red1 q t k l).getD j 0=_
  grind
theorem ext_getD {a b:List Int} (hl:a.length=b.length) (h:∀j,a.getD j 0=b.getD j 0):a=b:=by
 apply List.ext_getElem hl
 intro i h1 h2
 have:=h i
 simp_all
theorem zbK (l:List Int) (n j:Nat):(l.take n).getD j 0=if j<n then l.getD j 0 else 0:=by
 grind
theorem inR1_ev {q C:List Int} {i n:Nat} (h1:1≤n) (hq:n≤q.length) (hn:n≤i) (hi:i<C.length):ev n (pV (q.take n)) (qL ((zim q C i n n).take i))=ev n (pV (q.take n)) (qL (C.take (i+1))):=by
 have hl:=zfu q C i n n
 have hqn:(q.take n).length=n:=by rw [List.length_take];omega
 have e:(zim q C i n n).take i=red1 (q.take n) (C.getD i 0) (i-n) (C.take i):=by
  refine ext_getD ?_ fun j=>?_
  ·rw [ziN,List.length_take,List.length_take,hl]
  ·rw [zbK,zoG,hqn,List.length_take,zbK,zft hn hi n (Nat.le_refl _)]
   grind
 have hs:=ev_step (q:=q.take n) (by omega) (k:=i-n) (c:=C.take (i+1)) (by grind)
 rw [hqn] at hs
 have d1:(C.take (i+1)).dropLast=C.take i:=by
  rw [List.dropLast_eq_take,List.length_take,List.take_take];congr 1;omega
 grind
theorem ouR_ev {q c:List Int} {n:Nat} (h1:1≤n) (hq:n≤q.length):∀s,s+n≤c.length→ev n (pV (q.take n)) (qL ((ouR q n c s).take (c.length-s)))=ev n (pV (q.take n)) (qL c)
 | 0,_=>by rw [Nat.sub_zero];show ev _ _ (qL (c.take c.length))=_;rw [List.take_length]
 | s+1,hs=>by
  have hl:=zeg q n c s
  have ih:=ouR_ev (c:=c) h1 hq s (by omega)
  have:=inR1_ev (q:=q) (C:=ouR q n c s) (i:=c.length-1-s) h1 hq (by omega) (by omega)
  rw [show c.length-(s+1)=c.length-1-s by omega]
  unfold ouR
  grind
theorem redP_ev {q c:List Int} {n:Nat} (h1:1≤n) (hq:n≤q.length):ev n (pV (q.take n)) (qL (zat q n c))=ev n (pV (q.take n)) (qL c):=by
 unfold zat
 by_cases h:n≤c.length
 ·have:=ouR_ev (c:=c) h1 hq (c.length-n) (by omega)
  grind
 ·rw [show c.length-n=0 by omega,show(ouR q n c 0).take n=c from List.take_of_length_le (by show c.length≤n;omega)]
theorem rda_in {p:List Int} {n i A:Nat} {d:Int} {C:List Int} (hn:n≤i) (hi:i<C.length) (hp:n<p.length) (hm:C.length≤1000) (hA:A≤40000) (hC:∀j,Sz A (C.getD j 0)) (hq:∀j,Sz 1 (p.getD j 0)):∀(m k:Nat),k+m=n →
 zmu (zfI p C.length n i d k (zim p C i n k)) (Ex.exit 2,zfJ p C.length n i d n (zim p C i n n))
 | 0,k,hk=>by
  obtain rfl:k=n:=by omega
  exact zqt p C.length k i d k _ (by omega)
 | m + 1,k,hk=>by
  have ih:=rda_in (d:=d) hn hi hp hm hA hC hq m (k+1) (by omega)
  have e1:Int.toNat ((i:Int)-(n:Int)+(k:Int))=i-n+k:=by omega
  have e2:Int.toNat (i:Int)=i:=rfl
  have e3:Int.toNat (k:Int)=k:=rfl
  have hl:=zfu p C i n k
  have g:=zft (q:=p) hn hi k (by omega)
  have gi:(zim p C i n k).getD i 0=C.getD i 0:=by rw [g,if_neg (by omega)]
  have gk:(zim p C i n k).getD (i-n+k) 0=C.getD (i-n+k) 0:=by rw [g,if_neg (by omega)]
  have fz:∀ {z:Int} {j:Nat},Sz j z→j≤1048576→zaP z:=fun h h2=>vZ h h2
  have go:=@zqs p C.length n i d k (zim p C i n k) (by omega) (by omega) (by omega) (by omega) (by omega) (by omega) (by omega) (by omega) (by omega) (by rw [e1,hl];omega) (by rw [e2,hl];omega) rfl rfl
   (by rw [e2,e3];show pDD ((zim p C i n k).getD i 0) (p.getD k 0);rw [gi];exact ⟨fz (hC i) (by omega),fz (hq k) (by omega)⟩) rfl
   (by
    rw [e1,e2,e3]
    show pDD ((zim p C i n k).getD (i-n+k) 0) (-((zim p C i n k).getD i 0*p.getD k 0))
    rw [gi,gk]
    exact ⟨fz (hC _) (by omega),fz ((hC i).mul (hq k)).neg (by omega)⟩) (by omega) (Ex.exit 2,zfJ p C.length n i d n (zim p C i n n))
  rw [e1,e2,e3] at go
  exact go ih
theorem ziI {p:List Int} {n A:Nat} {d:Int} {c:List Int} (hp:n<p.length) (hm:c.length≤1000) (hA:A+2*c.length≤40000) (hC:∀j,Sz A (c.getD j 0)) (hq:∀j,Sz 1 (p.getD j 0)):∀(m s:Nat),s+m=c.length-n→n≤c.length →
 ∃t,ziH (zdJ p c.length n d ((c.length:Int)-1-(s:Int)) (ouR p n c s)) (Ex.exit 0,zek p c.length n d t (ouR p n c (c.length-n)))
 | 0,s,hs,hn=>by
  obtain rfl:s=c.length-n:=by omega
  exact ⟨_,zc8 p c.length n d _ _ (by omega)⟩
 | m+1,s,hs,hn=>by
  obtain ⟨t,ih⟩:=ziI (d:=d) hp hm hA hC hq m (s+1) (by omega) hn
  have hl:=zeg p n c s
  have e:(c.length:Int)-1-(s:Int)=((c.length-1-s:Nat):Int):=by omega
  have K:=rda_in (p:=p) (n:=n) (i:=c.length-1-s) (A:=A+2*s) (d:=d) (C:=ouR p n c s) (by omega) (by omega) hp (by omega) (by omega) (ziB hq hC s (by omega)) hq n 0 (by omega)
  rw [hl] at K
  refine ⟨t,?_⟩
  rw [e]
  refine zqu p c.length n d ((c.length-1-s:Nat):Int) (ouR p n c s) n (ouR p n c (s+1)) (by omega) K (by omega) ?_
  grind
def sgD (d x:Int):Int:=if d<0 then -x else x
def nuF (c:List Int) (d:Int):AV:=nuA (loC c d 0) (loC c d 1) (loC c d 2) (loC c d 3) (loD c d)
theorem gc5_gL (a b c e d:Int):gc5 a b c e d=(gL d.natAbs [a,b,c,e]:Int):=by
 rfl
theorem gc5_neg (a b c e d:Int):gc5 (-a) (-b) (-c) (-e) (-d)=gc5 a b c e d:=by
 unfold gc5;simp [Int.gcd]
theorem nuA_congr {a b c e d a' b' c' e' d':Int} (h1:a=a') (h2:b=b') (h3:c=c') (h4:e=e') (h5:d=d'):nuA a b c e d=nuA a' b' c' e' d':=by rw [h1,h2,h3,h4,h5]
theorem zds {a b c e d:Int}:loA (sgD d a) (sgD d b) (sgD d c) (sgD d e) (sgD d d)=nuF [a,b,c,e] d:=by
 obtain ⟨hd,hc⟩:=zfa [a,b,c,e] d
 have h0:=hc 0;have h1:=hc 1;have h2:=hc 2;have h3:=hc 3
 unfold loA nuF loC loD
 by_cases h:d<0
 ·have s:∀x,sgD d x = -x:=fun x=>if_pos h
  have g:dvs [a,b,c,e] d = -(gc5 a b c e d):=by rw [gc5_gL];unfold dvs;rw [if_pos h]
  rw [g] at hd h0 h1 h2 h3 ⊢
  simp only [s,gc5_neg]
  have key:∀x:Int,-(gc5 a b c e d)∣x→-x / gc5 a b c e d=x / -(gc5 a b c e d):=fun x hx=>by
   rw [Int.ediv_neg,Int.neg_ediv_of_dvd (Int.neg_dvd.1 hx)]
  simp_all
 ·have s:∀x,sgD d x=x:=fun x=>if_neg h
  have g:dvs [a,b,c,e] d=gc5 a b c e d:=by rw [gc5_gL];unfold dvs;rw [if_neg h]
  simp_all
theorem zec {c c':List Int} {d:Int} (h0:d≠0) (h:∀i,c.getD i 0=c'.getD i 0):nuF c d=nuF c' d:=by
 obtain ⟨h1,h2⟩:=lo_eq (c:=c) (c':=c') h0 h0 (fun i=>by rw [h i])
 unfold nuF
 simp_all
theorem Le.zlW_lst (l:List Int):Le (.zl .W l) (.lst .whole l):=fun E v h=>by
 cases h with
 | zl h=>exact .lst (by rw [zex];exact h)
def znG (p c:List Int) (d:Int):Prop:=(2≤p.length∧p.length≤5∧∀x∈p,x.natAbs≤1000)∧c≠[]∧c.length≤100∧(∀j,Sz 20000 (c.getD j 0))∧d≠0∧Sz 20000 d
theorem tkMin {n m:Nat} {r:List Int} {x:Int} (hx:x=(n:Int)) (hr:r.length=m):List.take (Int.toNat (if(↑(0+m):Int)<x then(↑(0+m):Int) else x)) r=r.take n:=by
 subst hx
 split
 ·rw [show Int.toNat ((0+m:Nat):Int)=m by omega,List.take_of_length_le (by omega),List.take_of_length_le (by omega)]
 ·rfl
theorem red_a (p0 p1:Int) (c:List Int) (d:Int) (h:znG [p0,p1] c d):FC Tryz.prog 134 [reA (.lst .whole [p0,p1]),.lst .whole c,W d] (nuF (zat [p0,p1] 1 c) d):=by
 obtain ⟨⟨_,_,ha⟩,hne,hl,hC,hd,hsd⟩:=h
 have hq:∀j,Sz 1 (([p0,p1]).getD j 0):=fun j=>by
  rw [List.getD_eq_getElem?_getD]
  by_cases hj:j<([p0,p1]).length
  ·rw [List.getElem?_eq_getElem hj];have:=ha _ (List.getElem_mem hj);exact Sz.lit (by grind) (by decide)
  ·rw [List.getElem?_eq_none (by omega)];exact Sz.zero
 have hN:((List.length [p0,p1]:Int)-1)=((1:Nat):Int):=by simp
 have hlr:∀s,(ouR [p0,p1] 1 c s).length=c.length:=zeg _ _ _
 have L:∃t,ziH (zdJ [p0,p1] (0+c.length) ((List.length [p0,p1]:Int)-1) d ((↑(0+c.length):Int)-1) (List.take 0 []++c)) (Ex.exit 0,zek [p0,p1] (0+c.length) ((List.length [p0,p1]:Int)-1) d t (ouR [p0,p1] 1 c (c.length-1))):=by
  rw [Nat.zero_add,show List.take 0 []++c=c by simp]
  by_cases hn:1≤c.length
  ·obtain ⟨t,k⟩:=ziI (p:=[p0,p1]) (n:=1) (A:=20000) (d:=d) (c:=c) (by simp) (by omega) (by omega) hC hq (c.length-1) 0 (by omega) hn
   rw [show(c.length:Int)-1-((0:Nat):Int)=(c.length:Int)-1 by omega] at k
   exact ⟨t,k⟩
  simp_all
 obtain ⟨t,k⟩:=L
 have hz:∀j,Sz 50000 ((zat [p0,p1] 1 c).getD j 0):=fun j=>by
  unfold zat
  rw [zbK]
  split
  ·by_cases hn:1≤c.length
   ·exact(ziB hq hC (c.length-1) (by omega) j).mono (by omega)
   simp_all
  ·exact Sz.zero
 have hred:∀x:Int,x=((1:Nat):Int)→tL c x (ouR [p0,p1] 1 c (c.length-1))=zat [p0,p1] 1 c:=fun x hx=>tkMin hx (hlr _)
 have e5:nuF (zat [p0,p1] 1 c) d=nuF [(zat [p0,p1] 1 c).getD 0 0,0,0,0] d:=zec hd fun i=>by
  grind
 rw [e5,← zds]
 by_cases h0:d<0
 ·have s:∀x,sgD d x = -x:=fun x=>if_pos h0
  simp only [s,Int.neg_zero]
  have:=rda_0 p0 p1 c d t (ouR [p0,p1] 1 c (c.length-1)) (by omega) hne (by omega) (by omega) (by omega) k (by omega) (by omega) (by split<;>omega) (by split<;>omega) (by rw [hlr];split<;>omega) (by split<;>omega) h0 (by rw [hred (1:Int) rfl];exact ⟨by omega,(hz 0).neg,Sz.zero,Sz.zero,Sz.zero,hsd.neg.mono (by omega)⟩)
  simp_all
 ·have s:∀x,sgD d x=x:=fun x=>if_neg h0
  simp only [s]
  have:=rda_1 p0 p1 c d t (ouR [p0,p1] 1 c (c.length-1)) (by omega) hne (by omega) (by omega) (by omega) k (by omega) (by omega) (by split<;>omega) (by split<;>omega) (by rw [hlr];split<;>omega) (by split<;>omega) h0 (by rw [hred (1:Int) rfl];exact ⟨hd,hz 0,Sz.zero,Sz.zero,Sz.zero,hsd.mono (by omega)⟩)
  simp_all
theorem red_b (p0 p1 p2:Int) (c:List Int) (d:Int) (h:znG [p0,p1,p2] c d):FC Tryz.prog 134 [reA (.lst .whole [p0,p1,p2]),.lst .whole c,W d] (nuF (zat [p0,p1,p2] 2 c) d):=by
 obtain ⟨⟨_,_,ha⟩,hne,hl,hC,hd,hsd⟩:=h
 have hq:∀j,Sz 1 (([p0,p1,p2]).getD j 0):=fun j=>by
  rw [List.getD_eq_getElem?_getD]
  by_cases hj:j<([p0,p1,p2]).length
  ·rw [List.getElem?_eq_getElem hj];have:=ha _ (List.getElem_mem hj);exact Sz.lit (by grind) (by decide)
  ·rw [List.getElem?_eq_none (by omega)];exact Sz.zero
 have hN:((List.length [p0,p1,p2]:Int)-1)=((2:Nat):Int):=by simp
 have hlr:∀s,(ouR [p0,p1,p2] 2 c s).length=c.length:=zeg _ _ _
 have L:∃t,rdb_L1 (zkN [p0,p1,p2] (0+c.length) ((List.length [p0,p1,p2]:Int)-1) d ((↑(0+c.length):Int)-1) (List.take 0 []++c)) (Ex.exit 0,ziJ [p0,p1,p2] (0+c.length) ((List.length [p0,p1,p2]:Int)-1) d t (ouR [p0,p1,p2] 2 c (c.length-2))):=by
  rw [Nat.zero_add,show List.take 0 []++c=c by simp]
  by_cases hn:2≤c.length
  ·obtain ⟨t,k⟩:=ziI (p:=[p0,p1,p2]) (n:=2) (A:=20000) (d:=d) (c:=c) (by simp) (by omega) (by omega) hC hq (c.length-2) 0 (by omega) hn
   rw [show(c.length:Int)-1-((0:Nat):Int)=(c.length:Int)-1 by omega] at k
   exact ⟨t,k⟩
  ·rw [show c.length-2=0 by omega]
   exact ⟨_,zc8 [p0,p1,p2] c.length _ d _ c (by omega)⟩
 obtain ⟨t,k⟩:=L
 have hz:∀j,Sz 50000 ((zat [p0,p1,p2] 2 c).getD j 0):=fun j=>by
  unfold zat
  rw [zbK]
  split
  ·by_cases hn:2≤c.length
   ·exact(ziB hq hC (c.length-2) (by omega) j).mono (by omega)
   ·rw [show c.length-2=0 by omega];exact(hC j).mono (by omega)
  ·exact Sz.zero
 have hred:∀x:Int,x=((2:Nat):Int)→tL c x (ouR [p0,p1,p2] 2 c (c.length-2))=zat [p0,p1,p2] 2 c:=fun x hx=>tkMin hx (hlr _)
 have e5:nuF (zat [p0,p1,p2] 2 c) d=nuF [(zat [p0,p1,p2] 2 c).getD 0 0,(zat [p0,p1,p2] 2 c).getD 1 0,0,0] d:=zec hd fun i=>by
  have hlen:=zfR [p0,p1,p2] 2 c
  match i with
  | 0=>rfl
  | 1=>rfl
  | 2=>simp_all
  | 3=>grind
  | i+4=>grind
 rw [e5,← zds]
 by_cases h0:d<0
 ·have s:∀x,sgD d x = -x:=fun x=>if_pos h0
  simp only [s,Int.neg_zero]
  have:=rdb_0 p0 p1 p2 c d t (ouR [p0,p1,p2] 2 c (c.length-2)) (by omega) hne (by omega) (by omega) (by omega) k (by omega) (by omega) (by split<;>omega) (by split<;>omega) (by rw [hlr];split<;>omega) (by split<;>omega) h0 (by rw [hred (2:Int) rfl];exact ⟨by omega,(hz 0).neg,(hz 1).neg,Sz.zero,Sz.zero,hsd.neg.mono (by omega)⟩)
  simp_all
 ·have s:∀x,sgD d x=x:=fun x=>if_neg h0
  simp only [s]
  have:=rdb_1 p0 p1 p2 c d t (ouR [p0,p1,p2] 2 c (c.length-2)) (by omega) hne (by omega) (by omega) (by omega) k (by omega) (by omega) (by split<;>omega) (by split<;>omega) (by rw [hlr];split<;>omega) (by split<;>omega) h0 (by rw [hred (2:Int) rfl];exact ⟨hd,hz 0,hz 1,Sz.zero,Sz.zero,hsd.mono (by omega)⟩)
  simp_all
theorem red_c (p0 p1 p2 p3:Int) (c:List Int) (d:Int) (h:znG [p0,p1,p2,p3] c d):FC Tryz.prog 134 [reA (.lst .whole [p0,p1,p2,p3]),.lst .whole c,W d] (nuF (zat [p0,p1,p2,p3] 3 c) d):=by
 obtain ⟨⟨_,_,ha⟩,hne,hl,hC,hd,hsd⟩:=h
 have hq:∀j,Sz 1 (([p0,p1,p2,p3]).getD j 0):=fun j=>by
  rw [List.getD_eq_getElem?_getD]
  by_cases hj:j<([p0,p1,p2,p3]).length
  ·rw [List.getElem?_eq_getElem hj];have:=ha _ (List.getElem_mem hj);exact Sz.lit (by grind) (by decide)
  ·rw [List.getElem?_eq_none (by omega)];exact Sz.zero
 have hN:((List.length [p0,p1,p2,p3]:Int)-1)=((3:Nat):Int):=by simp
 have hlr:∀s,(ouR [p0,p1,p2,p3] 3 c s).length=c.length:=zeg _ _ _
 have L:∃t,rdc_L1 (zkO [p0,p1,p2,p3] (0+c.length) ((List.length [p0,p1,p2,p3]:Int)-1) d ((↑(0+c.length):Int)-1) (List.take 0 []++c)) (Ex.exit 0,ziK [p0,p1,p2,p3] (0+c.length) ((List.length [p0,p1,p2,p3]:Int)-1) d t (ouR [p0,p1,p2,p3] 3 c (c.length-3))):=by
  rw [Nat.zero_add,show List.take 0 []++c=c by simp]
  by_cases hn:3≤c.length
  ·obtain ⟨t,k⟩:=ziI (p:=[p0,p1,p2,p3]) (n:=3) (A:=20000) (d:=d) (c:=c) (by simp) (by omega) (by omega) hC hq (c.length-3) 0 (by omega) hn
   rw [show(c.length:Int)-1-((0:Nat):Int)=(c.length:Int)-1 by omega] at k
   exact ⟨t,k⟩
  ·rw [show c.length-3=0 by omega]
   exact ⟨_,zc8 [p0,p1,p2,p3] c.length _ d _ c (by omega)⟩
 obtain ⟨t,k⟩:=L
 have hz:∀j,Sz 50000 ((zat [p0,p1,p2,p3] 3 c).getD j 0):=fun j=>by
  unfold zat
  rw [zbK]
  split
  ·by_cases hn:3≤c.length
   ·exact(ziB hq hC (c.length-3) (by omega) j).mono (by omega)
   ·rw [show c.length-3=0 by omega];exact(hC j).mono (by omega)
  ·exact Sz.zero
 have hred:∀x:Int,x=((3:Nat):Int)→tL c x (ouR [p0,p1,p2,p3] 3 c (c.length-3))=zat [p0,p1,p2,p3] 3 c:=fun x hx=>tkMin hx (hlr _)
 have e5:nuF (zat [p0,p1,p2,p3] 3 c) d=nuF [(zat [p0,p1,p2,p3] 3 c).getD 0 0,(zat [p0,p1,p2,p3] 3 c).getD 1 0,(zat [p0,p1,p2,p3] 3 c).getD 2 0,0] d:=zec hd fun i=>by
  have hlen:=zfR [p0,p1,p2,p3] 3 c
  match i with
  | 0=>rfl
  | 1=>rfl
  | 2=>rfl
  | 3=>simp_all
  | i+4=>rw [List.getD_eq_getElem?_getD,List.getElem?_eq_none (by omega)];rfl
 rw [e5,← zds]
 by_cases h0:d<0
 ·have s:∀x,sgD d x = -x:=fun x=>if_pos h0
  simp only [s,Int.neg_zero]
  have:=rdc_0 p0 p1 p2 p3 c d t (ouR [p0,p1,p2,p3] 3 c (c.length-3)) (by omega) hne (by omega) (by omega) (by omega) k (by omega) (by omega) (by split<;>omega) (by split<;>omega) (by rw [hlr];split<;>omega) (by split<;>omega) h0 (by rw [hred (3:Int) rfl];exact ⟨by omega,(hz 0).neg,(hz 1).neg,(hz 2).neg,Sz.zero,hsd.neg.mono (by omega)⟩)
  simp_all
 ·have s:∀x,sgD d x=x:=fun x=>if_neg h0
  simp only [s]
  have:=rdc_1 p0 p1 p2 p3 c d t (ouR [p0,p1,p2,p3] 3 c (c.length-3)) (by omega) hne (by omega) (by omega) (by omega) k (by omega) (by omega) (by split<;>omega) (by split<;>omega) (by rw [hlr];split<;>omega) (by split<;>omega) h0 (by rw [hred (3:Int) rfl];exact ⟨hd,hz 0,hz 1,hz 2,Sz.zero,hsd.mono (by omega)⟩)
  simp_all
theorem red_d (p0 p1 p2 p3 p4:Int) (c:List Int) (d:Int) (h:znG [p0,p1,p2,p3,p4] c d):FC Tryz.prog 134 [reA (.lst .whole [p0,p1,p2,p3,p4]),.lst .whole c,W d] (nuF (zat [p0,p1,p2,p3,p4] 4 c) d):=by
 obtain ⟨⟨_,_,ha⟩,hne,hl,hC,hd,hsd⟩:=h
 have hq:∀j,Sz 1 (([p0,p1,p2,p3,p4]).getD j 0):=fun j=>by
  rw [List.getD_eq_getElem?_getD]
  by_cases hj:j<([p0,p1,p2,p3,p4]).length
  ·rw [List.getElem?_eq_getElem hj];have:=ha _ (List.getElem_mem hj);exact Sz.lit (by grind) (by decide)
  ·rw [List.getElem?_eq_none (by omega)];exact Sz.zero
 have hN:((List.length [p0,p1,p2,p3,p4]:Int)-1)=((4:Nat):Int):=by simp
 have hlr:∀s,(ouR [p0,p1,p2,p3,p4] 4 c s).length=c.length:=zeg _ _ _
 have L:∃t,rdd_L1 (zkP [p0,p1,p2,p3,p4] (0+c.length) ((List.length [p0,p1,p2,p3,p4]:Int)-1) d ((↑(0+c.length):Int)-1) (List.take 0 []++c)) (Ex.exit 0,ziL [p0,p1,p2,p3,p4] (0+c.length) ((List.length [p0,p1,p2,p3,p4]:Int)-1) d t (ouR [p0,p1,p2,p3,p4] 4 c (c.length-4))):=by
  rw [Nat.zero_add,show List.take 0 []++c=c by simp]
  by_cases hn:4≤c.length
  ·obtain ⟨t,k⟩:=ziI (p:=[p0,p1,p2,p3,p4]) (n:=4) (A:=20000) (d:=d) (c:=c) (by simp) (by omega) (by omega) hC hq (c.length-4) 0 (by omega) hn
   rw [show(c.length:Int)-1-((0:Nat):Int)=(c.length:Int)-1 by omega] at k
   exact ⟨t,k⟩
  ·rw [show c.length-4=0 by omega]
   exact ⟨_,zc8 [p0,p1,p2,p3,p4] c.length _ d _ c (by omega)⟩
 obtain ⟨t,k⟩:=L
 have hz:∀j,Sz 50000 ((zat [p0,p1,p2,p3,p4] 4 c).getD j 0):=fun j=>by
  unfold zat
  rw [zbK]
  split
  ·by_cases hn:4≤c.length
   ·exact(ziB hq hC (c.length-4) (by omega) j).mono (by omega)
   ·rw [show c.length-4=0 by omega];exact(hC j).mono (by omega)
  ·exact Sz.zero
 have hred:∀x:Int,x=((4:Nat):Int)→tL c x (ouR [p0,p1,p2,p3,p4] 4 c (c.length-4))=zat [p0,p1,p2,p3,p4] 4 c:=fun x hx=>tkMin hx (hlr _)
 have e5:nuF (zat [p0,p1,p2,p3,p4] 4 c) d=nuF [(zat [p0,p1,p2,p3,p4] 4 c).getD 0 0,(zat [p0,p1,p2,p3,p4] 4 c).getD 1 0,(zat [p0,p1,p2,p3,p4] 4 c).getD 2 0,(zat [p0,p1,p2,p3,p4] 4 c).getD 3 0] d:=zec hd fun i=>by
  have hlen:=zfR [p0,p1,p2,p3,p4] 4 c
  match i with
  | 0=>rfl
  | 1=>rfl
  | 2=>rfl
  | 3=>rfl
  | i+4=>rw [List.getD_eq_getElem?_getD,List.getElem?_eq_none (by omega)];rfl
 rw [e5,← zds]
 by_cases h0:d<0
 ·have s:∀x,sgD d x = -x:=fun x=>if_pos h0
  simp only [s,Int.neg_zero]
  have:=rdd_0 p0 p1 p2 p3 p4 c d t (ouR [p0,p1,p2,p3,p4] 4 c (c.length-4)) (by omega) hne (by omega) (by omega) (by omega) k (by omega) (by omega) (by split<;>omega) (by split<;>omega) (by rw [hlr];split<;>omega) (by split<;>omega) h0 (by rw [hred (4:Int) rfl];exact ⟨by omega,(hz 0).neg,(hz 1).neg,(hz 2).neg,(hz 3).neg,hsd.neg.mono (by omega)⟩)
  simp_all
 ·have s:∀x,sgD d x=x:=fun x=>if_neg h0
  simp only [s]
  have:=rdd_1 p0 p1 p2 p3 p4 c d t (ouR [p0,p1,p2,p3,p4] 4 c (c.length-4)) (by omega) hne (by omega) (by omega) (by omega) k (by omega) (by omega) (by split<;>omega) (by split<;>omega) (by rw [hlr];split<;>omega) (by split<;>omega) h0 (by rw [hred (4:Int) rfl];exact ⟨hd,hz 0,hz 1,hz 2,hz 3,hsd.mono (by omega)⟩)
  simp_all
theorem ziO (p c:List Int) (d:Int) (h:znG p c d):FC Tryz.prog 134 [reA (.lst .whole p),.lst .whole c,W d] (nuF (zat p (p.length-1) c) d):=by
 have h':=h
 obtain ⟨⟨h2,h5,_⟩,_⟩:=h'
 match p,h2,h5,h with
 | [p0,p1],_,_,h=>exact red_a p0 p1 c d h
 | [p0,p1,p2],_,_,h=>exact red_b p0 p1 p2 c d h
 | [p0,p1,p2,p3],_,_,h=>exact red_c p0 p1 p2 p3 c d h
 | [p0,p1,p2,p3,p4],_,_,h=>exact red_d p0 p1 p2 p3 p4 c d h
 | _ :: _ :: _ :: _ :: _ :: _ :: _,_,h5,_=>simp at h5
noncomputable section
theorem clNil:zm0 (dZ Tryz.prog ctrQ bw) 60 177 [.lit (.slice none 0 0)]=some (aN,[]):=by kernel_rfl
end
def cClNil (args:List AV):M AV:=match args with
 | [.lit (.slice none 0 0)]=>M.pure (.lst .whole [])
 | _=>fail 310
def ctrQ0:Ctr:=(177,cClNil) :: ctrQ
theorem zkB (k:EK):Le (.lit (.slice none 0 0)) (.lst k []):=fun E v h=>by
 have hv:=h.lit_inv
 subst hv
 exact .lst .sl0
theorem cClNil_ok:kZ Tryz.prog 177 cClNil:=by
 intro args _
 unfold cClNil
 split
 ·exact Spec.pure' ((zcA (g:=dZ Tryz.prog ctrQ bw) (TZ zhf) clNil .nil).le (LeL.refl _) (zkB _))
 ·exact Spec.fail
theorem ctrQ0_all:∀p∈ctrQ0,kZ Tryz.prog p.1 p.2:=CAll.cons cClNil_ok zhf
theorem okQ0:(dZ Tryz.prog ctrQ0 bw [] kdQ).OK:=DZ zbQ mixed ctrQ0_all zbM
noncomputable section
theorem rna_0 (a b d:Int) (h1:r64 ((1:Int))) (h2:0≤(1:Int)) (h3:(1:Int)≤4) (h4:0≤if 0<(1:Int) then 0 else(1:Int)) (h5:(0:Int)≤0) (h6:0≤0) (h7:0≤((1:Int)-0).toNat) (h8:d<0) (h9:pNu (-(0:Int)) 0 0 0 (-d)):FC Tryz.prog 134 [reA (.lst .whole [a,b]),.lit (.slice none 0 0),W d] (loA (-(0:Int)) 0 0 0 (-d)):=eZ okQ0 60 [3] (.i h1<|.t h2<|.t h3<|.t h4<|.t h5<|.t h6<|.t h7<|.t h8<|.c h9<|.o<|.o<|.e) [1,0,0,2,3,0,4,5,6,7,8,0,0,0,0,0,0,0,0,0,0,0,0,0,0,0,0,0,0,0,0,0,0,0,0,0,0,0,0,0,0,0,0,0,0,0,9]
theorem rna_1 (a b d:Int) (h1:r64 ((1:Int))) (h2:0≤(1:Int)) (h3:(1:Int)≤4) (h4:0≤if 0<(1:Int) then 0 else(1:Int)) (h5:(0:Int)≤0) (h6:0≤0) (h7:0≤((1:Int)-0).toNat) (h8:¬(d<0)) (h9:pNu ((0:Int)) 0 0 0 d):FC Tryz.prog 134 [reA (.lst .whole [a,b]),.lit (.slice none 0 0),W d] (loA ((0:Int)) 0 0 0 d):=eZ okQ0 60 [2] (.i h1<|.t h2<|.t h3<|.t h4<|.t h5<|.t h6<|.t h7<|.f h8<|.c h9<|.o<|.e) [1,0,0,2,3,0,4,5,6,7,8,0,0,0,0,0,9]
theorem rnb_0 (a b f d:Int) (h1:r64 ((2:Int))) (h2:0≤(2:Int)) (h3:(2:Int)≤4) (h4:0≤if 0<(2:Int) then 0 else(2:Int)) (h5:(0:Int)≤0) (h6:0≤0) (h7:0≤((2:Int)-0).toNat) (h8:d<0) (h9:pNu (-(0:Int)) (-(0:Int)) 0 0 (-d)):FC Tryz.prog 134 [reA (.lst .whole [a,b,f]),.lit (.slice none 0 0),W d] (loA (-(0:Int)) (-(0:Int)) 0 0 (-d)):=eZ okQ0 60 [3] (.i h1<|.t h2<|.t h3<|.t h4<|.t h5<|.t h6<|.t h7<|.t h8<|.c h9<|.o<|.o<|.e) [1,0,0,2,3,0,4,5,6,7,8,0,0,0,0,0,0,0,0,0,0,0,0,0,0,0,0,0,0,0,0,0,0,0,0,0,0,0,0,0,0,0,0,0,0,0,9]
theorem rnb_1 (a b g d:Int) (h1:r64 ((2:Int))) (h2:0≤(2:Int)) (h3:(2:Int)≤4) (h4:0≤if 0<(2:Int) then 0 else(2:Int)) (h5:(0:Int)≤0) (h6:0≤0) (h7:0≤((2:Int)-0).toNat) (h8:¬(d<0)) (h9:pNu ((0:Int)) ((0:Int)) 0 0 d):FC Tryz.prog 134 [reA (.lst .whole [a,b,g]),.lit (.slice none 0 0),W d] (loA ((0:Int)) ((0:Int)) 0 0 d):=eZ okQ0 60 [2] (.i h1<|.t h2<|.t h3<|.t h4<|.t h5<|.t h6<|.t h7<|.f h8<|.c h9<|.o<|.e) [1,0,0,2,3,0,4,5,6,7,8,0,0,0,0,0,9]
theorem rnc_0 (a b f g d:Int) (h1:r64 ((3:Int))) (h2:0≤(3:Int)) (h3:(3:Int)≤4) (h4:0≤if 0<(3:Int) then 0 else(3:Int)) (h5:(0:Int)≤0) (h6:0≤0) (h7:0≤((3:Int)-0).toNat) (h8:d<0) (h9:pNu (-(0:Int)) (-(0:Int)) (-(0:Int)) 0 (-d)):FC Tryz.prog 134 [reA (.lst .whole [a,b,f,g]),.lit (.slice none 0 0),W d] (loA (-(0:Int)) (-(0:Int)) (-(0:Int)) 0 (-d)):=eZ okQ0 60 [3] (.i h1<|.t h2<|.t h3<|.t h4<|.t h5<|.t h6<|.t h7<|.t h8<|.c h9<|.o<|.o<|.e) [1,0,0,2,3,0,4,5,6,7,8,0,0,0,0,0,0,0,0,0,0,0,0,0,0,0,0,0,0,0,0,0,0,0,0,0,0,0,0,0,0,0,0,0,0,0,9]
theorem rnc_1 (a b g j d:Int) (h1:r64 ((3:Int))) (h2:0≤(3:Int)) (h3:(3:Int)≤4) (h4:0≤if 0<(3:Int) then 0 else(3:Int)) (h5:(0:Int)≤0) (h6:0≤0) (h7:0≤((3:Int)-0).toNat) (h8:¬(d<0)) (h9:pNu ((0:Int)) ((0:Int)) ((0:Int)) 0 d):FC Tryz.prog 134 [reA (.lst .whole [a,b,g,j]),.lit (.slice none 0 0),W d] (loA ((0:Int)) ((0:Int)) ((0:Int)) 0 d):=eZ okQ0 60 [2] (.i h1<|.t h2<|.t h3<|.t h4<|.t h5<|.t h6<|.t h7<|.f h8<|.c h9<|.o<|.e) [1,0,0,2,3,0,4,5,6,7,8,0,0,0,0,0,9]
theorem rnd_0 (a b f g j d:Int) (h1:r64 ((4:Int))) (h2:0≤(4:Int)) (h3:(4:Int)≤4) (h4:0≤if 0<(4:Int) then 0 else(4:Int)) (h5:(0:Int)≤0) (h6:0≤0) (h7:0≤((4:Int)-0).toNat) (h8:d<0) (h9:pNu (-(0:Int)) (-(0:Int)) (-(0:Int)) (-(0:Int)) (-d)):FC Tryz.prog 134 [reA (.lst .whole [a,b,f,g,j]),.lit (.slice none 0 0),W d] (loA (-(0:Int)) (-(0:Int)) (-(0:Int)) (-(0:Int)) (-d)):=eZ okQ0 60 [3] (.i h1<|.t h2<|.t h3<|.t h4<|.t h5<|.t h6<|.t h7<|.t h8<|.c h9<|.o<|.o<|.e) [1,0,0,2,3,0,4,5,6,7,8,0,0,0,0,0,0,0,0,0,0,0,0,0,0,0,0,0,0,0,0,0,0,0,0,0,0,0,0,0,0,0,0,0,0,0,9]
theorem rnd_1 (a b g j l d:Int) (h1:r64 ((4:Int))) (h2:0≤(4:Int)) (h3:(4:Int)≤4) (h4:0≤if 0<(4:Int) then 0 else(4:Int)) (h5:(0:Int)≤0) (h6:0≤0) (h7:0≤((4:Int)-0).toNat) (h8:¬(d<0)) (h9:pNu ((0:Int)) ((0:Int)) ((0:Int)) ((0:Int)) d):FC Tryz.prog 134 [reA (.lst .whole [a,b,g,j,l]),.lit (.slice none 0 0),W d] (loA ((0:Int)) ((0:Int)) ((0:Int)) ((0:Int)) d):=eZ okQ0 60 [2] (.i h1<|.t h2<|.t h3<|.t h4<|.t h5<|.t h6<|.t h7<|.f h8<|.c h9<|.o<|.e) [1,0,0,2,3,0,4,5,6,7,8,0,0,0,0,0,9]
end
open Go.Kf
theorem e0000 {d:Int} (hd:d≠0):nuF [] d=nuF [0,0,0,0] d:=zec hd fun i=>by
 match i with
 | 0=>rfl
 | 1=>rfl
 | 2=>rfl
 | 3=>rfl
 | i+4=>rfl
theorem redn_a (p0 p1 d:Int) (hd:d≠0) (hsd:Sz 20000 d):FC Tryz.prog 134 [reA (.lst .whole [p0,p1]),.lit (.slice none 0 0),W d] (nuF [] d):=by
 have hN:((List.length [p0,p1]:Int)-1)=((1:Nat):Int):=by simp
 rw [e0000 hd,← zds]
 by_cases h0:d<0
 ·have s:∀x,sgD d x = -x:=fun x=>if_pos h0
  simp only [s,Int.neg_zero]
  have:=rna_0 p0 p1 d (by omega) (by omega) (by omega) (by decide) (by decide) (Nat.le_refl _) (by simp) h0 (by(try simp only [Int.neg_zero]);exact ⟨by omega,Sz.zero,Sz.zero,Sz.zero,Sz.zero,hsd.neg.mono (by omega)⟩)
  (try simp only [Int.neg_zero] at this)
  exact this
 ·have s:∀x,sgD d x=x:=fun x=>if_neg h0
  simp only [s]
  have:=rna_1 p0 p1 d (by omega) (by omega) (by omega) (by decide) (by decide) (Nat.le_refl _) (by simp) h0 (by(try simp only [Int.neg_zero]);exact ⟨hd,Sz.zero,Sz.zero,Sz.zero,Sz.zero,hsd.mono (by omega)⟩)
  (try simp only [Int.neg_zero] at this)
  exact this
theorem redn_b (p0 p1 p2 d:Int) (hd:d≠0) (hsd:Sz 20000 d):FC Tryz.prog 134 [reA (.lst .whole [p0,p1,p2]),.lit (.slice none 0 0),W d] (nuF [] d):=by
 have hN:((List.length [p0,p1,p2]:Int)-1)=((2:Nat):Int):=by simp
 rw [e0000 hd,← zds]
 by_cases h0:d<0
 ·have s:∀x,sgD d x = -x:=fun x=>if_pos h0
  simp only [s,Int.neg_zero]
  have:=rnb_0 p0 p1 p2 d (by omega) (by omega) (by omega) (by decide) (by decide) (Nat.le_refl _) (by simp) h0 (by(try simp only [Int.neg_zero]);exact ⟨by omega,Sz.zero,Sz.zero,Sz.zero,Sz.zero,hsd.neg.mono (by omega)⟩)
  (try simp only [Int.neg_zero] at this)
  exact this
 ·have s:∀x,sgD d x=x:=fun x=>if_neg h0
  simp only [s]
  have:=rnb_1 p0 p1 p2 d (by omega) (by omega) (by omega) (by decide) (by decide) (Nat.le_refl _) (by simp) h0 (by(try simp only [Int.neg_zero]);exact ⟨hd,Sz.zero,Sz.zero,Sz.zero,Sz.zero,hsd.mono (by omega)⟩)
  (try simp only [Int.neg_zero] at this)
  exact this
theorem redn_c (p0 p1 p2 p3 d:Int) (hd:d≠0) (hsd:Sz 20000 d):FC Tryz.prog 134 [reA (.lst .whole [p0,p1,p2,p3]),.lit (.slice none 0 0),W d] (nuF [] d):=by
 have hN:((List.length [p0,p1,p2,p3]:Int)-1)=((3:Nat):Int):=by simp
 rw [e0000 hd,← zds]
 by_cases h0:d<0
 ·have s:∀x,sgD d x = -x:=fun x=>if_pos h0
  simp only [s,Int.neg_zero]
  have:=rnc_0 p0 p1 p2 p3 d (by omega) (by omega) (by omega) (by decide) (by decide) (Nat.le_refl _) (by simp) h0 (by(try simp only [Int.neg_zero]);exact ⟨by omega,Sz.zero,Sz.zero,Sz.zero,Sz.zero,hsd.neg.mono (by omega)⟩)
  (try simp only [Int.neg_zero] at this)
  exact this
 ·have s:∀x,sgD d x=x:=fun x=>if_neg h0
  simp only [s]
  have:=rnc_1 p0 p1 p2 p3 d (by omega) (by omega) (by omega) (by decide) (by decide) (Nat.le_refl _) (by simp) h0 (by(try simp only [Int.neg_zero]);exact ⟨hd,Sz.zero,Sz.zero,Sz.zero,Sz.zero,hsd.mono (by omega)⟩)
  (try simp only [Int.neg_zero] at this)
  exact this
theorem redn_d (p0 p1 p2 p3 p4 d:Int) (hd:d≠0) (hsd:Sz 20000 d):FC Tryz.prog 134 [reA (.lst .whole [p0,p1,p2,p3,p4]),.lit (.slice none 0 0),W d] (nuF [] d):=by
 have hN:((List.length [p0,p1,p2,p3,p4]:Int)-1)=((4:Nat):Int):=by simp
 rw [e0000 hd,← zds]
 by_cases h0:d<0
 ·have s:∀x,sgD d x = -x:=fun x=>if_pos h0
  simp only [s,Int.neg_zero]
  have:=rnd_0 p0 p1 p2 p3 p4 d (by omega) (by omega) (by omega) (by decide) (by decide) (Nat.le_refl _) (by simp) h0 (by(try simp only [Int.neg_zero]);exact ⟨by omega,Sz.zero,Sz.zero,Sz.zero,Sz.zero,hsd.neg.mono (by omega)⟩)
  (try simp only [Int.neg_zero] at this)
  exact this
 ·have s:∀x,sgD d x=x:=fun x=>if_neg h0
  simp only [s]
  have:=rnd_1 p0 p1 p2 p3 p4 d (by omega) (by omega) (by omega) (by decide) (by decide) (Nat.le_refl _) (by simp) h0 (by(try simp only [Int.neg_zero]);exact ⟨hd,Sz.zero,Sz.zero,Sz.zero,Sz.zero,hsd.mono (by omega)⟩)
  (try simp only [Int.neg_zero] at this)
  exact this
theorem znK (p:List Int) (d:Int) (h2:2≤p.length) (h5:p.length≤5) (hd:d≠0) (hsd:Sz 20000 d):FC Tryz.prog 134 [reA (.lst .whole p),.lit (.slice none 0 0),W d] (nuF [] d):=by
 match p,h2,h5 with
 | [p0,p1],_,_=>exact redn_a p0 p1 d hd hsd
 | [p0,p1,p2],_,_=>exact redn_b p0 p1 p2 d hd hsd
 | [p0,p1,p2,p3],_,_=>exact redn_c p0 p1 p2 p3 d hd hsd
 | [p0,p1,p2,p3,p4],_,_=>exact redn_d p0 p1 p2 p3 p4 d hd hsd
 | _ :: _ :: _ :: _ :: _ :: _ :: _,_,h5=>simp at h5
def asWL (x:AV):M (List Int):=match x with
 | .lst .whole l=>M.pure l
 | x=>asWs x
theorem Le.zl_lst {x:AV} {l:List Int} (h:Le x (.zl .W l)):Le x (.lst .whole l):=h.trans (Le.zlW_lst l)
theorem asWL_spec {x:AV}:Go.Ev.Spec (asWL x) fun l=>Le x (.lst .whole l):=by
 unfold asWL
 split
 ·exact Spec.pure' (Le.refl _)
 ·exact asWs_spec.mono fun l h=>Le.zl_lst h
def asRL (x:AV):M (List Int):=match x with
 | .pd [_,_,_,_,p,_,_,_,_,_,_,_] 0=>asWL p
 | _=>fail 311
theorem asRL_spec {x:AV}:Go.Ev.Spec (asRL x) fun q=>Le x (reA (.lst .whole q)):=by
 unfold asRL
 split
 ·refine asWL_spec.mono fun p hp=>?_
  exact Le.pd (.cons (Le.junk _) (.cons (Le.junk _) (.cons (Le.junk _) (.cons (Le.junk _) (.cons hp (.cons (Le.junk _) (.cons (Le.junk _) (.cons (Le.junk _) (.cons (Le.junk _) (.cons (Le.junk _) (.cons (Le.junk _) (.cons (Le.junk _) .nil))))))))))))
 ·exact Spec.fail
def pRdN (p:List Int) (d:Int):Prop:=2≤p.length∧p.length≤5∧d≠0∧Sz 20000 d
def cRd (args:List AV):M AV:=match args with
 | [x,c,y]=>do
  let p ← asRL x
  let d ← asW y
  match c with
  | .lit (.slice none 0 0)=>do
   tell (pRdN p d)
   M.pure (nuF [] d)
  | c=>do
   let l ← asWL c
   tell (znG p l d)
   M.pure (nuF (zat p (p.length-1) l) d)
 | _=>fail 312
theorem cRd_ok:kZ Tryz.prog 134 cRd:=by
 intro args _
 unfold cRd
 split
 ·refine Spec.bind (asRL_spec.mono fun p hp=>Spec.bind (asW_spec.mono fun d hd=>?_))
  split
  ·exact Spec.bind (Spec.tell fun h=>Spec.pure' ((znK p d h.1 h.2.1 h.2.2.1 h.2.2.2).le (.cons hp (.cons (Le.refl _) (.cons hd .nil))) (Le.refl _)))
  ·exact Spec.bind (asWL_spec.mono fun l hl=>Spec.bind (Spec.tell fun h=>Spec.pure' ((ziO p l d h).le (.cons hp (.cons hl (.cons hd .nil))) (Le.refl _))))
 ·exact Spec.fail
noncomputable def ctrQ1:Ctr:=(134,cRd) :: ctrQ
theorem zlJ:∀p∈ctrQ1,kZ Tryz.prog p.1 p.2:=CAll.cons cRd_ok zhf
abbrev kdQ2:List (TypeId × EK):=[(100,.whole),(22,.sl (.int .i64))]
theorem zl8:(dZ Tryz.prog ctrQ1 bw [] kdQ2).OK:=DZ zbQ mixed zlJ zbM
noncomputable section
abbrev zhc (s:St) (r:Ex × St):Prop:=Loops 2 Tryz.prog (lZ Tryz.prog 80 0) s r
abbrev zfh (a:List Int) (b:List (List Int)) (c:Int) (d:List Int):St:=⟨sp 33 [(0,.pd [aJ,aJ,aJ,aJ,.lst EK.whole a,aJ,aJ,aJ,aJ,aJ,aJ,aJ] 0),(3,.ref 0 0),(4,.ref 1 0),(5,aN),(10,.lst (EK.sl (.int .i64)) b),(11,aI c),(12,aI 0)],[.flat [.lst (EK.sl (.int .i64)) b,.sq d] true,.flat [aF,aN,aF,aN,aF,aN,aF,aN,aF,aN] true],[]⟩
abbrev zi7 (a:List Int) (b:List (List Int)) (c:Int) (d:List Int) (e:Nat) (f:Int) (g:List Int):St:=⟨sp 33 [(0,.pd [aJ,aJ,aJ,aJ,.lst EK.whole a,aJ,aJ,aJ,aJ,aJ,aJ,aJ] 0),(3,.ref 0 0),(4,.ref 1 0),(5,.own 2 0 e 2),(10,.lst (EK.sl (.int .i64)) b),(11,aI c),(12,aI f)],[.flat [.lst (EK.sl (.int .i64)) b,.sq d] true,.flat [aF,aN,aF,aN,aF,aN,aF,aN,aF,aN] true,.lst EK.whole g true],[]⟩
abbrev zk7 (a:List Int) (b:List (List Int)) (c:Int) (d:List Int):St:=⟨sp 33 [(0,.pd [aJ,aJ,aJ,aJ,.lst EK.whole a,aJ,aJ,aJ,aJ,aJ,aJ,aJ] 0),(3,.ref 0 0),(4,.ref 1 0),(5,aN),(10,.lst (EK.sl (.int .i64)) b),(11,aI c),(12,aI 0)],[.flat [.lst (EK.sl (.int .i64)) b,.sq d] true,.flat [aF,aN,aF,aN,aF,aN,aF,aN,aF,aN] true],[]⟩
abbrev zeK (a:List Int) (b:List (List Int)) (c:Int) (d:List Int) (e:Nat) (f:Int) (g:List Int):St:=⟨sp 33 [(0,.pd [aJ,aJ,aJ,aJ,.lst EK.whole a,aJ,aJ,aJ,aJ,aJ,aJ,aJ] 0),(3,.ref 0 0),(4,.ref 1 0),(5,.own 2 0 e 2),(10,.lst (EK.sl (.int .i64)) b),(11,aI c),(12,aI f)],[.flat [.lst (EK.sl (.int .i64)) b,.sq d] true,.flat [aF,aN,aF,aN,aF,aN,aF,aN,aF,aN] true,.lst EK.whole g true],[]⟩
theorem tk_L0_0_0 (a:List Int) (b:List (List Int)) (d:Int) (f:List Int) (h1:0<d) (h2:0<(b.length:Int)) (h3:zbG (b.getD 0 (EK.dflt (EK.sl (.int .i64))))) (h4:1≤List.length [vl (b.getD 0 (EK.dflt (EK.sl (.int .i64))))]) (h5:0<(List.take 1 [vl (b.getD 0 (EK.dflt (EK.sl (.int .i64))))]).length) (h6:(List.take 1 [vl (b.getD 0 (EK.dflt (EK.sl (.int .i64))))]).length*32≤140737488355328) (h7:(List.take 1 [vl (b.getD 0 (EK.dflt (EK.sl (.int .i64))))]).length≤4611686018427387904) {r:Ex × St} (k:zhc (zi7 a b d f (1) (1) ([vl (b.getD 0 (EK.dflt (EK.sl (.int .i64))))])) r):zhc (zfh a b d f) r:=Loops.go (LS.at zl8 60 [3] [0,3,4,5,10,11,12] [] [1] (.t h1<|.t h2<|.c h3<|.c h4<|.t h5<|.t h6<|.t h7<|.e) [1,0,2,3,0,4,5,6,7,0]) k
theorem tk_L0_0_1 (a:List Int) (b:List (List Int)) (c:Int) (d:List Int) (h1:¬(0<c)):zhc (zfh a b c d) (Ex.exit 0,(zk7 a b c d)):=Loops.fin (LS.at zl8 60 [] [0,3,4,5,10,11,12] [] [0] (.f h1<|.e) [1]) (fun h=>nomatch h)
theorem tk_L0_1_0 (a:List Int) (b:List (List Int)) (d:Int) (f:List Int) (g:Nat) (j:Int) (l:List Int) (h1:j<d) (h2:0≤j) (h3:j<(b.length:Int)) (h4:zbG (b.getD j.toNat (EK.dflt (EK.sl (.int .i64))))) (h5:1≤List.length [vl (b.getD j.toNat (EK.dflt (EK.sl (.int .i64))))]) (h6:(g+(List.take 1 [vl (b.getD j.toNat (EK.dflt (EK.sl (.int .i64))))]).length)*32≤140737488355328) (h7:g+(List.take 1 [vl (b.getD j.toNat (EK.dflt (EK.sl (.int .i64))))]).length≤4611686018427387904) (h8:g≤l.length) (h9:r64 (j+1)) {r:Ex × St} (k:zhc (zi7 a b d f (g+(List.take 1 [vl (b.getD j.toNat (EK.dflt (EK.sl (.int .i64))))]).length) (j+1) (l.take g++List.take 1 [vl (b.getD j.toNat (EK.dflt (EK.sl (.int .i64))))])) r):zhc (zi7 a b d f g j l) r:=Loops.go (LS.at zl8 60 [4] [0,3,4,5,10,11,12] [] [1] (.t h1<|.t h2<|.t h3<|.c h4<|.c h5<|.t h6<|.t h7<|.t h8<|.i h9<|.e) [1,2,3,4,0,5,6,7,8,9]) k
theorem tk_L0_1_1 (a:List Int) (b:List (List Int)) (c:Int) (d:List Int) (g:Nat) (i:Int) (j:List Int) (h1:¬(i<c)):zhc (zi7 a b c d g i j) (Ex.exit 0,(zeK a b c d g i j)):=Loops.fin (LS.at zl8 60 [2] [0,3,4,5,10,11,12] [] [0] (.f h1<|.e) [1]) (fun h=>nomatch h)
theorem tk_0 (p:List Int) (C:List (List Int)) (D:List Int) (hL1:zhc (zfh p C ((C.length:Int)) D) (Ex.exit 0,(zk7 p C ((C.length:Int)) D))) (h2:zbG D) (h3:(vl D).sign=0) (h4:cZ 1) (h5:pRdN p 1):FC Tryz.prog 80 [reA (.lst .whole p),.agg [.lst (.sl (.int .i64)) C,.sq D]] (.agg [aF,.wd 0,aF,.wd 0,aF,.wd 0,aF,.wd 0,aF,.wd 1]):=eZ zl8 60 [1] (.v [0,3,4,5,10,11,12] [] hL1<|.c h2<|.c (beq_iff_eq.2 h3)<|.c h4<|.c h5<|.e) [0,1,2,0,0,3,4,0,5]
theorem tk_1 (p:List Int) (C:List (List Int)) (D:List Int) (hL1:zhc (zfh p C ((C.length:Int)) D) (Ex.exit 0,(zk7 p C ((C.length:Int)) D))) (h2:zbG D) (h3:(vl D).sign≠0) (h4:pRdN p (vl D)):FC Tryz.prog 80 [reA (.lst .whole p),.agg [.lst (.sl (.int .i64)) C,.sq D]] (.agg [.lit (.bool (decide (Kf.loC [] (vl D) 0<0))),.wd (Kf.loC [] (vl D) 0),.lit (.bool (decide (Kf.loC [] (vl D) 1<0))),.wd (Kf.loC [] (vl D) 1),.lit (.bool (decide (Kf.loC [] (vl D) 2<0))),.wd (Kf.loC [] (vl D) 2),.lit (.bool (decide (Kf.loC [] (vl D) 3<0))),.wd (Kf.loC [] (vl D) 3),.lit (.bool (decide (Kf.loD [] (vl D)<0))),.wd (Kf.loD [] (vl D))]):=eZ zl8 60 [0] (.v [0,3,4,5,10,11,12] [] hL1<|.c h2<|.c (beq_false_of_ne h3)<|.c h4<|.e) [0,1,2,0,0,3,0,4]
theorem tk_2 (p:List Int) (C:List (List Int)) (D:List Int) (a:Nat) (b:Int) (d:List Int) (hL1:zhc (zfh p C ((C.length:Int)) D) (Ex.exit 0,(zeK p C ((C.length:Int)) D a b d))) (h2:zbG D) (h3:(vl D).sign=0) (h4:cZ 1) (h5:a≤d.length) (h6:znG p (d.take a) 1):FC Tryz.prog 80 [reA (.lst .whole p),.agg [.lst (.sl (.int .i64)) C,.sq D]] (.agg [.lit (.bool (decide (Kf.loC (zat p (p.length-1) (d.take a)) 1 0<0))),.wd (Kf.loC (zat p (p.length-1) (d.take a)) 1 0),.lit (.bool (decide (Kf.loC (zat p (p.length-1) (d.take a)) 1 1<0))),.wd (Kf.loC (zat p (p.length-1) (d.take a)) 1 1),.lit (.bool (decide (Kf.loC (zat p (p.length-1) (d.take a)) 1 2<0))),.wd (Kf.loC (zat p (p.length-1) (d.take a)) 1 2),.lit (.bool (decide (Kf.loC (zat p (p.length-1) (d.take a)) 1 3<0))),.wd (Kf.loC (zat p (p.length-1) (d.take a)) 1 3),aF,.wd (Kf.loD (zat p (p.length-1) (d.take a)) 1)]):=eZ zl8 60 [1] (.v [0,3,4,5,10,11,12] [] hL1<|.c h2<|.c (beq_iff_eq.2 h3)<|.c h4<|.c h5<|.c h6<|.e) [0,1,2,0,0,3,4,5,0,6]
theorem tk_3 (p:List Int) (C:List (List Int)) (D:List Int) (a:Nat) (b:Int) (d:List Int) (hL1:zhc (zfh p C ((C.length:Int)) D) (Ex.exit 0,(zeK p C ((C.length:Int)) D a b d))) (h2:zbG D) (h3:(vl D).sign≠0) (h4:a≤d.length) (h5:znG p (d.take a) (vl D)):FC Tryz.prog 80 [reA (.lst .whole p),.agg [.lst (.sl (.int .i64)) C,.sq D]] (.agg [.lit (.bool (decide (Kf.loC (zat p (p.length-1) (d.take a)) (vl D) 0<0))),.wd (Kf.loC (zat p (p.length-1) (d.take a)) (vl D) 0),.lit (.bool (decide (Kf.loC (zat p (p.length-1) (d.take a)) (vl D) 1<0))),.wd (Kf.loC (zat p (p.length-1) (d.take a)) (vl D) 1),.lit (.bool (decide (Kf.loC (zat p (p.length-1) (d.take a)) (vl D) 2<0))),.wd (Kf.loC (zat p (p.length-1) (d.take a)) (vl D) 2),.lit (.bool (decide (Kf.loC (zat p (p.length-1) (d.take a)) (vl D) 3<0))),.wd (Kf.loC (zat p (p.length-1) (d.take a)) (vl D) 3),.lit (.bool (decide (Kf.loD (zat p (p.length-1) (d.take a)) (vl D)<0))),.wd (Kf.loD (zat p (p.length-1) (d.take a)) (vl D))]):=eZ zl8 60 [0] (.v [0,3,4,5,10,11,12] [] hL1<|.c h2<|.c (beq_false_of_ne h3)<|.c h4<|.c h5<|.e) [0,1,2,0,0,3,4,0,5]
theorem gv_0 (a b c e d:Int) (h1:e.sign=0) (h2:c.sign=0) (h3:b.sign=0) (h4:a.sign=0) (h5:dl d≤1048576):FC Tryz.prog 86 [nuA a b c e d] (.agg [aN,.ni d]):=eZ zl8 60 [3,3,3,3] (.c (beq_iff_eq.2 h1)<|.c (beq_iff_eq.2 h2)<|.c (beq_iff_eq.2 h3)<|.c (beq_iff_eq.2 h4)<|.c h5<|.o<|.o<|.e) [0,0,0,0,0,1,0,0,0,0,0,0,2,0,0,0,0,0,0,3,0,0,0,0,0,0,4,0,0,0,0,0,5]
abbrev gv_1_s0 (a b c e d:Int):St:=⟨sp 41 [(0,.agg [aD a,.wd a,aD b,.wd b,aD c,.wd c,aD e,.wd e,aD d,.wd d]),(1,.ref 0 0),(2,.ref 1 0),(3,.ref 2 0),(4,aI 1),(6,.ref 3 0),(7,aI 1),(8,aT),(9,.tt),(10,aI 1),(11,aI 0),(12,.ref 0 0),(13,.ref 0 0),(14,.agg [aD a,.wd a]),(15,aI a.sign),(16,.lit (.bool (a.sign==0))),(17,.lit (.bool (a.sign==0))),(18,aI 2),(19,aI 1),(20,.ref 0 0),(21,aI 1),(22,.own 0 0 1 2),(23,aI 1),(24,aI 0),(25,aT),(26,.ref 0 0),(27,.agg [aD a,.wd a]),(28,.ref 2 0),(29,aN),(30,.agg [aD a,.wd a]),(31,.ni a),(32,.own 4 0 1 1),(33,.own 5 0 1 1),(34,.ref 2 0)],[.flat [aD a,.wd a,aD b,.wd b,aD c,.wd c,aD e,.wd e,aD d,.wd d] true,.flat [aN,aN] true,.flat [.own 5 0 1 1,aN] true,.flat [aD a,.wd a] true,.lst (EK.sl (.int .i64)) [aZ a] false,.lst (EK.sl (.int .i64)) [aZ a] true],[2,3]⟩
theorem gv_1 (a b c e d:Int) (h1:e.sign=0) (h2:c.sign=0) (h3:b.sign=0) (h4:a.sign≠0) (h5:dl a≤1048576) (h6:1≤List.length [aZ a]) (h7:0<(List.take 1 [aZ a]).length) (h8:(List.take 1 [aZ a]).length*24≤140737488355328) (h9:(List.take 1 [aZ a]).length≤4611686018427387904) (h10:dl d≤1048576) (h11:(List.take 1 [aZ a]).length≤(List.take 1 [aZ a]).length):FC Tryz.prog 86 [nuA a b c e d] (.agg [.lst (EK.sl (.int .i64)) [aZ a],.ni d]):=eZ zl8 60 [3,3,3,2] (.c (beq_iff_eq.2 h1)<|.c (beq_iff_eq.2 h2)<|.c (beq_iff_eq.2 h3)<|.c (beq_false_of_ne h4)<|.c h5<|.c h6<|.t h7<|.t h8<|.t h9<|.s (gv_1_s0 a b c e d)<|.c h10<|.c h11<|.o<|.o<|.e) [0,0,0,0,0,1,0,0,0,0,0,0,2,0,0,0,0,0,0,3,0,0,0,0,0,0,4,0,0,0,0,0,0,5,6,7,8,9,0,5,6,7,8,9,6,7,8,9,10,10,0,0,11,12]
abbrev gv_2_s0 (a b c e d:Int):St:=⟨sp 41 [(0,.agg [aD a,.wd a,aD b,.wd b,aD c,.wd c,aD e,.wd e,aD d,.wd d]),(1,.ref 0 0),(2,.ref 1 0),(3,.ref 2 0),(4,aI 2),(6,.ref 3 0),(7,aI 2),(8,aT),(9,.tt),(10,aI 2),(11,aI 1),(12,.ref 0 0),(13,.ref 0 2),(14,.agg [aD b,.wd b]),(15,aI b.sign),(16,.lit (.bool (b.sign==0))),(17,.lit (.bool (b.sign==0))),(18,aI 3),(19,aI 2),(20,.ref 0 0),(21,aI 2),(22,.own 0 0 2 2),(23,aI 2),(24,aI 0),(25,aT),(26,.ref 0 0),(27,.agg [aD a,.wd a]),(28,.ref 2 0),(29,aN),(30,.agg [aD a,.wd a]),(31,.ni a),(32,.own 4 0 1 1),(33,.own 5 0 1 1),(34,.ref 2 0)],[.flat [aD a,.wd a,aD b,.wd b,aD c,.wd c,aD e,.wd e,aD d,.wd d] true,.flat [aN,aN] true,.flat [.own 5 0 1 1,aN] true,.flat [aD a,.wd a] true,.lst (EK.sl (.int .i64)) [aZ a] false,.lst (EK.sl (.int .i64)) [aZ a] true],[2,3]⟩
abbrev gv_2_s1 (a b c e d:Int):St:=⟨sp 41 [(0,.agg [aD a,.wd a,aD b,.wd b,aD c,.wd c,aD e,.wd e,aD d,.wd d]),(1,.ref 0 0),(2,.ref 1 0),(3,.ref 2 0),(4,aI 2),(6,.ref 6 0),(7,aI 2),(8,aT),(9,.tt),(10,aI 2),(11,aI 1),(12,.ref 0 0),(13,.ref 0 2),(14,.agg [aD b,.wd b]),(15,aI b.sign),(16,.lit (.bool (b.sign==0))),(17,.lit (.bool (b.sign==0))),(18,aI 3),(19,aI 2),(20,.ref 0 0),(21,aI 2),(22,.own 0 0 2 2),(23,aI 2),(24,aI 1),(25,aT),(26,.ref 0 2),(27,.agg [aD b,.wd b]),(28,.ref 2 0),(29,.own 5 0 1 1),(30,.agg [aD b,.wd b]),(31,.ni b),(32,.own 7 0 1 1),(33,.own 8 0 2 1),(34,.ref 2 0),(35,aI 1)],[.flat [aD a,.wd a,aD b,.wd b,aD c,.wd c,aD e,.wd e,aD d,.wd d] true,.flat [aN,aN] true,.flat [.own 8 0 2 1,aN] true,.flat [aD a,.wd a] true,.lst (EK.sl (.int .i64)) [aZ a] false,.dead,.flat [aD b,.wd b] true,.lst (EK.sl (.int .i64)) [aZ b] false,.lst (EK.sl (.int .i64)) [aZ a,aZ b] true],[2,3,5,6]⟩
theorem gv_2 (a b c e d:Int) (h1:e.sign=0) (h2:c.sign=0) (h3:b.sign≠0) (h4:dl a≤1048576) (h5:1≤List.length [aZ a]) (h6:0<(List.take 1 [aZ a]).length) (h7:(List.take 1 [aZ a]).length*24≤140737488355328) (h8:(List.take 1 [aZ a]).length≤4611686018427387904) (h9:dl b≤1048576) (h10:1≤List.length [aZ b]) (h11:((List.take 1 [aZ a]).length+(List.take 1 [aZ b]).length)*24≤140737488355328) (h12:(List.take 1 [aZ a]).length+(List.take 1 [aZ b]).length≤4611686018427387904) (h13:(List.take 1 [aZ a]).length≤(List.take 1 [aZ a]).length) (h14:dl d≤1048576) (h15:(List.take 1 [aZ a]).length+(List.take 1 [aZ b]).length≤((List.take 1 [aZ a]).take (List.take 1 [aZ a]).length++List.take 1 [aZ b]).length):FC Tryz.prog 86 [nuA a b c e d] (.agg [.lst (EK.sl (.int .i64)) [aZ a,aZ b],.ni d]):=eZ zl8 60 [3,3,2] (.c (beq_iff_eq.2 h1)<|.c (beq_iff_eq.2 h2)<|.c (beq_false_of_ne h3)<|.c h4<|.c h5<|.t h6<|.t h7<|.t h8<|.s (gv_2_s0 a b c e d)<|.c h9<|.c h10<|.t h11<|.t h12<|.t h13<|.s (gv_2_s1 a b c e d)<|.c h14<|.c h15<|.o<|.o<|.e) [0,0,0,0,0,1,0,0,0,0,0,0,2,0,0,0,0,0,0,3,0,0,0,0,0,0,4,5,6,7,8,0,4,5,6,7,8,5,6,7,8,9,9,0,0,0,0,10,11,12,13,14,0,10,11,12,13,14,11,12,13,14,15,15,0,0,16,17]
abbrev znq (a:Int) (b:Int) (c:Int) (e:Int) (d:Int):Row:=.flat [aD a,.wd a,aD b,.wd b,aD c,.wd c,aD e,.wd e,aD d,.wd d] true
abbrev znr (a:Int) (b:Int) (c:Int) (e:Int) (d:Int):AV:=.agg [aD a,.wd a,aD b,.wd b,aD c,.wd c,aD e,.wd e,aD d,.wd d]
abbrev zgD (c:Int):AV:=.lit (.bool (c.sign==0))
abbrev zns (a:Int):Row:=.lst (EK.sl (.int .i64)) [aZ a] false
abbrev gv_3_s0 (a b c e d:Int):St:=⟨sp 41 [(0,(znr a b c e d)),(1,.ref 0 0),(2,.ref 1 0),(3,.ref 2 0),(4,aI 3),(6,.ref 3 0),(7,aI 3),(8,aT),(9,.tt),(10,aI 3),(11,aI 2),(12,.ref 0 0),(13,.ref 0 4),(14,.agg [aD c,.wd c]),(15,aI c.sign),(16,(zgD c)),(17,(zgD c)),(18,aI 4),(19,aI 3),(20,.ref 0 0),(21,aI 3),(22,.own 0 0 3 2),(23,aI 3),(24,aI 0),(25,aT),(26,.ref 0 0),(27,.agg [aD a,.wd a]),(28,.ref 2 0),(29,aN),(30,.agg [aD a,.wd a]),(31,.ni a),(32,.own 4 0 1 1),(33,.own 5 0 1 1),(34,.ref 2 0)],[(znq a b c e d),.flat [aN,aN] true,.flat [.own 5 0 1 1,aN] true,.flat [aD a,.wd a] true,(zns a),.lst (EK.sl (.int .i64)) [aZ a] true],[2,3]⟩
abbrev gv_3_s1 (a b c e d:Int):St:=⟨sp 41 [(0,(znr a b c e d)),(1,.ref 0 0),(2,.ref 1 0),(3,.ref 2 0),(4,aI 3),(6,.ref 6 0),(7,aI 3),(8,aT),(9,.tt),(10,aI 3),(11,aI 2),(12,.ref 0 0),(13,.ref 0 4),(14,.agg [aD c,.wd c]),(15,aI c.sign),(16,(zgD c)),(17,(zgD c)),(18,aI 4),(19,aI 3),(20,.ref 0 0),(21,aI 3),(22,.own 0 0 3 2),(23,aI 3),(24,aI 1),(25,aT),(26,.ref 0 2),(27,.agg [aD b,.wd b]),(28,.ref 2 0),(29,.own 5 0 1 1),(30,.agg [aD b,.wd b]),(31,.ni b),(32,.own 7 0 1 1),(33,.own 8 0 2 1),(34,.ref 2 0),(35,aI 1)],[(znq a b c e d),.flat [aN,aN] true,.flat [.own 8 0 2 1,aN] true,.flat [aD a,.wd a] true,(zns a),.dead,.flat [aD b,.wd b] true,.lst (EK.sl (.int .i64)) [aZ b] false,.lst (EK.sl (.int .i64)) [aZ a,aZ b] true],[2,3,5,6]⟩
abbrev gv_3_s2 (a b c e d:Int):St:=⟨sp 41 [(0,(znr a b c e d)),(1,.ref 0 0),(2,.ref 1 0),(3,.ref 2 0),(4,aI 3),(6,.ref 9 0),(7,aI 3),(8,aT),(9,.tt),(10,aI 3),(11,aI 2),(12,.ref 0 0),(13,.ref 0 4),(14,.agg [aD c,.wd c]),(15,aI c.sign),(16,(zgD c)),(17,(zgD c)),(18,aI 4),(19,aI 3),(20,.ref 0 0),(21,aI 3),(22,.own 0 0 3 2),(23,aI 3),(24,aI 2),(25,aT),(26,.ref 0 4),(27,.agg [aD c,.wd c]),(28,.ref 2 0),(29,.own 8 0 2 1),(30,.agg [aD c,.wd c]),(31,.ni c),(32,.own 10 0 1 1),(33,.own 11 0 3 1),(34,.ref 2 0),(35,aI 2)],[(znq a b c e d),.flat [aN,aN] true,.flat [.own 11 0 3 1,aN] true,.flat [aD a,.wd a] true,(zns a),.dead,.flat [aD b,.wd b] true,.lst (EK.sl (.int .i64)) [aZ b] false,.dead,.flat [aD c,.wd c] true,.lst (EK.sl (.int .i64)) [aZ c] false,.lst (EK.sl (.int .i64)) [aZ a,aZ b,aZ c] true],[2,3,5,6,8,9]⟩
theorem gv_3 (a b c e d:Int) (h1:e.sign=0) (h2:c.sign≠0) (h3:dl a≤1048576) (h4:1≤List.length [aZ a]) (h5:0<(List.take 1 [aZ a]).length) (h6:(List.take 1 [aZ a]).length*24≤140737488355328) (h7:(List.take 1 [aZ a]).length≤4611686018427387904) (h8:dl b≤1048576) (h9:1≤List.length [aZ b]) (h10:((List.take 1 [aZ a]).length+(List.take 1 [aZ b]).length)*24≤140737488355328) (h11:(List.take 1 [aZ a]).length+(List.take 1 [aZ b]).length≤4611686018427387904) (h12:(List.take 1 [aZ a]).length≤(List.take 1 [aZ a]).length) (h13:dl c≤1048576) (h14:1≤List.length [aZ c]) (h15:((List.take 1 [aZ a]).length+(List.take 1 [aZ b]).length+(List.take 1 [aZ c]).length)*24≤140737488355328) (h16:(List.take 1 [aZ a]).length+(List.take 1 [aZ b]).length+(List.take 1 [aZ c]).length≤4611686018427387904) (h17:(List.take 1 [aZ a]).length+(List.take 1 [aZ b]).length≤((List.take 1 [aZ a]).take (List.take 1 [aZ a]).length++List.take 1 [aZ b]).length) (h18:dl d≤1048576) (h19:(List.take 1 [aZ a]).length+(List.take 1 [aZ b]).length+(List.take 1 [aZ c]).length≤(((List.take 1 [aZ a]).take (List.take 1 [aZ a]).length++List.take 1 [aZ b]).take ((List.take 1 [aZ a]).length+(List.take 1 [aZ b]).length)++List.take 1 [aZ c]).length):FC Tryz.prog 86 [nuA a b c e d] (.agg [.lst (EK.sl (.int .i64)) [aZ a,aZ b,aZ c],.ni d]):=eZ zl8 60 [3,2] (.c (beq_iff_eq.2 h1)<|.c (beq_false_of_ne h2)<|.c h3<|.c h4<|.t h5<|.t h6<|.t h7<|.s (gv_3_s0 a b c e d)<|.c h8<|.c h9<|.t h10<|.t h11<|.t h12<|.s (gv_3_s1 a b c e d)<|.c h13<|.c h14<|.t h15<|.t h16<|.t h17<|.s (gv_3_s2 a b c e d)<|.c h18<|.c h19<|.o<|.o<|.e) [0,0,0,0,0,1,0,0,0,0,0,0,2,0,0,0,0,0,0,3,4,5,6,7,0,3,4,5,6,7,4,5,6,7,8,8,0,0,0,0,9,10,11,12,13,0,9,10,11,12,13,10,11,12,13,14,14,0,0,0,0,15,16,17,18,19,0,15,16,17,18,19,16,17,18,19,20,20,0,0,21,22]
abbrev zkm (a:Int) (b:Int) (c:Int) (e:Int) (d:Int):Row:=.flat [aD a,.wd a,aD b,.wd b,aD c,.wd c,aD e,.wd e,aD d,.wd d] true
abbrev zkn (a:Int) (b:Int) (c:Int) (e:Int) (d:Int):AV:=.agg [aD a,.wd a,aD b,.wd b,aD c,.wd c,aD e,.wd e,aD d,.wd d]
abbrev zd6 (e:Int):AV:=.lit (.bool (e.sign==0))
abbrev zko (a:Int):Row:=.lst (EK.sl (.int .i64)) [aZ a] false
abbrev znt (b:Int):Row:=.lst (EK.sl (.int .i64)) [aZ b] false
abbrev zkp:Row:=.flat [aN,aN] true
abbrev gv_4_s0 (a b c e d:Int):St:=⟨sp 41 [(0,(zkn a b c e d)),(1,.ref 0 0),(2,.ref 1 0),(3,.ref 2 0),(4,aI 4),(6,.ref 3 0),(7,aI 4),(8,aT),(9,.tt),(10,aI 4),(11,aI 3),(12,.ref 0 0),(13,.ref 0 6),(14,.agg [aD e,.wd e]),(15,aI e.sign),(16,(zd6 e)),(17,(zd6 e)),(20,.ref 0 0),(21,aI 4),(22,.own 0 0 4 2),(23,aI 4),(24,aI 0),(25,aT),(26,.ref 0 0),(27,.agg [aD a,.wd a]),(28,.ref 2 0),(29,aN),(30,.agg [aD a,.wd a]),(31,.ni a),(32,.own 4 0 1 1),(33,.own 5 0 1 1),(34,.ref 2 0)],[(zkm a b c e d),zkp,.flat [.own 5 0 1 1,aN] true,.flat [aD a,.wd a] true,(zko a),.lst (EK.sl (.int .i64)) [aZ a] true],[2,3]⟩
abbrev gv_4_s1 (a b c e d:Int):St:=⟨sp 41 [(0,(zkn a b c e d)),(1,.ref 0 0),(2,.ref 1 0),(3,.ref 2 0),(4,aI 4),(6,.ref 6 0),(7,aI 4),(8,aT),(9,.tt),(10,aI 4),(11,aI 3),(12,.ref 0 0),(13,.ref 0 6),(14,.agg [aD e,.wd e]),(15,aI e.sign),(16,(zd6 e)),(17,(zd6 e)),(20,.ref 0 0),(21,aI 4),(22,.own 0 0 4 2),(23,aI 4),(24,aI 1),(25,aT),(26,.ref 0 2),(27,.agg [aD b,.wd b]),(28,.ref 2 0),(29,.own 5 0 1 1),(30,.agg [aD b,.wd b]),(31,.ni b),(32,.own 7 0 1 1),(33,.own 8 0 2 1),(34,.ref 2 0),(35,aI 1)],[(zkm a b c e d),zkp,.flat [.own 8 0 2 1,aN] true,.flat [aD a,.wd a] true,(zko a),.dead,.flat [aD b,.wd b] true,(znt b),.lst (EK.sl (.int .i64)) [aZ a,aZ b] true],[2,3,5,6]⟩
abbrev gv_4_s2 (a b c e d:Int):St:=⟨sp 41 [(0,(zkn a b c e d)),(1,.ref 0 0),(2,.ref 1 0),(3,.ref 2 0),(4,aI 4),(6,.ref 9 0),(7,aI 4),(8,aT),(9,.tt),(10,aI 4),(11,aI 3),(12,.ref 0 0),(13,.ref 0 6),(14,.agg [aD e,.wd e]),(15,aI e.sign),(16,(zd6 e)),(17,(zd6 e)),(20,.ref 0 0),(21,aI 4),(22,.own 0 0 4 2),(23,aI 4),(24,aI 2),(25,aT),(26,.ref 0 4),(27,.agg [aD c,.wd c]),(28,.ref 2 0),(29,.own 8 0 2 1),(30,.agg [aD c,.wd c]),(31,.ni c),(32,.own 10 0 1 1),(33,.own 11 0 3 1),(34,.ref 2 0),(35,aI 2)],[(zkm a b c e d),zkp,.flat [.own 11 0 3 1,aN] true,.flat [aD a,.wd a] true,(zko a),.dead,.flat [aD b,.wd b] true,(znt b),.dead,.flat [aD c,.wd c] true,.lst (EK.sl (.int .i64)) [aZ c] false,.lst (EK.sl (.int .i64)) [aZ a,aZ b,aZ c] true],[2,3,5,6,8,9]⟩
abbrev gv_4_s3 (a b c e d:Int):St:=⟨sp 41 [(0,(zkn a b c e d)),(1,.ref 0 0),(2,.ref 1 0),(3,.ref 2 0),(4,aI 4),(6,.ref 12 0),(7,aI 4),(8,aT),(9,.tt),(10,aI 4),(11,aI 3),(12,.ref 0 0),(13,.ref 0 6),(14,.agg [aD e,.wd e]),(15,aI e.sign),(16,(zd6 e)),(17,(zd6 e)),(20,.ref 0 0),(21,aI 4),(22,.own 0 0 4 2),(23,aI 4),(24,aI 3),(25,aT),(26,.ref 0 6),(27,.agg [aD e,.wd e]),(28,.ref 2 0),(29,.own 11 0 3 1),(30,.agg [aD e,.wd e]),(31,.ni e),(32,.own 13 0 1 1),(33,.own 14 0 4 1),(34,.ref 2 0),(35,aI 3)],[(zkm a b c e d),zkp,.flat [.own 14 0 4 1,aN] true,.flat [aD a,.wd a] true,(zko a),.dead,.flat [aD b,.wd b] true,(znt b),.dead,.flat [aD c,.wd c] true,.lst (EK.sl (.int .i64)) [aZ c] false,.dead,.flat [aD e,.wd e] true,.lst (EK.sl (.int .i64)) [aZ e] false,.lst (EK.sl (.int .i64)) [aZ a,aZ b,aZ c,aZ e] true],[2,3,5,6,8,9,11,12]⟩
theorem gv_4 (a b c e d:Int) (h1:e.sign≠0) (h2:dl a≤1048576) (h3:1≤List.length [aZ a]) (h4:0<(List.take 1 [aZ a]).length) (h5:(List.take 1 [aZ a]).length*24≤140737488355328) (h6:(List.take 1 [aZ a]).length≤4611686018427387904) (h7:dl b≤1048576) (h8:1≤List.length [aZ b]) (h9:((List.take 1 [aZ a]).length+(List.take 1 [aZ b]).length)*24≤140737488355328) (h10:(List.take 1 [aZ a]).length+(List.take 1 [aZ b]).length≤4611686018427387904) (h11:(List.take 1 [aZ a]).length≤(List.take 1 [aZ a]).length) (h12:dl c≤1048576) (h13:1≤List.length [aZ c]) (h14:((List.take 1 [aZ a]).length+(List.take 1 [aZ b]).length+(List.take 1 [aZ c]).length)*24≤140737488355328) (h15:(List.take 1 [aZ a]).length+(List.take 1 [aZ b]).length+(List.take 1 [aZ c]).length≤4611686018427387904) (h16:(List.take 1 [aZ a]).length+(List.take 1 [aZ b]).length≤((List.take 1 [aZ a]).take (List.take 1 [aZ a]).length++List.take 1 [aZ b]).length) (h17:dl e≤1048576) (h18:1≤List.length [aZ e]) (h19:((List.take 1 [aZ a]).length+(List.take 1 [aZ b]).length+(List.take 1 [aZ c]).length+(List.take 1 [aZ e]).length)*24≤140737488355328) (h20:(List.take 1 [aZ a]).length+(List.take 1 [aZ b]).length+(List.take 1 [aZ c]).length+(List.take 1 [aZ e]).length≤4611686018427387904) (h21:(List.take 1 [aZ a]).length+(List.take 1 [aZ b]).length+(List.take 1 [aZ c]).length≤(((List.take 1 [aZ a]).take (List.take 1 [aZ a]).length++List.take 1 [aZ b]).take ((List.take 1 [aZ a]).length+(List.take 1 [aZ b]).length)++List.take 1 [aZ c]).length) (h22:dl d≤1048576) (h23:(List.take 1 [aZ a]).length+(List.take 1 [aZ b]).length+(List.take 1 [aZ c]).length+(List.take 1 [aZ e]).length≤((((List.take 1 [aZ a]).take (List.take 1 [aZ a]).length++List.take 1 [aZ b]).take ((List.take 1 [aZ a]).length+(List.take 1 [aZ b]).length)++List.take 1 [aZ c]).take ((List.take 1 [aZ a]).length+(List.take 1 [aZ b]).length+(List.take 1 [aZ c]).length)++List.take 1 [aZ e]).length):FC Tryz.prog 86 [nuA a b c e d] (.agg [.lst (EK.sl (.int .i64)) [aZ a,aZ b,aZ c,aZ e],.ni d]):=eZ zl8 60 [2] (.c (beq_false_of_ne h1)<|.c h2<|.c h3<|.t h4<|.t h5<|.t h6<|.s (gv_4_s0 a b c e d)<|.c h7<|.c h8<|.t h9<|.t h10<|.t h11<|.s (gv_4_s1 a b c e d)<|.c h12<|.c h13<|.t h14<|.t h15<|.t h16<|.s (gv_4_s2 a b c e d)<|.c h17<|.c h18<|.t h19<|.t h20<|.t h21<|.s (gv_4_s3 a b c e d)<|.c h22<|.c h23<|.o<|.o<|.e) [0,0,0,0,0,1,0,0,0,0,0,0,2,3,4,5,6,0,2,3,4,5,6,3,4,5,6,7,7,0,0,0,0,8,9,10,11,12,0,8,9,10,11,12,9,10,11,12,13,13,0,0,0,0,14,15,16,17,18,0,14,15,16,17,18,15,16,17,18,19,19,0,0,0,0,20,21,22,23,24,0,20,21,22,23,24,21,22,23,24,25,25,0,0,26,27]
end
open Go.Kf
theorem tkSn {l:List Int} {k:Nat} (h:k<l.length):List.take k (List.take k l)++List.take 1 [l.getD k 0]=l.take (k+1):=by
 rw [List.take_take,Nat.min_self,List.take_succ_eq_append_getElem h]
 simp [List.getD,h]
def vlL (C:List (List Int)):List Int:=C.map vl
theorem zc2 (C:List (List Int)):(vlL C).length=C.length:=by simp [vlL]
theorem zk9 {C:List (List Int)} {i:Nat}:(vlL C).getD i 0=vl (C.getD i []):=by
 simp only [vlL,List.getD_eq_getElem?_getD,List.getElem?_map]
 cases C[i]? <;> rfl
def zpp (D:List Int):Int:=if vl D=0 then 1 else vl D
theorem denZ_ne (D:List Int):zpp D≠0:=by unfold zpp;split<;>omega
def pTk (p:List Int) (C:List (List Int)) (D:List Int):Prop:=(2≤p.length∧p.length≤5∧∀x∈p,x.natAbs≤1000)∧C.length≤100∧(∀l∈C,zbG l∧Sz 20000 (vl l))∧zbG D∧Sz 20000 (vl D)
theorem tk_loop {p D:List Int} {C:List (List Int)} (h:pTk p C D):∀(m i:Nat),i+m=C.length→1≤i →
 zhc (zi7 p C C.length D i i ((vlL C).take i)) (Ex.exit 0,zeK p C C.length D C.length C.length (vlL C))
 | 0,i,hi,_=>by
  obtain rfl:i=C.length:=by omega
  have:=tk_L0_1_1 p C C.length D C.length C.length ((vlL C).take C.length) (by omega)
  rw [show(vlL C).take C.length=vlL C by rw [← zc2,List.take_length]] at this ⊢
  exact this
 | m+1,i,hi,h1=>by
  have hlt:i<C.length:=by omega
  have hl:=h.2.1
  have hv:=zc2 C
  have ih:=tk_loop h m (i+1) (by omega) (by omega)
  have e1:Int.toNat (i:Int)=i:=rfl
  have hg:C.getD i []=C[i]:=by rw [List.getD_eq_getElem?_getD,List.getElem?_eq_getElem hlt];rfl
  have hp:zbG (C.getD i []):=by rw [hg];exact(h.2.2.1 _ (List.getElem_mem hlt)).1
  have go:=@tk_L0_1_0 p C C.length D i i ((vlL C).take i) (by omega) (by omega) (by omega) hp (by simp) (by simp;omega) (by simp;omega) (by rw [List.length_take];omega) (by omega) (Ex.exit 0,zeK p C C.length D C.length C.length (vlL C))
  rw [e1] at go
  rw [show List.take 1 [vl (C.getD i (EK.dflt (EK.sl (EK.int IntKind.i64))))]=List.take 1 [(vlL C).getD i 0] by rw [zk9];rfl,tkSn (by omega)] at go
  exact go ih
theorem redP_nil (p:List Int) (n:Nat):zat p n []=[]:=by unfold zat;rw [show([]:List Int).length-n=0 by simp];exact List.take_nil
theorem take_fc (p:List Int) (C:List (List Int)) (D:List Int) (h:pTk p C D):FC Tryz.prog 80 [reA (.lst .whole p),.agg [.lst (.sl (.int .i64)) C,.sq D]] (nuF (zat p (p.length-1) (vlL C)) (zpp D)):=by
 have h':=h
 obtain ⟨hp,hl,hC,hD,hsD⟩:=h'
 have hs:Int.sign (vl D)=0↔vl D=0:=Int.sign_eq_zero_iff_zero
 by_cases h0:C=[]
 ·subst h0
  have K:=tk_L0_0_1 p [] 0 D (by omega)
  rw [show vlL []=[] from rfl,redP_nil]
  by_cases hd:vl D=0
  ·have e:zpp D=1:=if_pos hd
   rw [e]
   exact tk_0 p [] D K hD (hs.2 hd) (by unfold cZ;omega) ⟨hp.1,hp.2.1,by decide,Sz.lit (by decide) (by decide)⟩
  ·have e:zpp D=vl D:=if_neg hd
   rw [e]
   exact tk_1 p [] D K hD (fun k=>hd (hs.1 k)) ⟨hp.1,hp.2.1,hd,hsD⟩
 ·have hpos:1≤C.length:=List.length_pos_iff.2 h0
  have hv:=zc2 C
  have hg:C.getD 0 []=C[0]:=by rw [List.getD_eq_getElem?_getD,List.getElem?_eq_getElem (by omega)];rfl
  have hp0:zbG (C.getD 0 []):=by rw [hg];exact(hC _ (List.getElem_mem (by omega))).1
  have L:=tk_loop h (C.length-1) 1 (by omega) (by omega)
  have e1:[vl (C.getD 0 [])]=(vlL C).take 1:=by
   have:=tkSn (l:=vlL C) (k:=0) (by omega)
   rw [zk9] at this
   rw [← this];rfl
  have K:zhc (zfh p C C.length D) (Ex.exit 0,zeK p C C.length D C.length C.length (vlL C)):=by
   refine tk_L0_0_0 p C C.length D (by omega) (by omega) hp0 (by simp) (by simp) (by simp) (by simp) ?_
   rw [← e1] at L
   exact L
  have tl:List.take C.length (vlL C)=vlL C:=by rw [← hv,List.take_length]
  have hz:∀j,Sz 20000 ((vlL C).getD j 0):=fun j=>by
   rw [zk9,List.getD_eq_getElem?_getD]
   by_cases hj:j<C.length
   ·rw [List.getElem?_eq_getElem hj];exact(hC _ (List.getElem_mem hj)).2
   ·rw [List.getElem?_eq_none (by omega)];exact Sz.zero
  have hne:vlL C≠[]:=fun e=>by rw [e] at hv;simp at hv;omega
  by_cases hd:vl D=0
  ·have e:zpp D=1:=if_pos hd
   rw [e]
   have:=tk_2 p C D C.length C.length (vlL C) K hD (hs.2 hd) (by unfold cZ;omega) (by omega) (by rw [tl];exact ⟨hp,hne,by omega,hz,by decide,Sz.lit (by decide) (by decide)⟩)
   rw [tl] at this
   exact this
  ·have e:zpp D=vl D:=if_neg hd
   rw [e]
   have:=tk_3 p C D C.length C.length (vlL C) K hD (fun k=>hd (hs.1 k)) (by omega) (by rw [tl];exact ⟨hp,hne,by omega,hz,hd,hsD⟩)
   rw [tl] at this
   exact this
def gvZ (a b c e d:Int):numK.ty:=((za4 [a,b,c,e]).map aZ,aZ d)
def pGv (a b c e d:Int):Prop:=zaP a∧zaP b∧zaP c∧zaP e∧zaP d
theorem Le.ni_sq (z:Int):Le (.ni z) (.sq (aZ z)):=fun E v h=>h.toSq rfl
theorem give_fc (a b c e d:Int) (h:pGv a b c e d):FC Tryz.prog 86 [nuA a b c e d] (numK.val (gvZ a b c e d)):=by
 obtain ⟨ha,hb,hc,he,hd⟩:=h
 have s0:∀ {z:Int},Int.sign z=0↔z=0:=Int.sign_eq_zero_iff_zero
 have fin:∀ {x:AV} {l:List (List Int)},Le x (.lst (.sl (.int .i64)) l)→Le (.agg [x,.ni d]) (.agg [.lst (.sl (.int .i64)) l,.sq (aZ d)]):=fun h=>Le.agg (.cons h (.cons (Le.ni_sq d) .nil))
 by_cases h3:e=0
 ·by_cases h2:c=0
  ·by_cases h1:b=0
   ·by_cases h0:a=0
    ·have ht:za4 [a,b,c,e]=[]:=by rw [h0,h1,h2,h3];rfl
     unfold gvZ;rw [ht]
     exact(gv_0 a b c e d (s0.2 h3) (s0.2 h2) (s0.2 h1) (s0.2 h0) hd).le (LeL.refl _) (fin (zkB _))
    ·have ht:za4 [a,b,c,e]=[a]:=by rw [h1,h2,h3];simp [za4,h0]
     unfold gvZ;rw [ht]
     exact(gv_1 a b c e d (s0.2 h3) (s0.2 h2) (s0.2 h1) (fun k=>h0 (s0.1 k)) ha (by simp) (by simp) (by simp) (by simp) hd (by simp)).le (LeL.refl _) (fin (Le.refl _))
   ·have ht:za4 [a,b,c,e]=[a,b]:=by rw [h2,h3];simp [za4,h1]
    unfold gvZ;rw [ht]
    exact(gv_2 a b c e d (s0.2 h3) (s0.2 h2) (fun k=>h1 (s0.1 k)) ha (by simp) (by simp) (by simp) (by simp) hb (by simp) (by simp) (by simp) (by simp) hd (by simp)).le (LeL.refl _) (fin (Le.refl _))
  ·have ht:za4 [a,b,c,e]=[a,b,c]:=by rw [h3];simp [za4,h2]
   unfold gvZ;rw [ht]
   exact(gv_3 a b c e d (s0.2 h3) (fun k=>h2 (s0.1 k)) ha (by simp) (by simp) (by simp) (by simp) hb (by simp) (by simp) (by simp) (by simp) hc (by simp) (by simp) (by simp) (by simp) hd (by simp)).le (LeL.refl _) (fin (Le.refl _))
 ·have ht:za4 [a,b,c,e]=[a,b,c,e]:=by simp [za4,h3]
  unfold gvZ;rw [ht]
  exact(gv_4 a b c e d (fun k=>h3 (s0.1 k)) ha (by simp) (by simp) (by simp) (by simp) hb (by simp) (by simp) (by simp) (by simp) hc (by simp) (by simp) (by simp) (by simp) he (by simp) (by simp) (by simp) (by simp) hd (by simp)).le (LeL.refl _) (fin (Le.refl _))
noncomputable section
theorem np_0 (a b c e d f g h i j:Int):FunI (dZ Tryz.prog ctrL bw) 60 92 [nuA a b c e d,nuA f g h i j] [1,1,1,1,0] [] [0,0,1,0,0,0,0,0,0,0,2,0,0,3,0,0,4,0,0,0,0,0,0,0,0,0,0,5,0,0,6,0,0,7,0,0,0,0,0,0,0,0,0,0,8,0,0,9,0,0,10,0,0,0,0,0,0,0,0,0,0,11,0,0,12,0,0,13,0,0,0,0,0,0,0,0,0,14] (.agg [.lit (.bool (decide ((a*j+f*d) / gc5 (a*j+f*d) (b*j+g*d) (c*j+h*d) (e*j+i*d) (d*j)<0))),.wd ((a*j+f*d) / gc5 (a*j+f*d) (b*j+g*d) (c*j+h*d) (e*j+i*d) (d*j)),.lit (.bool (decide ((b*j+g*d) / gc5 (a*j+f*d) (b*j+g*d) (c*j+h*d) (e*j+i*d) (d*j)<0))),.wd ((b*j+g*d) / gc5 (a*j+f*d) (b*j+g*d) (c*j+h*d) (e*j+i*d) (d*j)),.lit (.bool (decide ((c*j+h*d) / gc5 (a*j+f*d) (b*j+g*d) (c*j+h*d) (e*j+i*d) (d*j)<0))),.wd ((c*j+h*d) / gc5 (a*j+f*d) (b*j+g*d) (c*j+h*d) (e*j+i*d) (d*j)),.lit (.bool (decide ((e*j+i*d) / gc5 (a*j+f*d) (b*j+g*d) (c*j+h*d) (e*j+i*d) (d*j)<0))),.wd ((e*j+i*d) / gc5 (a*j+f*d) (b*j+g*d) (c*j+h*d) (e*j+i*d) (d*j)),.lit (.bool (decide (d*j / gc5 (a*j+f*d) (b*j+g*d) (c*j+h*d) (e*j+i*d) (d*j)<0))),.wd (d*j / gc5 (a*j+f*d) (b*j+g*d) (c*j+h*d) (e*j+i*d) (d*j))]) [pDD d j,pDD a j,pDD f d,pDD (a*j) (f*d),pDD b j,pDD g d,pDD (b*j) (g*d),pDD c j,pDD h d,pDD (c*j) (h*d),pDD e j,pDD i d,pDD (e*j) (i*d),pNu (a*j+f*d) (b*j+g*d) (c*j+h*d) (e*j+i*d) (d*j)]:={}
end
theorem pNu_sz {a b c e d:Int} {i j k m n:Nat} [ha:SzC a i] [hb:SzC b j] [hc:SzC c k] [he:SzC e m] [hd:SzC d n] (h0:d≠0) (hi:i≤50000) (hj:j≤50000) (hk:k≤50000) (hm:m≤50000) (hn:n≤50000):pNu a b c e d:=
 ⟨h0,ha.ok.mono hi,hb.ok.mono hj,hc.ok.mono hk,he.ok.mono hm,hd.ok.mono hn⟩
def pNs (a b c e d:Int):Prop:=d≠0∧Sz 2000 a∧Sz 2000 b∧Sz 2000 c∧Sz 2000 e∧Sz 2000 d
instance tstNs {a b c e d:Int}:Tst (pNs a b c e d):=inferInstanceAs (Tst (d≠0∧Sz 2000 a∧Sz 2000 b∧Sz 2000 c∧Sz 2000 e∧Sz 2000 d))
theorem zor (a b c e d f g h i j:Int) (hx:pNs a b c e d) (hy:pNs f g h i j) :
 FC Tryz.prog 92 [nuA a b c e d,nuA f g h i j] (loA (a*j+f*d) (b*j+g*d) (c*j+h*d) (e*j+i*d) (d*j)):=by
 obtain ⟨hd,h1,h2,h3,h4,h5⟩:=hx
 obtain ⟨hj,k1,k2,k3,k4,k5⟩:=hy
 have ia:SzC a 2000:=⟨h1⟩
 have ib:SzC b 2000:=⟨h2⟩
 have ic:SzC c 2000:=⟨h3⟩
 have ie:SzC e 2000:=⟨h4⟩
 have id:SzC d 2000:=⟨h5⟩
 have if':SzC f 2000:=⟨k1⟩
 have ig:SzC g 2000:=⟨k2⟩
 have ih:SzC h 2000:=⟨k3⟩
 have ii:SzC i 2000:=⟨k4⟩
 have ij:SzC j 2000:=⟨k5⟩
 have hm:d*j≠0:=Int.mul_ne_zero hd hj
 exact mZ okL (np_0 a b c e d f g h i j) (by(repeat' (first | exact AllC.nil | refine AllC.cons ?_ ?_));all_goals (first | (with_reducible rfl) | (with_reducible exact nZ (by decide) (by decide)) | (with_reducible exact pNu_sz (by assumption) (by decide) (by decide) (by decide) (by decide) (by decide)) | rfl | trivial))
def cNp (args:List AV):M AV:=match args with
 | [x,y]=>do
  let q ← zrY x
  let q2 ← zrY y
  match q,q2 with
  | (a,b,c,e,d),(f,g,h,i,j)=>do
   tellD (pNs a b c e d∧pNs f g h i j) (Tst.b (pNs a b c e d∧pNs f g h i j))
   gives (loA (a*j+f*d) (b*j+g*d) (c*j+h*d) (e*j+i*d) (d*j))
 | _=>fail 262
theorem cNp_ok:kZ Tryz.prog 92 cNp:=by
 intro args _
 unfold cNp
 split
 ·exact Spec.bind (asNu_spec.mono fun q hq=>Spec.bind (asNu_spec.mono fun q2 hq2=>Spec.bind (Spec.tellD Tst.ok fun h=>Spec.gives ((zor _ _ _ _ _ _ _ _ _ _ h.1 h.2).le (.cons hq (.cons hq2 .nil)) (Le.refl _)))))
 ·exact Spec.fail
end Go.Proofs.YtloaeinogiplbaaGreatDoor
end
