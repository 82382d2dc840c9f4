/- Part of a proof about a given program: see the last module of the claim. -/
import Derived.Test.YtagbldogmjhdpaaGreatDoorI
import Derived.Test.YtagbldogmjhdpaaGreatDoorH
import Derived.Test.YtagbldogmjhdpaaGreatDoorF
import Derived.Test.YtagbldogmjhdpaaGreatDoorC
section
open Go Go.Ev Go.RowKit
namespace Go.Proofs.YtagbldogmjhdpaaGreatDoor
open Go.Proofs
set_option maxRecDepth 100000
set_option maxHeartbeats 1000000
set_option linter.unusedVariables false
set_option linter.unusedSimpArgs false
noncomputable section
end
open Go.Kf
open Go.Kf.V (e0)
theorem vz_tk {p:List Int} {x:NT} (hx:Gd p x) {m:Nat} (hb:Bd m (tkN p x)):Vz p m (toN (tkN p x)) (nv (qO p) (tkN p x)):=vz_to (HZ hx) rfl hb
def pQuo (p:List Int) (x y:NT):Prop:=pQu p x y∧Bd 100 (tkN p y)
theorem RQuo_fc {p:List Int} {x y:NT} (h:pQuo p x y):FC tP 17 [reT (.lst .whole p) (.lst .whole (trZ p)),numK.val x,numK.val y] (quA p x y):=by
 obtain ⟨⟨hI,gx,gy,sy⟩,b100⟩:=h
 have hP:=gx.1.1
 have h1:=qO_1 hP
 have h4:=ziH hP
 have hl:=zdT hP
 have ey:ofN (toN (tkN p y))=tkN p y:=znW (HZ gy)
 have ex:ofN (toN (tkN p x))=tkN p x:=znW (HZ gx)
 by_cases hz:isZ (tkN p y)
 ·unfold quA quN quE
  rw [if_pos hz,if_pos hz]
  exact(qo_0 p (trZ p) x y (fun _=>dN) gy.1 (by rw [← ey] at hz;exact hz)).res fun E v hv=>hv.tup2 (fun _ hu=>hu.agg2 (fun _ h=>zeg _ E _ h) (fun _ h=>h.toSq (l:=[]) rfl)) fun _ hu=>hu
 ·have hv0:nv (qO p) (tkN p y)≠V.zero:=fun h=>hz ((zmK (HZ gy)).2 h)
  obtain ⟨_,hnW,hmW,hbW⟩:=ivW_ok hP hI gy sy hv0
  have vy:=vz_tk gy b100
  have vx:=vz_tk gx gx.2
  have hS:Sup (qO p).length (nv (qO p) (tkN p y)):=zks h1 _ _
  have hdet:=det_ne h1 h4 hI hS hv0
  obtain ⟨hc0,hinv⟩:=rs_inv (p:=pV (qO p)) h1 h4 hS hdet
  have hn4:p.length-1≤4:=by have:=hP.2.1;omega
  obtain ⟨l1,_,hcs⟩:=ziU hP vy (p.length-1) hn4
  have r:=run9 hP vy (Nat.le_refl _) hn4
  have hrs:=roT_vz hP vy (cs:=csT p (trZ p) (toN (tkN p y)) (p.length-1)) (c:=nwC (txp (qO p).length (pV (qO p)) (nv (qO p) (tkN p y))) (p.length-1)) (N:=p.length-2) (by omega) (fun i hi=>hcs i (by omega)) (p.length-2) (Nat.le_refl _)
  have hla:=hcs (p.length-2) (by have:=hP.1;omega)
  have hch:nwC (txp (qO p).length (pV (qO p)) (nv (qO p) (tkN p y))) (p.length-1)=chP (qO p).length (pV (qO p)) (nv (qO p) (tkN p y)):=by unfold chP;rw [hl]
  rw [hch] at hrs hla
  rw [show(qO p).length-1=p.length-2 by omega] at hc0 hinv
  generalize hC:(chP (qO p).length (pV (qO p)) (nv (qO p) (tkN p y))).getD (p.length-2) 0=c at *
  generalize hK:csT p (trZ p) (toN (tkN p y)) (p.length-1)=K at *
  generalize hR:roT p (toN (tkN p y)) K (p.length-2)=R at *
  generalize hLa:K.getD (p.length-2) dN=la at *
  have hp:=hla.nr.pos
  have hd0:la.2.2.2.2≠0:=Int.ne_of_gt hp
  have hdR:=za8 hd0
  have hval:((la.1:Int):Rat)*((la.2.2.2.2:Int):Rat)⁻¹=c:=by
   have e:=nv_get hla.nr 0
   rw [hla.va] at e
   replace e:c*1=((la.1:Int):Rat)*((la.2.2.2.2:Int):Rat)⁻¹:=e
   rw [← e,Rat.mul_one]
  have ha0:la.1≠0:=fun h=>hc0 (by simp_all)
  have haR:=za8 ha0
  have hna:-la.1≠0:=fun h=>ha0 (Int.neg_eq_zero.1 h)
  have cb:=cB_le (D:=100+10) (i:=p.length-2) (by omega)
  have sa:Sz 4000 (-la.1):=((hla.bd.2 0).mono (by omega):Sz 4000 la.1).neg
  have sd:Sz 4000 la.2.2.2.2:=hla.bd.1.mono (by omega)
  have vf:=vz_fr hP (a:=la.2.2.2.2) (b:=-la.1) (m:=4000) hna sd sa
  have rb:1+(p.length-2)*(257+12*(100+10))≤4732:=by
   omega
  have vi:=znd hP hrs vf
  have e1:ofN (tmT p R (frT p la.2.2.2.2 (-la.1)))=ivW p y:=by
   refine nv_inj vi.nr hnW (inv_one h1 hS (zks h1 _ _) (zks h1 _ _) ?_ hmW)
   rw [vi.va]
   have hq:((la.2.2.2.2:Int):Rat) / ((-la.1:Int):Rat)=(-c)⁻¹:=by
    grind
   rw [hq]
   have hS2:Sup (qO p).length (rsV (qO p).length (pV (qO p)) (nv (qO p) (tkN p y)) (chP (qO p).length (pV (qO p)) (nv (qO p) (tkN p y))) (p.length-2)):=zm9 h1 hS _ _
   rw [zi6,RZ hS2 (zcQ h1),ziX h1 hS2]
   exact hinv
  obtain ⟨L,e994,e993,e992⟩:∃L:Nat→N5,L 994=frT p la.2.2.2.2 (-la.1)∧L 993=tmT p R (frT p la.2.2.2.2 (-la.1))∧L 992=tmT p (toN (tkN p x)) (tmT p R (frT p la.2.2.2.2 (-la.1))):=
   ⟨fun i=>if i=994 then frT p la.2.2.2.2 (-la.1) else if i=993 then tmT p R (frT p la.2.2.2.2 (-la.1)) else tmT p (toN (tkN p x)) (tmT p R (frT p la.2.2.2.2 (-la.1))),by simp,by simp,by simp⟩
  have hxi:Vz p 9000 (tmT p R (frT p la.2.2.2.2 (-la.1))) _:=vi.mono (by omega)
  have hout:ofN (tmT p (toN (tkN p x)) (tmT p R (frT p la.2.2.2.2 (-la.1))))=tmN p (tkN p x) (ivW p y):=by
   have n3:=zl4 hP (HZ gx) hnW gx.2 hbW
   unfold tmT
   unfold tmT at e1
   rw [e1,ex,znW n3.1]
  have go:=qo_1 p (trZ p) x y L gy.1 (fun h=>hz (by rw [← ey];exact h)) ⟨rfl,hP,100,_,vy,Nat.le_refl _⟩
  replace go:=go (show r64 (((csT p (trZ p) (toN (tkN p y)) (p.length-1)).length:Int)-1) by grind)
   (show 0≤((csT p (trZ p) (toN (tkN p y)) (p.length-1)).length:Int)-1 by grind)
   (show((csT p (trZ p) (toN (tkN p y)) (p.length-1)).length:Int)-1<((csT p (trZ p) (toN (tkN p y)) (p.length-1)).length:Int) by omega)
  have hi:(((csT p (trZ p) (toN (tkN p y)) (p.length-1)).length:Int)-1).toNat=p.length-2:=by rw [hK,l1];omega
  have hg:(csT p (trZ p) (toN (tkN p y)) (p.length-1)).getD ((((csT p (trZ p) (toN (tkN p y)) (p.length-1)).length:Int)-1).toNat) dN=la:=by rw [hi,hK,hLa]
  have n3:=zl4 hP (HZ gx) hnW gx.2 hbW
  have hgv:pGvN (ofN (L 992)):=by rw [e992,hout];exact zkE n3.2.2 (by decide)
  replace go:=go (show zgb p [((csT p (trZ p) (toN (tkN p y)) (p.length-1)).getD ((((csT p (trZ p) (toN (tkN p y)) (p.length-1)).length:Int)-1).toNat) dN).2.2.2.2] (-((csT p (trZ p) (toN (tkN p y)) (p.length-1)).getD ((((csT p (trZ p) (toN (tkN p y)) (p.length-1)).length:Int)-1).toNat) dN).1)∧frT p ((csT p (trZ p) (toN (tkN p y)) (p.length-1)).getD ((((csT p (trZ p) (toN (tkN p y)) (p.length-1)).length:Int)-1).toNat) dN).2.2.2.2 (-((csT p (trZ p) (toN (tkN p y)) (p.length-1)).getD ((((csT p (trZ p) (toN (tkN p y)) (p.length-1)).length:Int)-1).toNat) dN).1)=L 994 by
   rw [hg,e994]
   exact ⟨frd hP hna (sd.mono (by decide)) (sa.mono (by decide)),rfl⟩)
   (show(za7 p∧pP5 (roT p (toN (tkN p y)) (csT p (trZ p) (toN (tkN p y)) (p.length-1)) (p.length-2)) (L 994))∧tmT p (roT p (toN (tkN p y)) (csT p (trZ p) (toN (tkN p y)) (p.length-1)) (p.length-2)) (L 994)=L 993 by
    rw [hK,hR,e994,e993]
    exact ⟨⟨hP,hrs.p5 vf (by omega) (by decide)⟩,rfl⟩) gx.1
   (show(za7 p∧pP5 (toN (tkN p x)) (L 993))∧tmT p (toN (tkN p x)) (L 993)=L 992 by
    rw [e993,e992]
    exact ⟨⟨hP,vx.p5 hxi (by decide) (Nat.le_refl _)⟩,rfl⟩) hgv
  unfold quA quN quE
  rw [if_neg hz,if_neg hz,← hout,← e992]
  exact go
noncomputable section
end
open Go.Kf
noncomputable section
theorem sv_0 (a b c d:zad) (h1:pNl (a,b).fst∧pNl (c,d).fst) (h2:(a,b).fst=(c,d).fst) (h3:pNl (a,b).snd∧pNl (c,d).snd):FC tP 40 [vecK.val (a,b),vecK.val (c,d)] (.lit (.bool (decide ((a,b).snd=(c,d).snd)))):=dZ okD 60 [1] (.c h1<|.t h2<|.c h3<|.e) [1,2,3]
theorem sv_1 (a b c d:zad) (h1:pNl (a,b).fst∧pNl (c,d).fst) (h2:¬((a,b).fst=(c,d).fst)):FC tP 40 [vecK.val (a,b),vecK.val (c,d)] (.ff):=dZ okD 60 [0] (.c h1<|.f h2<|.e) [1,2]
theorem sm_0 (a b c d f g i j:zad) (h1:pNl (a,b,c,d).fst∧pNl (f,g,i,j).fst) (h2:(a,b,c,d).fst=(f,g,i,j).fst) (h3:pNl (a,b,c,d).snd.fst∧pNl (f,g,i,j).snd.fst) (h4:(a,b,c,d).snd.fst=(f,g,i,j).snd.fst) (h5:pNl (a,b,c,d).snd.snd.fst∧pNl (f,g,i,j).snd.snd.fst) (h6:(a,b,c,d).snd.snd.fst=(f,g,i,j).snd.snd.fst) (h7:pNl (a,b,c,d).snd.snd.snd∧pNl (f,g,i,j).snd.snd.snd):FC tP 47 [matK.val (a,b,c,d),matK.val (f,g,i,j)] (.lit (.bool (decide ((a,b,c,d).snd.snd.snd=(f,g,i,j).snd.snd.snd)))):=dZ okD 60 [1,1,1] (.c h1<|.t h2<|.c h3<|.t h4<|.c h5<|.t h6<|.c h7<|.e) [1,2,3,4,5,6,7]
theorem sm_1 (a b c d g i j l:zad) (h1:pNl (a,b,c,d).fst∧pNl (g,i,j,l).fst) (h2:(a,b,c,d).fst=(g,i,j,l).fst) (h3:pNl (a,b,c,d).snd.fst∧pNl (g,i,j,l).snd.fst) (h4:(a,b,c,d).snd.fst=(g,i,j,l).snd.fst) (h5:pNl (a,b,c,d).snd.snd.fst∧pNl (g,i,j,l).snd.snd.fst) (h6:¬((a,b,c,d).snd.snd.fst=(g,i,j,l).snd.snd.fst)):FC tP 47 [matK.val (a,b,c,d),matK.val (g,i,j,l)] (.ff):=dZ okD 60 [1,1,0] (.c h1<|.t h2<|.c h3<|.t h4<|.c h5<|.f h6<|.e) [1,2,3,4,5,6]
theorem sm_2 (a b c d g i j l:zad) (h1:pNl (a,b,c,d).fst∧pNl (g,i,j,l).fst) (h2:(a,b,c,d).fst=(g,i,j,l).fst) (h3:pNl (a,b,c,d).snd.fst∧pNl (g,i,j,l).snd.fst) (h4:¬((a,b,c,d).snd.fst=(g,i,j,l).snd.fst)):FC tP 47 [matK.val (a,b,c,d),matK.val (g,i,j,l)] (.ff):=dZ okD 60 [1,0] (.c h1<|.t h2<|.c h3<|.f h4<|.e) [1,2,3,4]
theorem sm_3 (a b c d g i j l:zad) (h1:pNl (a,b,c,d).fst∧pNl (g,i,j,l).fst) (h2:¬((a,b,c,d).fst=(g,i,j,l).fst)):FC tP 47 [matK.val (a,b,c,d),matK.val (g,i,j,l)] (.ff):=dZ okD 60 [0] (.c h1<|.f h2<|.e) [1,2]
end
def pVe (x:zad × zad):Prop:=pNl x.1∧pNl x.2
def pMa (x:zad × zad × zad × zad):Prop:=pNl x.1∧pNl x.2.1∧pNl x.2.2.1∧pNl x.2.2.2
instance tVe {x:zad × zad}:Tst (pVe x):=inferInstanceAs (Tst (_∧_))
instance tMa {x:zad × zad × zad × zad}:Tst (pMa x):=inferInstanceAs (Tst (pNl x.1∧pNl x.2.1∧pNl x.2.2.1∧pNl x.2.2.2))
theorem zrj (x y:zad × zad) (h:pVe x∧pVe y):FC tP 40 [vecK.val x,vecK.val y] (.lit (.bool (decide (x=y)))):=by
 obtain ⟨a,b⟩:=x
 obtain ⟨c,d⟩:=y
 obtain ⟨⟨h1,h2⟩,h3,h4⟩:=h
 by_cases e:a=c
 ·have:=sv_0 a b c d ⟨h1,h3⟩ e ⟨h2,h4⟩
  rwa [show decide ((a,b)=(c,d))=decide (b=d) from decide_eq_decide.2 ⟨fun h=>(Prod.mk.inj h).2,fun h=>Prod.ext e h⟩]
 ·exact litB (fun h=>absurd (Prod.mk.inj h).1 e) fun _=>sv_1 a b c d ⟨h1,h3⟩ e
theorem zrh (x y:zad × zad × zad × zad) (h:pMa x∧pMa y):FC tP 47 [matK.val x,matK.val y] (.lit (.bool (decide (x=y)))):=by
 obtain ⟨a,b,c,d⟩:=x
 obtain ⟨a',b',c',d'⟩:=y
 obtain ⟨⟨h1,h2,h3,h4⟩,k1,k2,k3,k4⟩:=h
 by_cases e1:a=a'
 case neg=>exact litB (fun h=>absurd (Prod.mk.inj h).1 e1) fun _=>sm_3 a b c d a' b' c' d' ⟨h1,k1⟩ e1
 by_cases e2:b=b'
 case neg=>exact litB (fun h=>absurd (Prod.mk.inj (Prod.mk.inj h).2).1 e2) fun _=>sm_2 a b c d a' b' c' d' ⟨h1,k1⟩ e1 ⟨h2,k2⟩ e2
 by_cases e3:c=c'
 case neg=>exact litB (fun h=>absurd (Prod.mk.inj (Prod.mk.inj (Prod.mk.inj h).2).2).1 e3) fun _=>sm_1 a b c d a' b' c' d' ⟨h1,k1⟩ e1 ⟨h2,k2⟩ e2 ⟨h3,k3⟩ e3
 have:=sm_0 a b c d a' b' c' d' ⟨h1,k1⟩ e1 ⟨h2,k2⟩ e2 ⟨h3,k3⟩ e3 ⟨h4,k4⟩
 rwa [show decide ((a,b,c,d)=(a',b',c',d'))=decide (d=d') from decide_eq_decide.2 ⟨fun h=>(Prod.mk.inj (Prod.mk.inj (Prod.mk.inj h).2).2).2,fun h=>by rw [e1,e2,e3,h]⟩]
def ctrS:Ctr:=(40,cD2 vecK vecK (fun x y=>pVe x∧pVe y) (fun A B=>.lit (.bool (decide (A=B))))) :: (47,cD2 matK matK (fun x y=>pMa x∧pMa y) (fun A B=>.lit (.bool (decide (A=B))))) :: ctrD
theorem znB:∀p∈ctrS,jZ tP p.1 p.2:=CAll.cons (zb5 zrj)<|CAll.cons (zb5 zrh) zny
open Go.Kf
noncomputable def ctrV1:Ctr:=(33,cOpen) :: (32,cFd (fun _ _ _ _=>True) (fun l a b d=>lI (zbw l a b d))) :: ctrS
abbrev kdV:List (TypeId × EK):=[(27,numK)]
theorem zg6:∀p∈ctrV1,jZ tP p.1 p.2:=CAll.cons cOpen_ok<|CAll.cons (ziP fun l a b d _=>rcheck_fc l a b d) znB
theorem okV1:(eZ tP ctrV1 bw).OK:=JZ zg6
theorem okV1k:(eZ tP ctrV1 bw [] kdV).OK:=vZ zaC mixed zg6 zaA
noncomputable section
theorem rop_0 (p:List Int) (a b d:Int) (h1:zbw p a b d≠0):FC tP 72 [.agg [.sq p,lI a,lI b,lI d]] (.tup [.agg [aN,aI 0,aI 0,aI 0],aI (zbw p a b d)]):=dZ okV1 60 [1] (.c (bne_iff_ne.2 h1)<|.e) [0,1]
theorem rop_1 (p:List Int) (a b d:Int) (h1:zbw p a b d=0) (h2:(0+p.length)*8≤140737488355328) (h3:0+p.length≤4611686018427387904) (h4:0+p.length≤(List.take 0 []++p).length):FC tP 72 [.agg [.sq p,lI a,lI b,lI d]] (.tup [.agg [.sq ((List.take 0 []++p).take (0+p.length)),aI a,aI b,aI d],aI 0]):=dZ okV1 60 [0] (.c (bne_eq_false_iff_eq.2 h1)<|.t h2<|.t h3<|.c (show decide (p.length=p.length)=true from decide_eq_true rfl)<|.c h4<|.e) [0,1,2,3,0,4,5]
abbrev zfn (s:St) (r:Ex × St):Prop:=Loops 0 tP (kZ tP 14 0) s r
abbrev zaX (a:List (List (List Int) × List Int)) (b:Int):St:=⟨sp 16 [(0,.lst (EK.pr (EK.sl KI) KI) a),(3,aI b)],[],[]⟩
abbrev zh6 (a:List (List (List Int) × List Int)):St:=⟨sp 16 [(2,.ff)],[],[]⟩
abbrev zh7 (a:List (List (List Int) × List Int)) (b:Int):St:=⟨sp 16 [(0,.lst (EK.pr (EK.sl KI) KI) a),(3,aI b)],[],[]⟩
theorem zrn (a:List (List (List Int) × List Int)) (b:Int) (h1:b<(a.length:Int)) (h2:0≤b) (h3:¬(shN (a.getD b.toNat (EK.dflt (EK.pr (EK.sl KI) KI))) 2)):zfn (zaX a b) (Ex.ret,(zh6 a)):=LF (LS.at okV1k 60 [] [2] [] [1,1] (.t h1<|.t h2<|.y h3<|.e) [1,2,1,0,3])
theorem zro (a:List (List (List Int) × List Int)) (b:Int) (h1:b<(a.length:Int)) (h2:0≤b) (h3:shN (a.getD b.toNat (EK.dflt (EK.pr (EK.sl KI) KI))) 2) (h4:r64 (b+1)):LG zfn (zaX a b) (zaX a (b+1)):=Loops.go (LS.at okV1k 60 [] [0,3] [] [1,0] (.t h1<|.t h2<|.x h3<|.i h4<|.e) [1,2,1,0,3,4])
theorem zrp (a:List (List (List Int) × List Int)) (b:Int) (h1:¬(b<(a.length:Int))):zfn (zaX a b) (Ex.exit 0,(zh7 a b)):=LF (LS.at okV1k 60 [] [0,3] [] [0] (.f h1<|.e) [1])
theorem sml_0 (l:List numK.ty) (hL1:zfn (zaX l (0)) (Ex.ret,(zh6 l))):FC tP 14 [.lst numK l] (.ff):=dZ okV1k 60 [] (.v [0,3] [] hL1<|.e) [0,1]
theorem sml_1 (l:List numK.ty) (a:Int) (hL1:zfn (zaX l (0)) (Ex.exit 0,(zh7 l a))):FC tP 14 [.lst numK l] (.tt):=dZ okV1k 60 [] (.v [0,3] [] hL1<|.e) [0,1]
end
theorem zkq (l:List numK.ty) (hl:l.length≤100):∀(n i:Nat),i+n=l.length →
 (∀x∈l.drop i,shN x 2)∧zfn (zaX l i) (Ex.exit 0,zh7 l l.length)∨(¬ ∀x∈l.drop i,shN x 2)∧zfn (zaX l i) (Ex.ret,zh6 l)
 | 0,i,hi=>by
  obtain rfl:i=l.length:=by omega
  exact .inl ⟨by simp,zrp l _ (by omega)⟩
 | n + 1,i,hi=>by
  have hlt:i<l.length:=by omega
  have hg:l.getD (Int.toNat (i:Int)) (EK.dflt numK)=l[i]:=by
   rw [Int.toNat_natCast,List.getD_eq_getElem?_getD,List.getElem?_eq_getElem hlt];rfl
  have hd:l.drop i=l[i] :: l.drop (i+1):=List.drop_eq_getElem_cons hlt
  by_cases h:shN l[i] 2
  ·have go:∀r,zfn (zaX l ((i:Int)+1)) r→zfn (zaX l i) r:=fun r hr=>
   zro l i (by omega) (by omega) (by have h':=h;rw [← hg] at h';exact h') (by unfold r64;omega) hr
   rcases zkq l hl n (i+1) (by omega) with ⟨h1,h2⟩ | ⟨h1,h2⟩
   ·refine .inl ⟨fun x hx=>?_,go _ h2⟩
    rw [hd] at hx
    rcases List.mem_cons.1 hx with rfl | hx
    ·exact h
    ·exact h1 x hx
   ·exact .inr ⟨fun h3=>h1 fun x hx=>h3 x (by rw [hd];exact List.mem_cons_of_mem _ hx),go _ h2⟩
  ·exact .inr ⟨fun h3=>h (h3 _ (by rw [hd];exact List.mem_cons_self)),zrn l i (by omega) (by omega) (by have h':=h;rw [← hg] at h';exact h')⟩
def zf6 (l:List numK.ty):Prop:=∀x∈l,shN x 2
instance decLight {l:List numK.ty}:Decidable (zf6 l):=inferInstanceAs (Decidable (∀x∈l,shN x 2))
def pSm (l:List numK.ty):Prop:=l.length≤100
instance tSm {l:List numK.ty}:Tst (pSm l):=⟨decide (l.length≤100),of_decide_eq_true⟩
theorem zlm (l:List numK.ty) (h:pSm l):FC tP 14 [.lst numK l] (.lit (.bool (decide (zf6 l)))):=by
 refine litB (fun hs=>?_) fun hs=>?_
 ·rcases zkq l h l.length 0 (by omega) with ⟨_,k⟩ | ⟨k,_⟩
  ·exact sml_1 l _ k
  ·exact absurd hs k
 ·rcases zkq l h l.length 0 (by omega) with ⟨k,_⟩ | ⟨_,k⟩
  ·exact absurd k hs
  ·exact sml_0 l k
theorem rOpen_ok (p:List Int) (a b d:Int) (h:zbw p a b d=0):FC tP 72 [.agg [.sq p,lI a,lI b,lI d]] (.tup [.agg [.sq p,lI a,lI b,lI d],lI 0]):=by
 have hr:=znm h
 have hl:p.length≤5:=hr.l5
 have:=rop_1 p a b d h (by omega) (by omega) (by simp)
 rw [show List.take (0+p.length) (List.take 0 []++p)=p by simp] at this
 exact this
noncomputable def cROpen (args:List AV):M AV:=match args with
 | [x]=>do
  let f ← asK fieldK x
  match f with
  | (l,a,b,d)=>do
   let z ← dec (decide (zbw l a b d=0))
   match z with
   | true=>M.pure (.tup [.agg [.sq l,.lit (.int .i64 a),.lit (.int .i64 b),.lit (.int .i64 d)],.lit (.int .i64 0)])
   | false=>M.pure (.tup [.agg [.lit (.slice none 0 0),.lit (.int .i64 0),.lit (.int .i64 0),.lit (.int .i64 0)],.lit (.int .i64 (zbw l a b d))])
 | _=>fail 325
theorem cROpen_ok:jZ tP 72 cROpen:=by
 intro args _
 unfold cROpen
 split
 ·refine Spec.bind (asK_spec.mono fun f hf=>?_)
  obtain ⟨l,a,b,d⟩:=f
  refine Spec.bind (Spec.dec ?_)
  by_cases h:zbw l a b d=0
  ·rw [decide_eq_true h]
   exact Spec.pure' ((rOpen_ok l a b d h).le (.cons hf .nil) (Le.refl _))
  ·rw [decide_eq_false h]
   exact Spec.pure' ((rop_0 l a b d h).le (.cons hf .nil) (Le.refl _))
 ·exact Spec.fail
noncomputable def ctrV2:Ctr:=(14,cD1 (.sl numK) pSm (fun l=>.lit (.bool (decide (zf6 l))))) :: (72,cROpen) :: ctrV1
theorem ctrV2_all:∀p∈ctrV2,jZ tP p.1 p.2:=CAll.cons (zer zlm)<|CAll.cons cROpen_ok zg6
theorem okV2:(eZ tP ctrV2 bw [] kdV).OK:=vZ zaC mixed ctrV2_all zaA
end Go.Proofs.YtagbldogmjhdpaaGreatDoor
end
section
open Go Go.Ev Go.RowKit
namespace Go.Proofs.YtagbldogmjhdpaaGreatDoor
open Go.Proofs
set_option maxRecDepth 100000
set_option maxHeartbeats 1000000
set_option linter.unusedVariables false
set_option linter.unusedSimpArgs false
noncomputable section
theorem bot_0 (p:List Int) (a b d:Int) (h1:(p.length:Int) > 5):FC tP 13 [.agg [.sq p,lI a,lI b,lI d]] (.tup [.lit (Value.pointer none),.agg [aN,aI 0,aI 0,aI 0],.ff]):=dZ okV2 60 [1] (.t h1<|.e) [1]
theorem bot_1 (p:List Int) (a b d:Int) (h1:¬((p.length:Int) > 5)) (h2:zbw p a b d=0):FC tP 13 [.agg [.sq p,lI a,lI b,lI d]] (.tup [.pd [.sq p,aI a,aI b,aI d,.lst EK.whole p,.lst EK.whole (trZ p),.lit (.bool (decide ((hvG p (hvC p) a b d).fst<0))),.wd (hvG p (hvC p) a b d).fst,.lit (.bool (decide ((hvG p (hvC p) a b d).snd.fst<0))),.wd (hvG p (hvC p) a b d).snd.fst,.lit (.bool (decide ((hvG p (hvC p) a b d).snd.snd<0))),.wd (hvG p (hvC p) a b d).snd.snd] 0,.agg [.sq p,aI a,aI b,aI d],aT]):=dZ okV2 60 [0,1,3] (.f h1<|.t h2<|.e) [1,2,2]
theorem bot_2 (p:List Int) (a b d:Int) (h1:¬((p.length:Int) > 5)) (h2:¬(zbw p a b d=0)) (h3:zbw p a b d≠0):FC tP 13 [.agg [.sq p,lI a,lI b,lI d]] (.tup [.lit (Value.pointer none),.agg [aN,aI 0,aI 0,aI 0],.ff]):=dZ okV2 60 [0,0,1] (.f h1<|.f h2<|.c (bne_iff_ne.2 h3)<|.e) [1,2,3]
theorem opn_0 (p:List Int) (a b d:Int) (h1:(p.length:Int) > 5):FC tP 15 [.agg [.sq p,lI a,lI b,lI d]] (.tt):=dZ okV2 60 [1] (.t h1<|.e) [1]
theorem opn_1 (p:List Int) (a b d:Int) (h1:¬((p.length:Int) > 5)) (h2:zbw p a b d=0) (h3:true=(zbw p a b d==0)):FC tP 15 [.agg [.sq p,lI a,lI b,lI d]] (aT):=dZ okV2 60 [0,1,1] (.f h1<|.t h2<|.c (beq_iff_eq.2 h3)<|.e) [1,2,0,3]
theorem opn_3 (p:List Int) (a b d:Int) (h1:¬((p.length:Int) > 5)) (h2:¬(zbw p a b d=0)) (h3:false=(zbw p a b d==0)):FC tP 15 [.agg [.sq p,lI a,lI b,lI d]] (.lit (.bool ((zbw p a b d==0)==false))):=dZ okV2 60 [0,0,1] (.f h1<|.f h2<|.c (beq_iff_eq.2 h3)<|.e) [1,2,0,3]
end
open Go.Kf
theorem opened_fc (f:fieldK.ty):FC tP 15 [fieldK.val f] (.lit (.bool true)):=by
 obtain ⟨p,a,b,d⟩:=f
 by_cases h5:p.length≤5
 ·by_cases h0:zbw p a b d=0
  ·exact opn_1 p a b d (by omega) h0 (by rw [h0];rfl)
  ·have:=opn_3 p a b d (by omega) h0 (beq_false_of_ne h0).symm
   rw [show(zbw p a b d==0)=false from beq_false_of_ne h0] at this
   exact this
 ·exact(opn_0 p a b d (by omega)).res fun E v hv=>by cases hv;exact .lit _
noncomputable def cBoth (args:List AV):M AV:=match args with
 | [x]=>do
  let f ← asK fieldK x
  match f with
  | (l,a,b,d)=>do
   let z ← dec (decide (l.length≤5∧zbw l a b d=0))
   match z with
   | true=>M.pure (.tup [openA l a b d,.agg [.sq l,.lit (.int .i64 a),.lit (.int .i64 b),.lit (.int .i64 d)],.lit (.bool true)])
   | false=>M.pure (.tup [.lit (.pointer none),.agg [.lit (.slice none 0 0),.lit (.int .i64 0),.lit (.int .i64 0),.lit (.int .i64 0)],.ff])
 | _=>fail 326
theorem cBoth_ok:jZ tP 13 cBoth:=by
 intro args _
 unfold cBoth
 split
 ·refine Spec.bind (asK_spec.mono fun f hf=>?_)
  obtain ⟨l,a,b,d⟩:=f
  refine Spec.bind (Spec.dec ?_)
  by_cases h:l.length≤5∧zbw l a b d=0
  ·rw [decide_eq_true h]
   exact Spec.pure' ((bot_1 l a b d (by omega) h.2).le (.cons hf .nil) (Le.refl _))
  ·rw [decide_eq_false h]
   by_cases h5:l.length≤5
   ·exact Spec.pure' ((bot_2 l a b d (by omega) (fun k=>h ⟨h5,k⟩) (fun k=>h ⟨h5,k⟩)).le (.cons hf .nil) (Le.refl _))
   ·exact Spec.pure' ((bot_0 l a b d (by omega)).le (.cons hf .nil) (Le.refl _))
 ·exact Spec.fail
noncomputable section
end
open Go.Kf
def NumR (x:NT):Prop:=(∀l∈x.1,∀d∈l,cZ d)∧∀d∈x.2,cZ d
theorem nb17 {p:List Int} {x:NT} (hp:za7 p) (hr:NumR x) (hs:shN x 2):Nb p 17 x:=by
 obtain ⟨h1,h2,h3⟩:=hs
 have sz:∀ {l:List Int},(∀d∈l,cZ d)→(l.length:Int)≤2→Sz 5 (vl l):=fun hd hl=>(vl_sz hd).mono (by omega)
 have s1:∀l∈x.1,Sz 5 (vl l):=fun l hl=>sz (hr.1 l hl) (h3 l hl)
 have s2:=sz hr.2 h2
 have ht:pTk p x.1 x.2:=⟨hp,by omega,fun l hl=>⟨⟨by have:=h3 l hl;omega,hr.1 l hl⟩,(s1 l hl).mono (by decide)⟩,⟨by omega,hr.2⟩,s2.mono (by decide)⟩
 exact ⟨ht,(tk_ok ht (by decide) s1 s2).2.2.mono (by omega)⟩
theorem chk_pol {p:List Int} {a b d:Int} (h:zbw p a b d=0):za7 p:=by
 have hr:=znm h
 exact ⟨hr.l2,hr.l5,bigc_f hr.bg⟩
theorem zlz {x:NT} (h:pB x):pNl x:=
 ⟨by
  unfold pLi
  rw [Bool.and_eq_true,decide_eq_true_eq,List.all_eq_true]
  exact ⟨by have:=h.1;omega,fun l hl=>decide_eq_true (by have:=(h.2.1 l hl).1;omega)⟩,by have:=h.2.2.1;omega⟩
theorem pB_ad {p:List Int} {x y:NT} (hx:Gd p x) (hy:Gd p y):pB (adN p x y):=
 have n1:=HZ hx
 have n2:=HZ hy
 zmW hx.1.1 (zpC (ziH hx.1.1) n1 n2).1 (zmY hx.2 hy.2 n1.pos n2.pos) (by decide)
theorem pB_su {p:List Int} {x y:NT} (hx:Gd p x) (hy:Gd p y):pB (suN p x y):=
 have n1:=HZ hx
 have n2:=(ng_ok (ziH hx.1.1) (HZ hy)).1
 zmW hx.1.1 (zpC (ziH hx.1.1) n1 n2).1 (zmY hx.2 (ng_bd hy.2) n1.pos n2.pos) (by decide)
theorem pB_mu {p:List Int} {x y:NT} (hx:Gd p x) (hy:Gd p y):pB (muN p x y):=
 have ⟨n,_,b⟩:=zl4 hx.1.1 (HZ hx) (HZ hy) hx.2 hy.2
 zmW hx.1.1 n b (by decide)
def InN (p:List Int) (x:NT):Prop:=Nb p 17 x∧pB x
theorem in_of {p:List Int} {x:NT} (hp:za7 p) (hr:NumR x) (hs:shN x 2):InN p x:=
 ⟨nb17 hp hr hs,by have:=hs.1;omega,fun l hl=>⟨by have:=hs.2.2 l hl;omega,hr.1 l hl⟩,by have:=hs.2.1;omega,hr.2⟩
theorem inOp {p:List Int} {x y:NT} (hx:InN p x) (hy:InN p y):pOp p x y:=⟨hx.1.gd (by decide),hy.1.gd (by decide)⟩
theorem inA1 {p:List Int} {x y:NT} (hx:InN p x) (hy:InN p y):pNl (adN p x y):=zlz (pB_ad (inOp hx hy).1 (inOp hx hy).2)
section
variable {p:List Int} {a b d:Int} (hp:za7 p)
include hp
theorem inOR {x y:NT} (hx:InN p x) (hy:InN p y):pOR (p,a,b,d) x y:=⟨hp,inOp hx hy,hx.2,hy.2⟩
theorem inMu {x y:NT} (hx:InN p x) (hy:InN p y):Gd p (muN p x y)∧pB (muN p x y):=by
 have:Fact' (1≤(qO p).length):=⟨qO_1 hp⟩
 have ⟨g1,g2⟩:=inOp hx hy
 exact ⟨(mu_op (Op.of hx.1) (Op.of hy.1) (by decide) (by decide)).1.gd (by decide),pB_mu g1 g2⟩
theorem inM1 {x y:NT} (hx:InN p x) (hy:InN p y):pNl (muN p x y):=zlz (inMu hp hx hy).2
end
open Go.Kf
def cP1 (p:List Int→NT→Prop) (g:List Int→NT→AV) (args:List AV):M AV:=match args with
 | [r,y]=>do
  let f ← asRL r
  let x ← asK numK y
  tell (p f x)
  M.pure (g f x)
 | _=>fail 360
def cP2 (p:List Int→NT→NT→Prop) (g:List Int→NT→NT→AV) (args:List AV):M AV:=match args with
 | [r,y,z]=>do
  let f ← asRL r
  let x ← asK numK y
  let x2 ← asK numK z
  tell (p f x x2)
  M.pure (g f x x2)
 | _=>fail 361
def cPT2 (p:List Int→NT→NT→Prop) (g:List Int→NT→NT→AV) (args:List AV):M AV:=match args with
 | [r,y,z]=>do
  let f ← asRT r
  let x ← asK numK y
  let x2 ← asK numK z
  tell (f.2=trZ f.1∧p f.1 x x2)
  M.pure (g f.1 x x2)
 | _=>fail 362
def cS1 (p:fieldK.ty→NT→Prop) (g:List Int→NT→AV) (args:List AV):M AV:=match args with
 | [r,y]=>do
  let f ← asK fieldK r
  let x ← asK numK y
  tell (p f x)
  M.pure (g f.1 x)
 | _=>fail 363
def cS2 (p:fieldK.ty→NT→NT→Prop) (g:List Int→NT→NT→AV) (args:List AV):M AV:=match args with
 | [r,y,z]=>do
  let f ← asK fieldK r
  let x ← asK numK y
  let x2 ← asK numK z
  tell (p f x x2)
  M.pure (g f.1 x x2)
 | _=>fail 364
def nrN (p:List Int) (x:NT):NT:=gvN (tkN p x)
def aNr (p:List Int) (x:NT):AV:=.agg [.lst (.sl (.int .i64)) (nrN p x).1,.sq (nrN p x).2]
def aAd (p:List Int) (x y:NT):AV:=.agg [.lst (.sl (.int .i64)) (adN p x y).1,.sq (adN p x y).2]
def aSu (p:List Int) (x y:NT):AV:=.agg [.lst (.sl (.int .i64)) (suN p x y).1,.sq (suN p x y).2]
def aMu (p:List Int) (x y:NT):AV:=.agg [.lst (.sl (.int .i64)) (muN p x y).1,.sq (muN p x y).2]
noncomputable def ctrW1:Ctr:=(14,cD1 (.sl numK) pSm (fun l=>.lit (.bool (decide (zf6 l))))) :: (15,cFd (fun _ _ _ _=>True) (fun _ _ _ _=>.lit (.bool true))) :: (13,cBoth) ::
 (20,cP1 Gd aNr) :: (22,cP2 pOp aAd) :: (24,cP2 pOp aSu) :: (26,cP2 pOp aMu) :: (17,cPT2 pQuo quA) :: ctrS
noncomputable def ctrW2:Ctr:=(21,cS1 (fun f x=>pPF f∧Gd f.1 x∧pB x) aNr) :: (23,cS2 pOR aAd) :: (25,cS2 pOR aSu) :: (27,cS2 pOR aMu) :: (18,cS2 (fun f x y=>pPF f∧pQu f.1 x y∧pB x∧pB y) quA) :: ctrW1
theorem cP1_ok {p:List Int→NT→Prop} {g:List Int→NT→AV} {k:FuncId} (h:∀f x,p f x→FC tP k [reA (.lst .whole f),numK.val x] (g f x)):jZ tP k (cP1 p g):=by
 intro args _
 unfold cP1
 split
 ·exact Spec.bind (asRL_spec.mono fun f hr=>Spec.bind (asK_spec.mono fun x hx=>Spec.bind (Spec.tell fun hp=>Spec.pure' ((h f x hp).le (.cons hr (.cons hx .nil)) (Le.refl _)))))
 ·exact Spec.fail
theorem cP2_ok {p:List Int→NT→NT→Prop} {g:List Int→NT→NT→AV} {k:FuncId} (h:∀f x y,p f x y→FC tP k [reA (.lst .whole f),numK.val x,numK.val y] (g f x y)):jZ tP k (cP2 p g):=by
 intro args _
 unfold cP2
 split
 ·exact Spec.bind (asRL_spec.mono fun f hr=>Spec.bind (asK_spec.mono fun x hx=>Spec.bind (asK_spec.mono fun y hy=>Spec.bind (Spec.tell fun hp=>Spec.pure' ((h f x y hp).le (.cons hr (.cons hx (.cons hy .nil))) (Le.refl _))))))
 ·exact Spec.fail
theorem cPT2_ok {p:List Int→NT→NT→Prop} {g:List Int→NT→NT→AV} {k:FuncId} (h:∀f x y,p f x y→FC tP k [reT (.lst .whole f) (.lst .whole (trZ f)),numK.val x,numK.val y] (g f x y)):jZ tP k (cPT2 p g):=by
 intro args _
 unfold cPT2
 split
 ·refine Spec.bind (asRT_spec.mono fun f hr=>Spec.bind (asK_spec.mono fun x hx=>Spec.bind (asK_spec.mono fun y hy=>Spec.bind (Spec.tell fun hp=>Spec.pure' ?_))))
  obtain ⟨f,t⟩:=f
  obtain ⟨ht,hp⟩:=hp
  simp only at ht hp hr ⊢
  subst ht
  exact(h f x y hp).le (.cons hr (.cons hx (.cons hy .nil))) (Le.refl _)
 ·exact Spec.fail
theorem cS1_ok {p:fieldK.ty→NT→Prop} {g:List Int→NT→AV} {k:FuncId} (h:∀f x,p f x→FC tP k [fieldK.val f,numK.val x] (g f.1 x)):jZ tP k (cS1 p g):=by
 intro args _
 unfold cS1
 split
 ·exact Spec.bind (asK_spec.mono fun f hr=>Spec.bind (asK_spec.mono fun x hx=>Spec.bind (Spec.tell fun hp=>Spec.pure' ((h f x hp).le (.cons hr (.cons hx .nil)) (Le.refl _)))))
 ·exact Spec.fail
theorem zni {p:fieldK.ty→NT→NT→Prop} {g:List Int→NT→NT→AV} {k:FuncId} (h:∀f x y,p f x y→FC tP k [fieldK.val f,numK.val x,numK.val y] (g f.1 x y)):jZ tP k (cS2 p g):=by
 intro args _
 unfold cS2
 split
 ·exact Spec.bind (asK_spec.mono fun f hr=>Spec.bind (asK_spec.mono fun x hx=>Spec.bind (asK_spec.mono fun y hy=>Spec.bind (Spec.tell fun hp=>Spec.pure' ((h f x y hp).le (.cons hr (.cons hx (.cons hy .nil))) (Le.refl _))))))
 ·exact Spec.fail
theorem nr_fc {p:List Int} {x:NT} (h:Gd p x):FC tP 20 [reA (.lst .whole p),numK.val x] (numK.val (nrN p x)):=zoI p x h.1 (zkE h.2 (by decide))
theorem nr_fc3 (f:fieldK.ty) (x:NT) (h:pPF f∧Gd f.1 x∧pB x):FC tP 21 [fieldK.val f,numK.val x] (numK.val (nrN f.1 x)):=by
 have:=zi8 f x h.1 h.2.2
 rw [no_eq h.2.1.1.1] at this
 exact this
theorem ctrW1_all:∀p∈ctrW1,jZ tP p.1 p.2:=CAll.cons (zer fun l h=>zlm l h)<|CAll.cons (ziP fun l a b d _=>opened_fc (l,a,b,d))<|CAll.cons cBoth_ok <|
 CAll.cons (cP1_ok fun _ _ h=>nr_fc h)<|CAll.cons (cP2_ok fun _ _ _ h=>ad_fc h)<|CAll.cons (cP2_ok fun _ _ _ h=>su_fc h)<|CAll.cons (cP2_ok fun _ _ _ h=>mu_fc h)<|CAll.cons (cPT2_ok fun _ _ _ h=>RQuo_fc h) znB
theorem ctrW2_all:∀p∈ctrW2,jZ tP p.1 p.2:=CAll.cons (cS1_ok nr_fc3)<|CAll.cons (zni ad_fc3)<|CAll.cons (zni su_fc3)<|CAll.cons (zni mu_fc3)<|CAll.cons (zni quo_fc3) ctrW1_all
theorem okW2:(eZ tP ctrW2 bw [] kdV).OK:=vZ zaC mixed ctrW2_all zaA
noncomputable section
theorem far_0 (p:List Int) (a b d:Int) (x y:numK.ty) (h1:p.length≤5∧zbw p a b d=0) (h2:2≤List.length [x,y]) (h3:pSm (List.take 2 [x,y])) (h4:¬(zf6 (List.take 2 [x,y]))):FC tP 3 [.agg [.sq p,lI a,lI b,lI d],numK.val x,numK.val y] (aT):=dZ okW2 60 [1,3] (.t h1<|.c h2<|.c h3<|.y h4<|.e) [1,2,3,4,0]
theorem far_1 (p:List Int) (a b d:Int) (x y:numK.ty) (h1:p.length≤5∧zbw p a b d=0) (h2:2≤List.length [x,y]) (h3:pSm (List.take 2 [x,y])) (h4:zf6 (List.take 2 [x,y])) (h5:(p,trZ p).snd=trZ (p,trZ p).fst∧pQuo (p,trZ p).fst x y) (h6:pPF (p,a,b,d)∧pQu (p,a,b,d).fst x y∧pB x∧pB y) (h7:Gd p x) (h8:pPF (p,a,b,d)∧Gd (p,a,b,d).fst x∧pB x) (h9:pNl (nrN p x)∧pNl (nrN (p,a,b,d).fst x)) (h10:pOp p x y) (h11:pOR (p,a,b,d) x y) (h12:pNl (adN p x y)∧pNl (adN (p,a,b,d).fst x y)) (h13:pNl (suN p x y)∧pNl (suN (p,a,b,d).fst x y)) (h14:pNl (muN p x y)∧pNl (muN (p,a,b,d).fst x y)) (h15:pNl (quN (p,trZ p).fst x y)∧pNl (quN (p,a,b,d).fst x y)) (h16:quE (p,trZ p).fst y=quE (p,a,b,d).fst y):FC tP 3 [.agg [.sq p,lI a,lI b,lI d],numK.val x,numK.val y] (aT):=dZ okW2 60 [1,2,1,1,1,1,1,1] (.t h1<|.c h2<|.c h3<|.x h4<|.c h5<|.c h6<|.c h7<|.c h8<|.c h9<|.c (show decide ((nrN p x)=(nrN (p,a,b,d).fst x))=true from decide_eq_true rfl)<|.c h10<|.c h11<|.c h12<|.c (show decide ((adN p x y)=(adN (p,a,b,d).fst x y))=true from decide_eq_true rfl)<|.c h13<|.c (show decide ((suN p x y)=(suN (p,a,b,d).fst x y))=true from decide_eq_true rfl)<|.c h14<|.c (show decide ((muN p x y)=(muN (p,a,b,d).fst x y))=true from decide_eq_true rfl)<|.c h15<|.c (show decide ((quN (p,trZ p).fst x y)=(quN (p,a,b,d).fst x y))=true from decide_eq_true rfl)<|.c (beq_iff_eq.2 h16)<|.e) [1,2,3,4,5,6,7,8,9,10,11,12,13,14,11,12,15,16,11,12,17,18,19,20,21]
theorem far_8 (p:List Int) (a b d:Int) (x y:numK.ty) (h1:¬(p.length≤5∧zbw p a b d=0)):FC tP 3 [.agg [.sq p,lI a,lI b,lI d],numK.val x,numK.val y] (aT):=dZ okW2 60 [0] (.f h1<|.e) [1,0]
end
open Go.Kf
theorem chk_irr {p:List Int} {a b d:Int} (h:zbw p a b d=0):Irr (qL (qO p)++[1]):=by
 have hr:=znm h
 rw [hr.eq] at h
 by_cases hc:p.getD (p.length-1) 0≠1∨red p=true
 ·rw [if_pos hc] at h;cases h
 ·refine irr_of hr.l2 hr.l5 (by
  rcases Classical.em (p.getD (p.length-1) 0=1) with e | e
  ·exact e
  ·exact absurd (.inl e) hc) fun hR=>hc (.inr (@decide_eq_true _ (Classical.propDecidable _) hR))
theorem in_sx {x:NT} (hr:NumR x) (hs:shN x 2):pSx x:=by
 obtain ⟨h1,h2,h3⟩:=hs
 exact ⟨by omega,fun l hl=>⟨by have:=h3 l hl;omega,hr.1 l hl⟩,by omega,hr.2⟩
section
variable {p:List Int}
theorem inQu {a b d:Int} (h:zbw p a b d=0) {x y:NT} (hx:InN p x) (hy:InN p y) (sy:pSx y):pQuo p x y:=
 ⟨⟨chk_irr h,hx.1.gd (by decide),hy.1.gd (by decide),sy⟩,hy.1.2.mono (by decide)⟩
theorem inN1 {x:NT} (hp:za7 p) (hx:InN p x):pNl (nrN p x):=zlz (zmW hp (HZ (hx.1.gd (by decide))) hx.1.2 (by decide))
theorem inS1 {x y:NT} (hx:InN p x) (hy:InN p y):pNl (suN p x y):=zlz (pB_su (inOp hx hy).1 (inOp hx hy).2)
theorem quN_gv {x y:NT} (h:pQuo p x y) (hz:¬isZ (tkN p y)) (hb:Bd 30 (tkN p x)):Nrm (qO p) (tmN p (tkN p x) (ivW p y))∧Bd 640 (tmN p (tkN p x) (ivW p y)):=by
 obtain ⟨⟨hI,gx,gy,sy⟩,_⟩:=h
 have hP:=gx.1.1
 obtain ⟨_,hn,_,hw⟩:=ivW_ok hP hI gy sy fun h=>hz ((zmK (HZ gy)).2 h)
 have ⟨n3,_,b3⟩:=zl4 hP (HZ gx) hn hb hw
 exact ⟨n3,b3⟩
theorem inQ1 {x y:NT} (h:pQuo p x y) (hb:Bd 30 (tkN p x)):pB (quN p x y):=by
 unfold quN
 split
 ·exact ⟨by decide,(fun l hl=>nomatch hl),by decide,(fun d hd=>nomatch hd)⟩
 ·rename_i hz
  have ⟨n3,b3⟩:=quN_gv h hz hb
  exact zmW h.1.2.1.1.1 n3 b3 (by decide)
end
theorem light2 {x y:NT}:zf6 (List.take 2 [x,y])↔shN x 2∧shN y 2:=by
 show(∀z∈[x,y],shN z 2)↔_
 simp
theorem arith_fc (f:fieldK.ty) (x y:NT) (hx:NumR x) (hy:NumR y):FC tP 3 [fieldK.val f,numK.val x,numK.val y] (.lit (.bool true)):=by
 obtain ⟨p,a,b,d⟩:=f
 by_cases h:p.length≤5∧zbw p a b d=0
 ·by_cases hl:zf6 (List.take 2 [x,y])
  ·have hp:=chk_pol h.2
   obtain ⟨sx,sy⟩:=light2.1 hl
   have ix:=in_of hp hx sx
   have iy:=in_of hp hy sy
   have gx:=ix.1.gd (show 17≤800 by decide)
   have hq:=inQu h.2 ix iy (in_sx hy sy)
   have k1:=inN1 hp ix
   have k2:=inA1 ix iy
   have k3:=inS1 ix iy
   have k4:=inM1 hp ix iy
   have k5:=zlz (inQ1 hq (ix.1.2.mono (by decide)))
   exact far_1 p a b d x y h (by simp) (by unfold pSm;simp) hl ⟨rfl,hq⟩ ⟨hp,hq.1,ix.2,iy.2⟩ gx ⟨hp,gx,ix.2⟩ ⟨k1,k1⟩ (inOp ix iy) (inOR hp ix iy) ⟨k2,k2⟩ ⟨k3,k3⟩ ⟨k4,k4⟩ ⟨k5,k5⟩ rfl
  ·exact far_0 p a b d x y h (by simp) (by unfold pSm;simp) hl
 ·exact far_8 p a b d x y h
end Go.Proofs.YtagbldogmjhdpaaGreatDoor
end
section
open Go Go.Ev Go.RowKit
namespace Go.Proofs.YtagbldogmjhdpaaGreatDoor
open Go.Proofs
theorem numR_of {x:NT} (h:okK numK x):NumR x:=⟨fun l hl d hd=>h.1 l hl d hd,fun d hd=>h.2 d hd⟩
theorem arith_row (f:fieldK.ty) (x y:NT) (hx:okK numK x) (hy:okK numK y):FC tP 3 [fieldK.val f,numK.val x,numK.val y] (.lit (.bool true)):=arith_fc f x y (numR_of hx) (numR_of hy)
end Go.Proofs.YtagbldogmjhdpaaGreatDoor
end
