/- Part of a proof about a given program: see the last module of the claim. -/
import Derived.Test.YtagbldogmjhdpaaGreatDoorG
import Derived.Test.YtagbldogmjhdpaaGreatDoorF
import Derived.Shelf.Strings.Builder1
import Derived.Shelf.Strings.Builder2
import Derived.Shelf.Strings.OnBuilder
import Derived.Shelf.Strings.BuilderF
import Derived.Shelf.Strings.BuilderK
import Derived.Shelf.Strconv.Itoa0
import Derived.Shelf.Strconv.Itoa1
import Derived.Shelf.LaysM
import Derived.Shelf.Strconv.Itoa2
import Derived.Shelf.Strconv.Itoa3
import Derived.Shelf.Strings.Prefix
import Derived.Shelf.Bits.Mul64
import Derived.Shelf.Strings.Repeat
import Derived.Test.YtagbldogmjhdpaaGreatDoorProg
import Derived.WalkKit
import Derived.BigCall
import Derived.Test.YtagbldogmjhdpaaGreatDoorC
section
open Go Go.Ev Go.RowKit
namespace Go.Proofs.YtagbldogmjhdpaaGreatDoor
open Go.Proofs
set_option maxRecDepth 100000
set_option maxHeartbeats 1000000
set_option linter.unusedVariables false
set_option linter.unusedSimpArgs false
noncomputable section
end
open Go.Kf
open Go.Kf.V
theorem ev_shrt {q c:List Int} (h:zmg q c):ev q.length (pV q) (qL c)=pV c:=by
 rw [zsQ c (c.take q.length) fun i=>?_,zdw (by rw [zbA,List.length_take];omega)]
 ·funext i
  rw [zbz]
  by_cases hi:i<q.length
  ·rw [zsT hi];rfl
  ·unfold pV
   rw [h i (by omega),List.getD_eq_getElem?_getD,List.getElem?_eq_none (by rw [List.length_take];omega)];rfl
 ·by_cases hi:i<q.length
  ·rw [zsT hi]
  ·rw [h i (by omega),List.getD_eq_getElem?_getD,List.getElem?_eq_none (by rw [List.length_take];omega)];rfl
theorem nv_pV {q:List Int} {u:NZ} (hu:Nrm q u):nv q u=sm ((u.2:Rat)⁻¹) (pV u.1):=by unfold nv val;rw [ev_shrt hu.sh]
theorem sup_pV {q c:List Int} (h:zmg q c):Sup q.length (pV c):=fun i hi=>by unfold pV;rw [h i hi];rfl
section
variable {p:List Int} {a b d:Int}
theorem chk_fs (h:zbw p a b d=0):p=qO p++[1]∧a≤b∧zmb p a b d=true:=by
 have hr:=znm h
 have l2:=hr.l2
 rw [hr.eq] at h
 by_cases h1:p.getD (p.length-1) 0≠1∨red p=true
 ·rw [if_pos h1] at h;cases h
 rw [if_neg h1] at h
 by_cases h2:b<a
 ·rw [if_pos h2] at h;cases h
 rw [if_neg h2] at h
 refine ⟨?_,by omega,by cases h3:zmb p a b d;(· rw [if_pos h3] at h;cases h);rfl⟩
 have hl:p.length-1<p.length:=by omega
 have e1:p.getD (p.length-1) 0=1:=Classical.byContradiction fun hn=>h1 (.inl hn)
 rw [List.getD_eq_getElem?_getD,List.getElem?_eq_getElem hl,Option.getD_some] at e1
 have e:=List.take_succ_eq_append_getElem hl
 rw [e1,show p.length-1+1=p.length by omega,List.take_length] at e
 exact e
theorem iv_chk (h:zbw p a b d=0) (h2:2≤(qO p).length):Iv (qO p) (a,b,d):=by
 have hr:=znm h
 obtain ⟨e,hab,h1⟩:=chk_fs h
 have hI:=zsc h
 have hd:=hr.d1
 have hrd:=hr.rd
 have hl:=zdT (zr2 h)
 have hp2:=hr.l2
 have hp5:=hr.l5
 unfold zmb at h1
 rw [if_neg (by omega)] at h1
 have h3:zcP (qO p++[1]) a b d=1:=by rw [← e];exact beq_iff_eq.1 h1
 refine ⟨by simp only;omega,hab,roots_sg h2 (by omega) hI (e▸hrd) h3 (ev_ne h2 hI a (show d≠0 by omega)) (ev_ne h2 hI b (show d≠0 by omega))⟩
def nestC (q:List Int) (h:q.length=1):Nest q.length (pV q) where
 a _:=-pV q 0
 b _:=-pV q 0
 le _:=Rat.le_refl
 up _:=Rat.le_refl
 dn _:=Rat.le_refl
 hv _:=by grind
 sg _:=by
  rw [h]
  have:mpQ 1 (pV q) (-pV q 0)=0:=by simp [mpQ,atQ,sN];grind
  rw [this,Rat.zero_mul];exact Rat.le_refl
open Classical in
noncomputable def fN (h:zbw p a b d=0):Nest (qO p).length (pV (qO p)):=
 if h2:2≤(qO p).length then nestI h2 (zsc h) (iv_chk h h2) else nestC (qO p) (by have:=zsx (zr2 h);omega)
theorem fq_bd {x e:Int} (h1:-1000000≤x) (h2:x≤1000000) (he:1≤e):Bt 1000000 (fq x e):=by
 have hp:=Rat.inv_pos.2 (show(0:Rat)<(e:Rat) from Rat.intCast_lt_intCast.2 (show(0:Int)<e by omega))
 have i:=Rat.mul_inv_cancel (e:Rat) (za8 (show e≠0 by omega))
 have e1:(1:Rat)≤(e:Rat):=show((1:Int):Rat)≤_ from Rat.intCast_le_intCast.2 he
 have x1:(-1000000:Rat)≤(x:Rat):=show((-1000000:Int):Rat)≤_ from Rat.intCast_le_intCast.2 h1
 have x2:(x:Rat)≤1000000:=show _≤((1000000:Int):Rat) from Rat.intCast_le_intCast.2 h2
 unfold fq
 generalize (e:Rat)⁻¹=u at *
 have m:=Rat.mul_nonneg (show 0≤(e:Rat)-1 by grind) (Rat.le_of_lt hp)
 have m1:=Rat.mul_nonneg (show 0≤1000000-(x:Rat) by grind) (Rat.le_of_lt hp)
 have m2:=Rat.mul_nonneg (show 0≤1000000+(x:Rat) by grind) (Rat.le_of_lt hp)
 exact ⟨by grind,by grind⟩
theorem fN_B (h:zbw p a b d=0):∀k r,(fN h).inI k r→Bt 1000000 r:=by
 intro k r hr
 have hr:=(fN h).inI_mono (Nat.zero_le k) hr
 have hk:=znm h
 have key:Bt 1000000 ((fN h).a 0)∧Bt 1000000 ((fN h).b 0):=by
  unfold fN
  by_cases h2:2≤(qO p).length
  ·rw [dif_pos h2];exact ⟨fq_bd hk.a1 hk.a2 hk.d1,fq_bd hk.b1 hk.b2 hk.d1⟩
  ·rw [dif_neg h2]
   have hp:=zr2 h
   have l1:=zsx hp
   have:-1000≤(qO p).getD 0 0∧(qO p).getD 0 0≤1000:=by
    rw [List.getD_eq_getElem?_getD,List.getElem?_eq_getElem (by omega)]
    have h0:0<(qO p).length:=by omega
    have:=hp.2.2 _ (List.mem_of_mem_take (List.getElem_mem h0))
    show -1000≤(qO p)[0]∧(qO p)[0]≤1000
    omega
   have a1:((-1000:Int):Rat)≤pV (qO p) 0:=Rat.intCast_le_intCast.2 this.1
   have a2:pV (qO p) 0≤((1000:Int):Rat):=Rat.intCast_le_intCast.2 this.2
   have c1:((-1000:Int):Rat) = -1000:=rfl
   have c2:((1000:Int):Rat)=1000:=rfl
   refine ⟨?_,?_⟩<;>(show Bt 1000000 (-pV (qO p) 0);exact ⟨by grind,by grind⟩)
 have:=hr.1;have:=hr.2
 have:=key.1.1;have:=key.2.2
 exact ⟨by grind,by grind⟩
theorem fN_w (h:zbw p a b d=0):(fN h).w 0≤2000000:=by
 have a1:=(fN_B h 0 _ ((fN h).inA 0)).1
 have a2:=(fN_B h 0 _ ((fN h).inB 0)).2
 unfold Nest.w;grind
open Classical in
noncomputable def sgF (p:List Int) (a b d:Int) (x:V):Int:=if h:zbw p a b d=0 then(fN h).sgn x else 0
theorem zst (h:zbw p a b d=0) (x:V):sgF p a b d x=(fN h).sgn x:=dif_pos h
theorem fN_inv (h:zbw p a b d=0) {x:V} (hx:Sup (qO p).length x) (h0:x≠zero):∃y,mul (qO p).length (pV (qO p)) y x=e0:=by
 have hp:=zr2 h
 obtain ⟨y,_,e⟩:=inv_ex (zsx hp) (ziH hp) (zsc h) hx h0
 exact ⟨y,e⟩
theorem fN_or (h:zbw p a b d=0) {x:V} (hx:Sup (qO p).length x) (h0:x≠zero):(fN h).Pos x∨(fN h).Pos (sm (-1) x):=by
 obtain ⟨y,e⟩:=fN_inv h hx h0
 exact(fN h).pos_or (zsx (zr2 h)) e
theorem zsE (h:zbw p a b d=0) (x:V):sgF p a b d (sm (-1) x) = -sgF p a b d x:=by rw [zst h,zst h,Nest.sgn_sm]
theorem sgF_z (h:zbw p a b d=0):sgF p a b d zero=0:=by rw [zst h,Nest.sgn_zero]
theorem sgF_0 (h:zbw p a b d=0) {x:V} (hx:Sup (qO p).length x):sgF p a b d x=0↔x=zero:=by
 constructor
 ·intro e
  apply Classical.byContradiction
  intro h0
  rw [zst h] at e
  rcases fN_or h hx h0 with k | k
  ·rw [Nest.sgn_pos _ k] at e;cases e
  ·rw [Nest.sgn_neg _ k] at e;cases e
 ·intro e;rw [e,sgF_z h]
theorem sgF_3 (h:zbw p a b d=0) (x:V):sgF p a b d x=1∨sgF p a b d x=0∨sgF p a b d x = -1:=by
 rw [zst h]
 unfold Nest.sgn
 split
 ·exact .inl rfl
 ·split
  ·exact .inr (.inr rfl)
  ·exact .inr (.inl rfl)
theorem zsu (h:zbw p a b d=0) {x:V}:sgF p a b d x=1↔(fN h).Pos x:=by
 rw [zst h]
 refine ⟨fun e=>?_,Nest.sgn_pos _⟩
 unfold Nest.sgn at e
 split at e
 ·assumption
 ·split at e<;>cases e
theorem mul_z (n:Nat) (g:V) (x:V) (hx:Sup n x):mul n g zero x=zero:=by
 rw [RZ zow hx]
 have:=zi6 (n:=n) (p:=g) 0 x zero
 rw [zak,zak] at this
 exact this
theorem sgF_mul (h:zbw p a b d=0) {x y:V} (hx:Sup (qO p).length x) (hy:Sup (qO p).length y):sgF p a b d (mul (qO p).length (pV (qO p)) x y)=sgF p a b d x*sgF p a b d y:=by
 have h1:=zsx (zr2 h)
 have key:∀x y:V,sgF p a b d x=1→sgF p a b d y=1→sgF p a b d (mul (qO p).length (pV (qO p)) x y)=1:=fun x y ex ey=>
  (zsu h).2 (Nest.pos_mul _ h1 ((zsu h).1 ex) ((zsu h).1 ey))
 have n1:∀x y:V,Sup (qO p).length x→Sup (qO p).length y→sgF p a b d (mul (qO p).length (pV (qO p)) (sm (-1) x) y) = -sgF p a b d (mul (qO p).length (pV (qO p)) x y):=fun x y hx hy=>by
  rw [zkp h1 _ hx hy,zsE h]
 have n2:∀x y:V,sgF p a b d (mul (qO p).length (pV (qO p)) x (sm (-1) y)) = -sgF p a b d (mul (qO p).length (pV (qO p)) x y):=fun x y=>by
  rw [zi6,zsE h]
 have zx:sgF p a b d x=0→sgF p a b d (mul (qO p).length (pV (qO p)) x y)=0:=fun e=>by
  rw [(sgF_0 h hx).1 e,mul_z _ _ _ hy,sgF_z h]
 have zy:sgF p a b d y=0→sgF p a b d (mul (qO p).length (pV (qO p)) x y)=0:=fun e=>by
  rw [(sgF_0 h hy).1 e,RZ hx zow,mul_z _ _ _ hx,sgF_z h]
 have mx:sgF p a b d x = -1→sgF p a b d (sm (-1) x)=1:=fun e=>by rw [zsE h,e];rfl
 have my:sgF p a b d y = -1→sgF p a b d (sm (-1) y)=1:=fun e=>by rw [zsE h,e];rfl
 rcases sgF_3 h x with ex | ex | ex<;>rcases sgF_3 h y with ey | ey | ey
 ·rw [key x y ex ey,ex,ey];rfl
 ·rw [zy ey,ey];omega
 ·have:=key _ _ ex (my ey);rw [n2] at this;rw [ex,ey];omega
 ·rw [zx ex,ex];omega
 ·rw [zx ex,ex];omega
 ·rw [zx ex,ex];omega
 ·have:=key _ _ (mx ex) ey;rw [n1 _ _ hx hy] at this;rw [ex,ey];omega
 ·rw [zy ey,ey];omega
 ·have:=key _ _ (mx ex) (my ey);rw [n1 _ _ hx (zdm hy),n2] at this;rw [ex,ey];omega
theorem sgF_c (h:zbw p a b d=0) (r:Rat) (z:Int) (hr:(0<r↔0<z)∧(r<0↔z<0)):sgF p a b d (sm r e0)=z.sign:=by
  have h1:=zsx (zr2 h)
  have key:∀r:Rat,0<r→(fN h).Pos (sm r e0):=fun r hr=>⟨r,0,hr,fun k t _ _=>by rw [zsv,at_e0 h1,Rat.mul_one];exact Rat.le_refl⟩
  rcases (show r<0∨r=0∨0<r by grind) with k | k | k
  · have:=(zsu h).2 (key (-r) (by grind))
    rw [show sm (-r) e0=sm (-1) (sm r e0) by rw [zb3];congr 1;grind,zsE h] at this
    rw [Int.sign_eq_neg_one_of_neg (hr.2.1 k)];omega
  · have hz:z=0:=by
      have a:=hr.1;have b:=hr.2
      rw [k] at a b
      have:¬0<z:=fun h=>absurd (a.2 h) Rat.lt_irrefl
      have:¬z<0:=fun h=>absurd (b.2 h) Rat.lt_irrefl
      omega
    rw [k,zak,sgF_z h,hz];rfl
  · rw [(zsu h).2 (key r k),Int.sign_eq_one_of_pos (hr.1.1 k)]
end
end Go.Proofs.YtagbldogmjhdpaaGreatDoor
end
section
namespace Go.Kf
def ztp (x y:Int):Int:=if y<x then y else x
def ztq (x y:Int):Int:=if x<y then y else x
def mnL:List Int→Int
 | []=>0
 | x :: l=>l.foldl ztp x
def mxL:List Int→Int
 | []=>0
 | x :: l=>l.foldl ztq x
noncomputable def hid {α:Type} (x:α):α:=Classical.choose (⟨x,rfl⟩:∃y:α,y=x)
theorem zr6 {α:Type} (x:α):hid x=x:=Classical.choose_spec (⟨x,rfl⟩:∃y:α,y=x)
noncomputable def mnG:List Int→Int:=hid mnL
noncomputable def mxG:List Int→Int:=hid mxL
def hzL (lo hi:Int) (e:Int × Int × Int):List Int:=[e.1*lo,e.1*hi,e.2.1*lo,e.2.1*hi]
noncomputable def hzS (lo hi den c:Int) (e:Int × Int × Int):Int × Int × Int:=(mnG (hzL lo hi e)+c*(e.2.2*den),mxG (hzL lo hi e)+c*(e.2.2*den),e.2.2*den)
noncomputable def zrY (lo hi den:Int):List Int→Int × Int × Int
 | []=>(0,0,1)
 | c :: l=>hzS lo hi den c (zrY lo hi den l)
theorem mnG4 (x y z w:Int):mnG [x,y,z,w]=ztp (ztp (ztp x y) z) w:=by rw [show mnG=mnL from zr6 _];rfl
theorem mxG4 (x y z w:Int):mxG [x,y,z,w]=ztq (ztq (ztq x y) z) w:=by rw [show mxG=mxL from zr6 _];rfl
end Go.Kf
end
section
open Go Go.Ev Go.RowKit
namespace Go.Proofs.YtagbldogmjhdpaaGreatDoor
open Go.Proofs
set_option maxRecDepth 100000
set_option maxHeartbeats 1000000
set_option linter.unusedVariables false
set_option linter.unusedSimpArgs false
noncomputable section
end
open Go.Kf
open Go.Kf.V
theorem fq_lt {a b d:Int} (hd:0<d):fq a d≤fq b d↔a≤b:=by
 refine ⟨fun h=>Classical.byContradiction fun hn=>?_,zsK hd⟩
 have h2:=zsK (a:=b+1) (b:=a) hd (by omega)
 unfold fq at h h2
 have hp:=Rat.inv_pos.2 (show(0:Rat)<(d:Rat) from Rat.intCast_lt_intCast.2 hd)
 rw [Rat.intCast_add] at h2
 have:((1:Int):Rat)=1:=rfl
 generalize (d:Rat)⁻¹=u at *
 grind
theorem fq_mn {a b d:Int} (hd:0<d):fq (ztp a b) d=mn2 (fq a d) (fq b d):=by
 unfold ztp mn2
 by_cases h:b<a
 ·rw [if_pos h,if_neg fun k=>by have:=(fq_lt hd).1 k;omega]
 ·rw [if_neg h,if_pos (zsK hd (by omega))]
theorem fq_mx {a b d:Int} (hd:0<d):fq (ztq a b) d=mx2 (fq a d) (fq b d):=by
 unfold ztq mx2
 by_cases h:a<b
 ·rw [if_pos h,if_pos (zsK hd (by omega))]
 ·rw [if_neg h]
  by_cases e:a=b
  ·rw [e,if_pos Rat.le_refl]
  ·rw [if_neg fun k=>by have:=(fq_lt hd).1 k;omega]
theorem fq_add (a b d:Int):fq (a+b) d=fq a d+fq b d:=by unfold fq;rw [Rat.intCast_add];grind
theorem inv_mul {a b:Int} (ha:0<a) (hb:0<b):((a*b:Int):Rat)⁻¹=(a:Rat)⁻¹*(b:Rat)⁻¹:=by
 have h1:=Rat.mul_inv_cancel (a:Rat) (za8 (by omega))
 have h2:=Rat.mul_inv_cancel (b:Rat) (za8 (by omega))
 have h3:=Rat.mul_inv_cancel ((a*b:Int):Rat) (za8 (by have:=Int.mul_pos ha hb;omega))
 rw [Rat.intCast_mul] at *
 generalize ((a:Rat)*b)⁻¹=w at *
 generalize (a:Rat)⁻¹=u at *
 generalize (b:Rat)⁻¹=v at *
 have:w*((a:Rat)*u)*((b:Rat)*v)=(a:Rat)*b*w*(u*v):=by grind
 rw [h1,h2,h3] at this
 grind
theorem zsn (x y:Int) {a b:Int} (ha:0<a) (hb:0<b):fq (x*y) (a*b)=fq x a*fq y b:=by
 unfold fq;rw [inv_mul ha hb,Rat.intCast_mul];grind
theorem fq_one (c:Int) {d:Int} (hd:0<d):fq (c*d) d=c:=by
 have h1:=Rat.mul_inv_cancel (d:Rat) (za8 (by omega))
 unfold fq;rw [Rat.intCast_mul]
 generalize (d:Rat)⁻¹=u at *
 grind
theorem encZ_ok {lo hi den:Int} (hd:0<den):∀l:List Int,0<(zrY lo hi den l).2.2∧fq (zrY lo hi den l).1 (zrY lo hi den l).2.2=(enc (qL l) (fq lo den) (fq hi den)).1∧fq (zrY lo hi den l).2.1 (zrY lo hi den l).2.2=(enc (qL l) (fq lo den) (fq hi den)).2
 | []=>⟨show(0:Int)<1 by decide,by unfold fq;show((0:Int):Rat)*_=0;exact Rat.zero_mul _,by unfold fq;show((0:Int):Rat)*_=0;exact Rat.zero_mul _⟩
 | c :: l=>by
  obtain ⟨h0,h1,h2⟩:=encZ_ok hd l
  have hp:=Int.mul_pos h0 hd
  have q:enc (qL (c :: l)) (fq lo den) (fq hi den)=(mn4 ((enc (qL l) (fq lo den) (fq hi den)).1*fq lo den) ((enc (qL l) (fq lo den) (fq hi den)).1*fq hi den) ((enc (qL l) (fq lo den) (fq hi den)).2*fq lo den) ((enc (qL l) (fq lo den) (fq hi den)).2*fq hi den)+(c:Rat),mx4 ((enc (qL l) (fq lo den) (fq hi den)).1*fq lo den) ((enc (qL l) (fq lo den) (fq hi den)).1*fq hi den) ((enc (qL l) (fq lo den) (fq hi den)).2*fq lo den) ((enc (qL l) (fq lo den) (fq hi den)).2*fq hi den)+(c:Rat)):=rfl
  rw [q,← h1,← h2]
  show 0<(zrY lo hi den l).2.2*den∧fq (mnG [(zrY lo hi den l).1*lo,(zrY lo hi den l).1*hi,(zrY lo hi den l).2.1*lo,(zrY lo hi den l).2.1*hi]+c*((zrY lo hi den l).2.2*den)) ((zrY lo hi den l).2.2*den)=_∧fq (mxG [(zrY lo hi den l).1*lo,(zrY lo hi den l).1*hi,(zrY lo hi den l).2.1*lo,(zrY lo hi den l).2.1*hi]+c*((zrY lo hi den l).2.2*den)) ((zrY lo hi den l).2.2*den)=_
  generalize zrY lo hi den l=e at *
  refine ⟨hp,?_,?_⟩
  ·rw [fq_add,fq_one c hp,mnG4,fq_mn hp,fq_mn hp,fq_mn hp,zsn _ _ h0 hd,zsn _ _ h0 hd,zsn _ _ h0 hd,zsn _ _ h0 hd];rfl
  ·rw [fq_add,fq_one c hp,mxG4,fq_mx hp,fq_mx hp,fq_mx hp,zsn _ _ h0 hd,zsn _ _ h0 hd,zsn _ _ h0 hd,zsn _ _ h0 hd];rfl
theorem fq_0 {a d:Int} (hd:0<d):(0<fq a d↔0<a)∧(fq a d<0↔a<0):=by
 have z:fq 0 d=0:=by unfold fq;show((0:Int):Rat)*_=0;exact Rat.zero_mul _
 have h1:=fq_lt (a:=a) (b:=0) hd
 have h2:=fq_lt (a:=0) (b:=a) hd
 rw [z] at h1 h2
 constructor
 ·rw [← Rat.not_le,h1];omega
 ·rw [← Rat.not_le,h2];omega
noncomputable section
end
open Go.Kf
open Go.Kf.V
theorem hv_le (p:List Int) {E:Nat}:∀(k:Nat) {lo hi d:Int},lo.natAbs≤E→hi.natAbs≤E→d.natAbs≤E→(hvG p k lo hi d).1.natAbs≤E*2 ^ k∧(hvG p k lo hi d).2.1.natAbs≤E*2 ^ k∧(hvG p k lo hi d).2.2.natAbs≤E*2 ^ k
 | 0,lo,hi,d,h1,h2,h3=>by rw [Nat.pow_zero,Nat.mul_one];exact ⟨h1,h2,h3⟩
 | k+1,lo,hi,d,h1,h2,h3=>by
  have ih:=hv_le p k h1 h2 h3
  rw [zsa,Nat.pow_succ]
  generalize hvG p k lo hi d=t at *
  have e:E*(2 ^ k*2)=E*2 ^ k*2:=(Nat.mul_assoc _ _ _).symm
  rw [e]
  generalize E*2 ^ k=X at *
  unfold hvS
  split<;>(simp only;omega)
theorem p26 (k:Nat):2 ^ k≤100000000 ^ (k / 26+1):=by
 have h1:k≤26*(k / 26+1):=by omega
 have h2:2 ^ k≤2 ^ (26*(k / 26+1)):=Nat.pow_le_pow_right (by decide) h1
 rw [Nat.pow_mul] at h2
 exact Nat.le_trans h2 (Nat.pow_le_pow_left (by decide) _)
theorem sz_2k {z:Int} {k:Nat} (h:z.natAbs≤1000000*2 ^ k):Sz (k / 26+2) z:=by
 have h1:=p26 k
 have h2:0<100000000 ^ (k / 26+1):=Nat.pow_pos (by decide)
 unfold Sz
 rw [Nat.pow_succ]
 generalize 100000000 ^ (k / 26+1)=X at *
 generalize 2 ^ k=Y at *
 omega
theorem mn2_sz {m:Nat} {x y:Int} (hx:Sz m x) (hy:Sz m y):Sz m (ztp x y):=by unfold ztp;split<;>assumption
theorem mx2_sz {m:Nat} {x y:Int} (hx:Sz m x) (hy:Sz m y):Sz m (ztq x y):=by unfold ztq;split<;>assumption
theorem hzS_sz {lo hi den c:Int} {e:Int × Int × Int} {m A j:Nat} (h1:Sz m lo) (h2:Sz m hi) (h3:Sz m den) (hc:Sz A c) (i1:Sz (A+j*(m+2)) e.1) (i2:Sz (A+j*(m+2)) e.2.1) (i3:Sz (j*m+1) e.2.2) :
 (∀x∈hzL lo hi e,Sz (A+j*(m+2)+m) x)∧Sz (A+j*(m+2)+m) (mnG (hzL lo hi e))∧Sz (A+j*(m+2)+m) (mxG (hzL lo hi e))∧Sz (A+j*(m+2)+m+1) (c*(e.2.2*den))∧Sz (A+(j+1)*(m+2)) (hzS lo hi den c e).1∧Sz (A+(j+1)*(m+2)) (hzS lo hi den c e).2.1∧Sz ((j+1)*m+1) (hzS lo hi den c e).2.2:=by
 have e1:(j+1)*(m+2)=j*(m+2)+m+2:=by rw [Nat.add_mul];omega
 have e2:(j+1)*m=j*m+m:=by rw [Nat.add_mul];omega
 have e3:j*(m+2)=j*m+j*2:=by rw [Nat.mul_add]
 have hd:Sz (j*m+1+m) (e.2.2*den):=i3.mul h3
 rw [e1,e2]
 have a1:=i1.mul h1;have a2:=i1.mul h2;have a3:=i2.mul h1;have a4:=i2.mul h2
 have s1:Sz (A+j*(m+2)+m) (mnG (hzL lo hi e)):=by
  unfold hzL;rw [mnG4];exact mn2_sz (mn2_sz (mn2_sz a1 a2) a3) a4
 have s2:Sz (A+j*(m+2)+m) (mxG (hzL lo hi e)):=by
  unfold hzL;rw [mxG4];exact mx2_sz (mx2_sz (mx2_sz a1 a2) a3) a4
 have s3:Sz (A+j*(m+2)+m+1) (c*(e.2.2*den)):=(hc.mul hd).mono (by omega)
 refine ⟨fun x hx=>?_,s1,s2,s3,Sz.add s1 s3 (by omega) (by omega),Sz.add s2 s3 (by omega) (by omega),hd.mono (by omega)⟩
 simp only [hzL,List.mem_cons,List.not_mem_nil,or_false] at hx
 rcases hx with rfl | rfl | rfl | rfl<;>assumption
theorem zsr {lo hi den:Int} {m A:Nat} (h1:Sz m lo) (h2:Sz m hi) (h3:Sz m den):∀l:List Int,(∀c∈l,Sz A c)→Sz (A+l.length*(m+2)) (zrY lo hi den l).1∧Sz (A+l.length*(m+2)) (zrY lo hi den l).2.1∧Sz (l.length*m+1) (zrY lo hi den l).2.2
 | [],_=>⟨Sz.zero,Sz.zero,Sz.lit (z:=1) (by decide) (by omega)⟩
 | c :: l,h=>by
  obtain ⟨i1,i2,i3⟩:=zsr h1 h2 h3 l fun x hx=>h x (List.mem_cons_of_mem _ hx)
  exact(hzS_sz h1 h2 h3 (h c List.mem_cons_self) i1 i2 i3).2.2.2.2
theorem iv_pV {c:List Int} {A:Nat} (hc:∀i,Sz A (c.getD i 0)):IV ((100000000 ^ A:Nat):Rat) (pV c):=fun i=>by
 refine ⟨⟨_,rfl⟩,?_⟩
 have h:=hc i
 unfold Sz at h
 have h1:-((100000000 ^ A:Nat):Int)≤c.getD i 0∧c.getD i 0≤((100000000 ^ A:Nat):Int):=by omega
 have k1:((-((100000000 ^ A:Nat):Int):Int):Rat)≤((c.getD i 0:Int):Rat):=Rat.intCast_le_intCast.2 h1.1
 have k2:((c.getD i 0:Int):Rat)≤((((100000000 ^ A:Nat):Int)):Rat):=Rat.intCast_le_intCast.2 h1.2
 rw [Rat.intCast_neg] at k1
 exact ⟨k1,k2⟩
theorem p10_2 {A k:Nat} (h:289+128*A≤k):(10:Rat) ^ 72*(((100000000 ^ A:Nat):Rat)*((100000000 ^ A:Nat):Rat)*((100000000 ^ A:Nat):Rat)*((100000000 ^ A:Nat):Rat))<2 ^ k:=by
 have h1:10 ^ (72+32*A)<2 ^ k:=by
  have a1:10 ^ (72+32*A)≤16 ^ (72+32*A):=Nat.pow_le_pow_left (by decide) _
  have a2:(16:Nat) ^ (72+32*A)=2 ^ (4*(72+32*A)):=by rw [Nat.pow_mul]
  have a3:2 ^ (4*(72+32*A))<2 ^ k:=Nat.pow_lt_pow_right (by decide) (by omega)
  omega
 have h2:10 ^ (72+32*A)=10 ^ 72*(100000000 ^ A*100000000 ^ A*100000000 ^ A*100000000 ^ A):=by
  have e:100000000 ^ A=10 ^ (8*A):=by rw [Nat.pow_mul]
  rw [e,← Nat.pow_add,← Nat.pow_add,← Nat.pow_add,← Nat.pow_add]
  congr 1;omega
 rw [h2] at h1
 have h3:((10 ^ 72*(100000000 ^ A*100000000 ^ A*100000000 ^ A*100000000 ^ A):Nat):Rat)<((2 ^ k:Nat):Rat):=Rat.natCast_lt_natCast.2 h1
 rw [Rat.natCast_mul,Rat.natCast_mul,Rat.natCast_mul,Rat.natCast_mul,Rat.natCast_pow 2] at h3
 exact h3
section
variable {p:List Int} {a b d:Int}
theorem sgF_sc (h:zbw p a b d=0) {r:Rat} (hr:0<r) {x:V} (hx:Sup (qO p).length x):sgF p a b d (sm r x)=sgF p a b d x:=by
 have h1:=zsx (zr2 h)
 have e:mul (qO p).length (pV (qO p)) (sm r e0) x=sm r x:=by rw [zkp h1 _ (zcQ h1) hx,ziX h1 hx]
 have:=sgF_mul h (zdm (r:=r) (zcQ h1)) hx
 rw [e,sgF_c h r 1 ⟨⟨fun _=>by decide,fun _=>hr⟩,⟨fun k=>by grind,fun k=>by omega⟩⟩] at this
 rw [this];exact Int.one_mul _
noncomputable def enZ (p:List Int) (a b d:Int) (c:List Int) (k:Nat):Int × Int × Int:=zrY (hvG p k a b d).1 (hvG p k a b d).2.1 (hvG p k a b d).2.2 c
theorem crd_pV {n:Nat} {c:List Int} (h:c.length≤n):crd n (pV c)=qL c++List.replicate (n-c.length) 0:=by
 apply List.ext_getElem
 ·rw [ziT,List.length_append,zbA,List.length_replicate];omega
 ·intro i h1 h2
  have a:=zms (n:=n) (pV c) i (by rw [ziT] at h1;exact h1)
  rw [List.getD_eq_getElem?_getD,List.getElem?_eq_getElem h1,Option.getD_some] at a
  rw [a]
  by_cases hi:i<c.length
  ·rw [List.getElem_append_left (by rw [zbA];exact hi)]
   have b:=zbz c i
   rw [List.getD_eq_getElem?_getD,List.getElem?_eq_getElem (by rw [zbA];exact hi),Option.getD_some] at b
   rw [b];rfl
  ·rw [List.getElem_append_right (by rw [zbA];omega),List.getElem_replicate]
   unfold pV
   rw [List.getD_eq_getElem?_getD,List.getElem?_eq_none (by omega)];rfl
theorem enc_pad (lo hi:Rat) (k:Nat):∀l:List Rat,enc (l++List.replicate k 0) lo hi=enc l lo hi
 | []=>by
  induction k with
  | zero=>rfl
  | succ k ih=>
   rw [List.nil_append] at ih ⊢
   show(mn4 _ _ _ _+0,mx4 _ _ _ _+0)=((0:Rat),(0:Rat))
   rw [ih]
   have z:∀x:Rat,(enc [] lo hi).1*x=0∧(enc [] lo hi).2*x=0:=fun x=>⟨Rat.zero_mul x,Rat.zero_mul x⟩
   rw [(z lo).1,(z hi).1,(z lo).2,(z hi).2]
   have h1:mn4 0 0 0 0=0:=by have:=(zsR 0 0 0 0).1;grind
   have h2:mx4 0 0 0 0=0:=by have:=(zsS 0 0 0 0).1;grind
   rw [h1,h2,Rat.add_zero]
 | c :: l=>by
  have ih:=enc_pad lo hi k l
  rw [List.cons_append]
  unfold enc
  rw [ih]
theorem enZ_ok (h:zbw p a b d=0) (h3:3≤p.length) {c:List Int} (hc:c.length≤p.length-1) (k:Nat):0<(hvG p k a b d).2.2∧0<(enZ p a b d c k).2.2∧fq (enZ p a b d c k).1 (enZ p a b d c k).2.2=((fN h).en (pV c) k).1∧fq (enZ p a b d c k).2.1 (enZ p a b d c k).2.2=((fN h).en (pV c) k).2:=by
 have hp:=zr2 h
 have hl:=zdT hp
 have h2:2≤(qO p).length:=by omega
 have e:=(chk_fs h).1
 have iv:=(iv_chk h h2).hv h2 (zsc h) k
 have en:(fN h).en (pV c) k=enc (qL c) (fq (hvG p k a b d).1 (hvG p k a b d).2.2) (fq (hvG p k a b d).2.1 (hvG p k a b d).2.2):=by
  unfold Nest.en
  rw [crd_pV (by omega),enc_pad]
  unfold fN
  rw [dif_pos h2]
  show enc _ (fq (hvG (qO p++[1]) k a b d).1 (hvG (qO p++[1]) k a b d).2.2) (fq (hvG (qO p++[1]) k a b d).2.1 (hvG (qO p++[1]) k a b d).2.2)=_
  rw [← e]
 rw [← e] at iv
 refine ⟨iv.d,?_⟩
 rw [en]
 exact encZ_ok iv.d c
theorem zsg (h:zbw p a b d=0) (h3:3≤p.length) {c:List Int} (hc:c.length≤p.length-1) (k:Nat):(0<(enZ p a b d c k).1→sgF p a b d (pV c)=1)∧((enZ p a b d c k).2.1<0→sgF p a b d (pV c) = -1)∧∀A,(∀i,Sz A (c.getD i 0))→(∃i,c.getD i 0≠0)→289+128*A≤k→0<(enZ p a b d c k).1∨(enZ p a b d c k).2.1<0:=by
 obtain ⟨_,h0,e1,e2⟩:=enZ_ok h h3 hc k
 have hp:=zr2 h
 have hl:=zdT hp
 have f1:=(fq_0 (a:=(enZ p a b d c k).1) h0).1
 have f2:=(fq_0 (a:=(enZ p a b d c k).2.1) h0).2
 rw [e1] at f1
 rw [e2] at f2
 have hx:Sup (qO p).length (pV c):=sup_pV fun i hi=>by rw [List.getD_eq_getElem?_getD,List.getElem?_eq_none (by omega)];rfl
 have ne:(∃i,c.getD i 0≠0)→pV c≠zero:=fun ⟨i,hi⟩ e=>hi (Rat.intCast_inj.1 (congrFun e i))
 rw [← f1,← f2]
 have nz:∀s:Int,((fN h).sgn (pV c)=s)→sgF p a b d (pV c)=s:=fun s e=>by rw [zst h,e]
 refine ⟨fun k1=>?_,fun k1=>?_,fun A hA hn hk=>?_⟩
 ·by_cases hz:pV c=zero
  ·have:=fN_B h k _ ((fN h).inA k)
   have k2:=((fN h).en_in (pV c) ((fN h).inA k)).1
   have k3:atQ (qO p).length zero ((fN h).a k)=0:=by
    have:=zsv (n:=(qO p).length) 0 zero ((fN h).a k)
    rw [zak] at this
    rw [this,Rat.zero_mul]
   rw [hz] at k1 k2;rw [k3] at k2
   exfalso;grind
  ·obtain ⟨y,e⟩:=fN_inv h hx hz
   exact nz _ ((fN h).en_sgn1 (zsx hp) e k1)
 ·by_cases hz:pV c=zero
  ·have k2:=((fN h).en_in (pV c) ((fN h).inA k)).2
   have k3:atQ (qO p).length zero ((fN h).a k)=0:=by
    have:=zsv (n:=(qO p).length) 0 zero ((fN h).a k)
    rw [zak] at this
    rw [this,Rat.zero_mul]
   rw [hz] at k1 k2;rw [k3] at k2
   exfalso;grind
  ·obtain ⟨y,e⟩:=fN_inv h hx hz
   exact nz _ ((fN h).en_sgn2 (zsx hp) e k1)
 ·refine tells_I (zsx hp) (ziH hp) (fun c hc=>hp.2.2 c (List.mem_of_mem_take hc)) (zsc h) (fN h) (fN_B h) (fN_w h) hx (ne hn) ?_ (iv_pV hA) (p10_2 hk)
  exact show((1:Nat):Rat)≤_ from Rat.natCast_le_natCast.2 (Nat.pow_pos (by decide))
end
noncomputable section
end
open Go.Kf
open Go.Kf.V
section
variable {p:List Int} {a b d:Int}
open Classical in
end
open Go.Kf
noncomputable section
abbrev mi_L0 (s:St) (r:Ex × St):Prop:=Loops 2 Tryz.prog (kZ Tryz.prog 174 0) s r
abbrev zse (a:List Int) (b c:Int):St:=⟨sp 33 [(0,.lst EK.whole a),(1,.fn 121 []),(4,.ref 0 0),(5,.ref 1 0),(6,aI b)],[.flat [aF,aN] true,.flat [aD c,.wd c] true],[1]⟩
abbrev zsC (a:List Int) (b c:Int):St:=⟨sp 33 [(0,.lst EK.whole a),(1,.fn 121 []),(4,.ref 0 0),(5,.ref 1 0),(6,aI b)],[.flat [aF,aN] true,.flat [aD c,.wd c] true],[1]⟩
theorem mi_L0_0_0 (a:List Int) (b d:Int) (h1:b<(a.length:Int)) (h2:0≤b) (h3:pDD (a.getD b.toNat 0) d) (h4:(a.getD b.toNat 0-d).sign<0) (h5:r64 (b+1)):LG mi_L0 (zse a b d) (zse a (b+1) (a.getD b.toNat 0)):=Loops.go (LS.at znX 60 [] [0,1,4,5,6] [1] [1,1] (.t h1<|.t h2<|.c h3<|.t h4<|.i h5<|.e) [1,2,1,0,0,3,4,2,1,5])
theorem mi_L0_0_1 (a:List Int) (b d:Int) (h1:b<(a.length:Int)) (h2:0≤b) (h3:pDD (a.getD b.toNat 0) d) (h4:¬((a.getD b.toNat 0-d).sign<0)) (h5:r64 (b+1)):LG mi_L0 (zse a b d) (zse a (b+1) d):=Loops.go (LS.at znX 60 [] [0,1,4,5,6] [1] [1,0] (.t h1<|.t h2<|.c h3<|.f h4<|.i h5<|.e) [1,2,1,0,0,3,4,5])
theorem mi_L0_0_2 (a:List Int) (b c:Int) (h1:¬(b<(a.length:Int))):mi_L0 (zse a b c) (Ex.exit 0,(zsC a b c)):=LF (LS.at znX 60 [] [0,1,4,5,6] [1] [0] (.f h1<|.e) [1])
theorem mi_0 (l:List Int) (a b:Int) (h1:¬((l.length:Int)<1)) (h2:0<(l.length:Int)) (hL1:mi_L0 (zse l (1) (l.getD 0 0)) (Ex.exit 0,(zsC l a b))):FC Tryz.prog 174 [.lst .whole l,.fn 121 []] (.agg [aD b,.wd b]):=dZ znX 60 [0] (.f h1<|.t h2<|.v [0,1,4,5,6] [1] hL1<|.e) [1,0,2,0,3]
abbrev ma_L0 (s:St) (r:Ex × St):Prop:=Loops 2 Tryz.prog (kZ Tryz.prog 175 0) s r
abbrev zsd (a:List Int) (b c:Int):St:=⟨sp 33 [(0,.lst EK.whole a),(1,.fn 121 []),(4,.ref 0 0),(5,.ref 1 0),(6,aI b)],[.flat [aF,aN] true,.flat [aD c,.wd c] true],[1]⟩
abbrev zsB (a:List Int) (b c:Int):St:=⟨sp 33 [(0,.lst EK.whole a),(1,.fn 121 []),(4,.ref 0 0),(5,.ref 1 0),(6,aI b)],[.flat [aF,aN] true,.flat [aD c,.wd c] true],[1]⟩
theorem ma_L0_0_0 (a:List Int) (b d:Int) (h1:b<(a.length:Int)) (h2:0≤b) (h3:pDD (a.getD b.toNat 0) d) (h4:(a.getD b.toNat 0-d).sign > 0) (h5:r64 (b+1)):LG ma_L0 (zsd a b d) (zsd a (b+1) (a.getD b.toNat 0)):=Loops.go (LS.at znX 60 [] [0,1,4,5,6] [1] [1,1] (.t h1<|.t h2<|.c h3<|.t h4<|.i h5<|.e) [1,2,1,0,0,3,4,2,1,5])
theorem ma_L0_0_1 (a:List Int) (b d:Int) (h1:b<(a.length:Int)) (h2:0≤b) (h3:pDD (a.getD b.toNat 0) d) (h4:¬((a.getD b.toNat 0-d).sign > 0)) (h5:r64 (b+1)):LG ma_L0 (zsd a b d) (zsd a (b+1) d):=Loops.go (LS.at znX 60 [] [0,1,4,5,6] [1] [1,0] (.t h1<|.t h2<|.c h3<|.f h4<|.i h5<|.e) [1,2,1,0,0,3,4,5])
theorem ma_L0_0_2 (a:List Int) (b c:Int) (h1:¬(b<(a.length:Int))):ma_L0 (zsd a b c) (Ex.exit 0,(zsB a b c)):=LF (LS.at znX 60 [] [0,1,4,5,6] [1] [0] (.f h1<|.e) [1])
theorem ma_0 (l:List Int) (a b:Int) (h1:¬((l.length:Int)<1)) (h2:0<(l.length:Int)) (hL1:ma_L0 (zsd l (1) (l.getD 0 0)) (Ex.exit 0,(zsB l a b))):FC Tryz.prog 175 [.lst .whole l,.fn 121 []] (.agg [aD b,.wd b]):=dZ znX 60 [0] (.f h1<|.t h2<|.v [0,1,4,5,6] [1] hL1<|.e) [1,0,2,0,3]
theorem ra_0 (a b c e d:Int) (h1:b.sign≠0):FC Tryz.prog 136 [nuA a b c e d] (aF):=dZ znX 60 [3] (.c (bne_iff_ne.2 h1)<|.o<|.e) (ux [1007,1])
theorem ra_1 (a b c e d:Int) (h1:b.sign=0) (h2:c.sign≠0):FC Tryz.prog 136 [nuA a b c e d] (aF):=dZ znX 60 [2,3] (.c (bne_eq_false_iff_eq.2 h1)<|.c (bne_iff_ne.2 h2)<|.o<|.e) (ux [1007,1,1005,2])
theorem ra_2 (a b c e d:Int) (h1:b.sign=0) (h2:c.sign=0) (h3:e.sign≠0):FC Tryz.prog 136 [nuA a b c e d] (aF):=dZ znX 60 [2,2,3] (.c (bne_eq_false_iff_eq.2 h1)<|.c (bne_eq_false_iff_eq.2 h2)<|.c (bne_iff_ne.2 h3)<|.o<|.e) (ux [1007,1,1005,2,1005,3])
theorem ra_3 (a b c e d:Int) (h1:b.sign=0) (h2:c.sign=0) (h3:e.sign=0):FC Tryz.prog 136 [nuA a b c e d] (aT):=dZ znX 60 [2,2,2] (.c (bne_eq_false_iff_eq.2 h1)<|.c (bne_eq_false_iff_eq.2 h2)<|.c (bne_eq_false_iff_eq.2 h3)<|.o<|.e) (ux [1007,1,1005,2,1005,3,0])
theorem deg_0 (p:List Int) (h1:r64 ((p.length:Int)-1)):FC Tryz.prog 102 [reA (.lst .whole p)] (aI ((p.length:Int)-1)):=dZ znX 60 [] (.i h1<|.e) [1]
end
open Go.Kf
def pMi (l:List Int):Prop:=1≤l.length∧l.length≤1000∧∀x∈l,zag x
theorem zsO {l:List Int} (hl:l.length≤1000) (hf:∀x∈l,zag x):∀(n i:Nat) (m:Int),i+n=l.length→zag m→mi_L0 (zse l i m) (Ex.exit 0,zsC l l.length ((l.drop i).foldl ztp m))
 | 0,i,m,hi,hm=>by
  obtain rfl:i=l.length:=by omega
  rw [List.drop_length]
  exact mi_L0_0_2 l _ m (by omega)
 | n + 1,i,m,hi,hm=>by
  have hlt:i<l.length:=by omega
  have hg:l.getD (Int.toNat (i:Int)) 0=l[i]:=by
   rw [Int.toNat_natCast,List.getD_eq_getElem?_getD,List.getElem?_eq_getElem hlt];rfl
  have hx:=hf _ (List.getElem_mem hlt)
  rw [List.drop_eq_getElem_cons hlt,List.foldl_cons]
  by_cases h:l[i]<m
  ·rw [show ztp m l[i]=l[i] from if_pos h]
   have:=zsO hl hf n (i+1) l[i] (by omega) hx
   exact mi_L0_0_0 l i m (by omega) (by omega) (by rw [hg];exact ⟨hx,hm⟩) (by rw [hg];exact Int.sign_neg_iff.2 (by omega)) (by unfold r64;omega) (by rw [hg];exact this)
  ·rw [show ztp m l[i]=m from if_neg h]
   have:=zsO hl hf n (i+1) m (by omega) hm
   exact mi_L0_0_1 l i m (by omega) (by omega) (by rw [hg];exact ⟨hx,hm⟩) (by rw [hg];intro k;have:=Int.sign_neg_iff.1 k;omega) (by unfold r64;omega) this
theorem zsN {l:List Int} (hl:l.length≤1000) (hf:∀x∈l,zag x):∀(n i:Nat) (m:Int),i+n=l.length→zag m→ma_L0 (zsd l i m) (Ex.exit 0,zsB l l.length ((l.drop i).foldl ztq m))
 | 0,i,m,hi,hm=>by
  obtain rfl:i=l.length:=by omega
  rw [List.drop_length]
  exact ma_L0_0_2 l _ m (by omega)
 | n + 1,i,m,hi,hm=>by
  have hlt:i<l.length:=by omega
  have hg:l.getD (Int.toNat (i:Int)) 0=l[i]:=by
   rw [Int.toNat_natCast,List.getD_eq_getElem?_getD,List.getElem?_eq_getElem hlt];rfl
  have hx:=hf _ (List.getElem_mem hlt)
  rw [List.drop_eq_getElem_cons hlt,List.foldl_cons]
  by_cases h:m<l[i]
  ·rw [show ztq m l[i]=l[i] from if_pos h]
   have:=zsN hl hf n (i+1) l[i] (by omega) hx
   exact ma_L0_0_0 l i m (by omega) (by omega) (by rw [hg];exact ⟨hx,hm⟩) (by rw [hg];exact Int.sign_pos_iff.2 (by omega)) (by unfold r64;omega) (by rw [hg];exact this)
  ·rw [show ztq m l[i]=m from if_neg h]
   have:=zsN hl hf n (i+1) m (by omega) hm
   exact ma_L0_0_1 l i m (by omega) (by omega) (by rw [hg];exact ⟨hx,hm⟩) (by rw [hg];intro k;have:=Int.sign_pos_iff.1 k;omega) (by unfold r64;omega) this
theorem mnL_eq {l:List Int} (h:1≤l.length):mnL l=(l.drop 1).foldl ztp (l.getD 0 0)∧mxL l=(l.drop 1).foldl ztq (l.getD 0 0):=by
 match l,h with
 | x :: l,_=>exact ⟨rfl,rfl⟩
theorem min_fc (l:List Int) (h:pMi l):FC Tryz.prog 174 [.lst .whole l,.fn 121 []] (W (mnL l)):=by
 obtain ⟨h1,h2,h3⟩:=h
 have hm:zag (l.getD 0 0):=by rw [List.getD_eq_getElem?_getD,List.getElem?_eq_getElem (by omega)];exact h3 _ (List.getElem_mem _)
 have:=zsO h2 h3 (l.length-1) 1 _ (by omega) hm
 rw [← (mnL_eq h1).1] at this
 exact mi_0 l _ _ (by omega) (by omega) this
theorem max_fc (l:List Int) (h:pMi l):FC Tryz.prog 175 [.lst .whole l,.fn 121 []] (W (mxL l)):=by
 obtain ⟨h1,h2,h3⟩:=h
 have hm:zag (l.getD 0 0):=by rw [List.getD_eq_getElem?_getD,List.getElem?_eq_getElem (by omega)];exact h3 _ (List.getElem_mem _)
 have:=zsN h2 h3 (l.length-1) 1 _ (by omega) hm
 rw [← (mnL_eq h1).2] at this
 exact ma_0 l _ _ (by omega) (by omega) this
def cMi (G:List Int→Int) (args:List AV):M AV:=match args with
 | [x,.fn f []]=>if f=121 then do
  let l ← asWL x
  tell (pMi l)
  M.pure (W (G l))
  else fail 370
 | _=>fail 371
theorem cMi_ok {g:List Int→Int} {k:FuncId} (hg:∀l,pMi l→FC Tryz.prog k [.lst .whole l,.fn 121 []] (W (g l))):jZ Tryz.prog k (cMi (hid g)):=by
 intro args _
 rw [zr6]
 unfold cMi
 split
 ·split
  ·rename_i hf
   subst hf
   exact Spec.bind (asWL_spec.mono fun l hl=>Spec.bind (Spec.tell fun h=>Spec.pure' ((hg l h).le (.cons hl (LeL.refl _)) (Le.refl _))))
  ·exact Spec.fail
 ·exact Spec.fail
theorem rat_fc (a b c e d:Int):FC Tryz.prog 136 [nuA a b c e d] (.lit (.bool (decide (b=0∧c=0∧e=0)))):=by
 have s0:∀ {z:Int},Int.sign z=0↔z=0:=Int.sign_eq_zero_iff_zero
 by_cases h1:b=0
 ·by_cases h2:c=0
  ·by_cases h3:e=0
   ·rw [decide_eq_true ⟨h1,h2,h3⟩];exact ra_3 a b c e d (s0.2 h1) (s0.2 h2) (s0.2 h3)
   ·rw [decide_eq_false fun k=>h3 k.2.2];exact ra_2 a b c e d (s0.2 h1) (s0.2 h2) (fun k=>h3 (s0.1 k))
  ·rw [decide_eq_false fun k=>h2 k.2.1];exact ra_1 a b c e d (s0.2 h1) (fun k=>h2 (s0.1 k))
 ·rw [decide_eq_false fun k=>h1 k.1];exact ra_0 a b c e d (fun k=>h1 (s0.1 k))
noncomputable def evG:List Int→Int→Int→Int:=hid zaf
abbrev reI (p:List Int) (u v w:Int) (t:List Int) (lo hi den:Int):AV:=.pd [.sq p,.lit (.int .i64 u),.lit (.int .i64 v),.lit (.int .i64 w),.lst .whole p,.lst .whole t,.lit (.bool (decide (lo<0))),.wd lo,.lit (.bool (decide (hi<0))),.wd hi,.lit (.bool (decide (den<0))),.wd den] 0
def cRa (args:List AV):M AV:=match args with
 | [x]=>do
  let q ← zrS x
  match q with
  | (a,b,c,e,d)=>do
   let z ← dec (decide (b=0∧c=0∧e=0))
   M.pure (.lit (.bool z))
 | _=>fail 372
def pDg (p:List Int) (k:Int):Prop:=((p.length:Nat):Int)=k+1∧p.length≤5
def cDeg (k:Int) (args:List AV):M AV:=match args with
 | [x]=>do
  let p ← zto x
  tell (pDg p k)
  M.pure (.lit (.int .i64 k))
 | _=>fail 373
noncomputable def ctrSg (k:Int):Ctr:=(102,cDeg k) :: (146,cLWW zcw (fun l a b=>.lit (.int .i64 (evG l a b).sign))) :: (174,cMi mnG) :: (175,cMi mxG) :: (136,cRa) :: zsW
theorem cRa_ok:jZ Tryz.prog 136 cRa:=by
 intro args _
 unfold cRa
 split
 ·refine Spec.bind (asNu_spec.mono fun q hq=>?_)
  obtain ⟨a,b,c,e,d⟩:=q
  exact Spec.bind (Spec.dec (Spec.pure' ((rat_fc a b c e d).le (.cons hq .nil) (Le.refl _))))
 ·exact Spec.fail
theorem cDeg_ok {k:Int}:jZ Tryz.prog 102 (cDeg k):=by
 intro args _
 unfold cDeg
 split
 ·refine Spec.bind (asRL_spec.mono fun p hp=>Spec.bind (Spec.tell fun h=>Spec.pure' ?_))
  obtain ⟨h1,h2⟩:=h
  have:=(deg_0 p (by unfold r64;omega)).le (.cons hp .nil) (Le.refl _)
  rwa [show((p.length:Nat):Int)-1=k by omega] at this
 ·exact Spec.fail
theorem signG_fc (l:List Int) (a b:Int) (h:zcw l a b):FC Tryz.prog 146 [.lst .whole l,W a,W b] (.lit (.int .i64 (evG l a b).sign)):=by
 unfold evG;rw [zr6];exact zjg l a b h
theorem ctrSg_all {k:Int}:∀p∈ctrSg k,jZ Tryz.prog p.1 p.2:=CAll.cons cDeg_ok<|CAll.cons (zsG signG_fc)<|CAll.cons (cMi_ok min_fc)<|CAll.cons (cMi_ok max_fc)<|CAll.cons cRa_ok zg5
theorem zsl (k:Int):(eZ Tryz.prog (ctrSg k) bw [] kdQ2).OK:=vZ zaC mixed ctrSg_all zaA
noncomputable section
end
open Go.Kf
theorem pf1:cZ 1:=by unfold cZ;omega
theorem hz4:(4:Nat)≤4:=Nat.le_refl 4
structure HzC (lo hi den c:Int) (e:Int × Int × Int):Prop where
 a1:pDD e.1 lo
 a2:pDD e.1 hi
 a3:pDD e.2.1 lo
 a4:pDD e.2.1 hi
 a5:pDD e.2.2 den
 a6:pDD c (e.2.2*den)
 a8:pMi (hzL lo hi e)
 a9:pDD (mnG (hzL lo hi e)) (c*(e.2.2*den))
 a10:pDD (mxG (hzL lo hi e)) (c*(e.2.2*den))
structure HvC (p:List Int) (lo hi den:Int):Prop where
 b1:pDD lo hi
 b2:pDD den den
 b3:zcw p lo den
 b4:zcw p (lo+hi) (den+den)
 b5:r64 (Int.sign (evG p lo den)*Int.sign (evG p (lo+hi) (den+den)))
 b6:pDD lo lo
 b7:pDD hi hi
section
variable {lp:List (Option zay)} {gs:List Prop} {lo hi den c:Int} {e:Int × Int × Int} {p:List Int}
theorem gK (K:HzC lo hi den c e) (k:Giv lp gs):Giv lp (pDD e.1 lo :: pDD e.1 hi :: pDD e.2.1 lo :: pDD e.2.1 hi :: pDD e.2.2 den :: pDD c (e.2.2*den) :: ((4:Nat)≤4) :: pMi (hzL lo hi e) :: pDD (mnG (hzL lo hi e)) (c*(e.2.2*den)) :: pDD (mxG (hzL lo hi e)) (c*(e.2.2*den)) :: gs):=
 .c K.a1 <| .c K.a2 <| .c K.a3 <| .c K.a4 <| .c K.a5 <| .c K.a6 <| .c hz4 <| .c K.a8 <| .c K.a9 <| .c K.a10 k
theorem gK0 (K:HzC lo hi den c e) (k:Giv lp gs):Giv lp (pDD e.1 lo :: pDD e.1 hi :: pDD e.2.2 den :: pDD c (e.2.2*den) :: ((4:Nat)≤4) :: pMi (hzL lo hi e) :: pDD (mnG (hzL lo hi e)) (c*(e.2.2*den)) :: pDD (mxG (hzL lo hi e)) (c*(e.2.2*den)) :: gs):=
 .c K.a1 <| .c K.a2 <| .c K.a5 <| .c K.a6 <| .c hz4 <| .c K.a8 <| .c K.a9 <| .c K.a10 k
theorem gV (V:HvC p lo hi den) (k:Giv lp gs):Giv lp (pDD lo hi :: pDD den den :: zcw p lo den :: zcw p (lo+hi) (den+den) :: (inR .i64 (Int.sign (evG p lo den)*Int.sign (evG p (lo+hi) (den+den)))=true) :: gs):=
 .c V.b1 <| .c V.b2 <| .c V.b3 <| .c V.b4 <| .i V.b5 k
end
noncomputable section
theorem sga_0 (p:List Int) (u v w:Int) (t:List Int) (f g i a b c e d:Int) (h1:b=0∧c=0∧e=0):FC Tryz.prog 93 [reI p u v w t f g i,nuA a b c e d] (aI a.sign):=dZ (zsl 2) 60 [1] (.t h1<|.e) (ux [1005,1,1004])
abbrev zr7 (s:St) (r:Ex × St):Prop:=Loops 4 Tryz.prog (kZ Tryz.prog 137 0) s r
abbrev zsh (a:List Int) (b c d:Int) (e:List Int) (f g i j l m n o:Int):St:=⟨sp 68 [(0,.pd [.sq a,aI b,aI c,aI d,.lst EK.whole a,.lst EK.whole e,aD f,.wd f,aD g,.wd g,aD i,.wd i] 0),(2,.fn 138 [.ref 1 0]),(4,.ref 2 0),(6,.ref 3 0)],[.flat [aD j,.wd j,aD l,.wd l,aD m,.wd m,aD n,.wd n,aD o,.wd o] true,.flat [aI 0] true,.flat [aD j,.wd j,aD l,.wd l,aD m,.wd m,aD n,.wd n,aD o,.wd o] true,.flat [.sq a,aI b,aI c,aI d,.lst EK.whole a,.lst EK.whole e,aD f,.wd f,aD g,.wd g,aD i,.wd i] true],[3,1]⟩
abbrev zrZ (a:List Int) (b c d:Int) (e:List Int) (f g i j l m n o p q s:Int):St:=⟨sp 68 [(0,.pd [.sq a,aI b,aI c,aI d,.lst EK.whole a,.lst EK.whole e,aD f,.wd f,aD g,.wd g,aD i,.wd i] 0),(2,.fn 138 [.ref 1 0]),(4,.ref 2 0),(6,.ref 4 0)],[.flat [aD j,.wd j,aD l,.wd l,aD m,.wd m,aD n,.wd n,aD o,.wd o] true,.flat [aI 0] true,.flat [aD j,.wd j,aD l,.wd l,aD m,.wd m,aD n,.wd n,aD o,.wd o] false,.flat [.sq a,aI b,aI c,aI d,.lst EK.whole a,.lst EK.whole e,aD f,.wd f,aD g,.wd g,aD i,.wd i] true,.flat [.sq a,aI b,aI c,aI d,.lst EK.whole a,.lst EK.whole e,aD p,.wd p,aD q,.wd q,aD s,.wd s] true],[3,1]⟩
abbrev zr3 (a:List Int) (b c d:Int) (e:List Int) (f g i j l m n o p:Int):St:=⟨sp 68 [],[.flat [aD j,.wd j,aD l,.wd l,aD m,.wd m,aD n,.wd n,aD o,.wd o] true,.flat [aI p] true,.flat [aD j,.wd j,aD l,.wd l,aD m,.wd m,aD n,.wd n,aD o,.wd o] false,.flat [.sq a,aI b,aI c,aI d,.lst EK.whole a,.lst EK.whole e,aD f,.wd f,aD g,.wd g,aD i,.wd i] true],[3,1]⟩
theorem zs0 (a:List Int) (b d f:Int) (g:List Int) (i j l m n o p q:Int) (s:HzC i j l n (zrY i j l [])) (u:HzC i j l m (zrY i j l [n])) (v:pDg a 2) (w:pDD (zrY i j l [m,n]).2.2 q) (h22:(zrY i j l [m,n]).1.sign > 0):zr7 (zsh a b d f g i j l m n o p q) (Ex.ret,(zr3 a b d f g i j l m n o p q (1))):=LF (LS.at (zsl 2) 60 [] [] [3,1] [1] (.c pf1<|.c v<|gK0 s<|gK u<|.c w<|.t h22<|.e) (ux [1,2,1006,3,0,0,4,0,0,3,0,0,4,1006,5,0,0,6,7,8,0,0,9,7,8,0,0,10,0,0,11,0,0,12,0,0,13,0,0,14,1006,15,0,0,16,17,18,0,0,19,17,18,0,0,20,0,0,21,0,0,22]))
theorem zs1 (a:List Int) (b d g:Int) (i:List Int) (j l m n o p q s:Int) (u:HzC j l m o (zrY j l m [])) (v:HzC j l m n (zrY j l m [o])) (w:pDg a 2) (x:pDD (zrY j l m [n,o]).2.2 s) (h22:¬((zrY j l m [n,o]).1.sign > 0)) (h23:(zrY j l m [n,o]).2.1.sign<0):zr7 (zsh a b d g i j l m n o p q s) (Ex.ret,(zr3 a b d g i j l m n o p q s (-1))):=LF (LS.at (zsl 2) 60 [] [] [3,1] [0,1] (.c pf1<|.c w<|gK0 u<|gK v<|.c x<|.f h22<|.t h23<|.e) (ux [1,2,1006,3,0,0,4,0,0,3,0,0,4,1006,5,0,0,6,7,8,0,0,9,7,8,0,0,10,0,0,11,0,0,12,0,0,13,0,0,14,1006,15,0,0,16,17,18,0,0,19,17,18,0,0,20,0,0,21,0,0,22,0,0,23]))
theorem zs2 (a:List Int) (b d g:Int) (i:List Int) (j l m n o p q s:Int) (u:HzC j l m o (zrY j l m [])) (v:HzC j l m n (zrY j l m [o])) (w:pDg a 2) (x:pDD (zrY j l m [n,o]).2.2 s) (h22:¬((zrY j l m [n,o]).1.sign > 0)) (h23:¬((zrY j l m [n,o]).2.1.sign<0)) (V:HvC a j l m) (h29:(evG a j m).sign*(evG a (j+l) (m+m)).sign<0):LG zr7 (zsh a b d g i j l m n o p q s) (zrZ a b d g i j l m n o p q s (j+j) (j+l) (m+m)):=Loops.go (LS.at (zsl 2) 60 [15] [0,2,4,6] [3,1] [0,0,3] (.c pf1<|.c w<|gK0 u<|gK v<|.c x<|.f h22<|.f h23<|gV V<|.t h29<|.c V.b6<|.e) (ux [1,2,1006,3,0,0,4,0,0,3,0,0,4,1006,5,0,0,6,7,8,0,0,9,7,8,0,0,10,0,0,11,0,0,12,0,0,13,0,0,14,1006,15,0,0,16,17,18,0,0,19,17,18,0,0,20,0,0,21,0,0,22,0,0,23,0,0,24,0,0,25,0,0,0,25,0,0,25,0,0,0,25,0,0,25,1005,24,0,0,25,0,0,25,0,0,0,24,0,0,25,0,0,0,24,0,0,25,0,0,25,0,0,0,24,0,0,25,1005,26,0,0,27,28,29,0,0,30,0,0,30,0]))
theorem zs3 (a:List Int) (b d g:Int) (i:List Int) (j l m n o p q s:Int) (t:HzC j l m o (zrY j l m [])) (u:HzC j l m n (zrY j l m [o])) (v:pDg a 2) (w:pDD (zrY j l m [n,o]).2.2 s) (h22:¬((zrY j l m [n,o]).1.sign > 0)) (h23:¬((zrY j l m [n,o]).2.1.sign<0)) (V:HvC a j l m) (h29:¬((evG a j m).sign*(evG a (j+l) (m+m)).sign<0)):LG zr7 (zsh a b d g i j l m n o p q s) (zrZ a b d g i j l m n o p q s (j+l) (l+l) (m+m)):=Loops.go (LS.at (zsl 2) 60 [15] [0,2,4,6] [3,1] [0,0,2] (.c pf1<|.c v<|gK0 t<|gK u<|.c w<|.f h22<|.f h23<|gV V<|.f h29<|.c V.b7<|.e) (ux [1,2,1006,3,0,0,4,0,0,3,0,0,4,1006,5,0,0,6,7,8,0,0,9,7,8,0,0,10,0,0,11,0,0,12,0,0,13,0,0,14,1006,15,0,0,16,17,18,0,0,19,17,18,0,0,20,0,0,21,0,0,22,0,0,23,0,0,24,0,0,25,0,0,0,25,0,0,25,0,0,0,25,0,0,25,1005,24,0,0,25,0,0,25,0,0,0,24,0,0,25,0,0,0,24,0,0,25,0,0,25,0,0,0,24,0,0,25,1005,26,0,0,27,28,29,0,0,30,0,0,30,0]))
theorem zs4 (a:List Int) (b d f:Int) (g:List Int) (i j l m n o p q s u v:Int) (w:HzC s u v n (zrY s u v [])) (x:HzC s u v m (zrY s u v [n])) (y:pDg a 2) (z:pDD (zrY s u v [m,n]).2.2 q) (h22:(zrY s u v [m,n]).1.sign > 0):zr7 (zrZ a b d f g i j l m n o p q s u v) (Ex.ret,(zr3 a b d f g i j l m n o p q (1))):=LF (LS.at (zsl 2) 60 [] [] [3,1] [1] (.c pf1<|.c y<|gK0 w<|gK x<|.c z<|.t h22<|.e) (ux [1,2,1006,3,0,0,4,0,0,3,0,0,4,1006,5,0,0,6,7,8,0,0,9,7,8,0,0,10,0,0,11,0,0,12,0,0,13,0,0,14,1006,15,0,0,16,17,18,0,0,19,17,18,0,0,20,0,0,21,0,0,22]))
theorem zs5 (a:List Int) (b d g:Int) (i:List Int) (j l m n o p q s u v w:Int) (x:HzC u v w o (zrY u v w [])) (y:HzC u v w n (zrY u v w [o])) (z:pDg a 2) (a1:pDD (zrY u v w [n,o]).2.2 s) (h22:¬((zrY u v w [n,o]).1.sign > 0)) (h23:(zrY u v w [n,o]).2.1.sign<0):zr7 (zrZ a b d g i j l m n o p q s u v w) (Ex.ret,(zr3 a b d g i j l m n o p q s (-1))):=LF (LS.at (zsl 2) 60 [] [] [3,1] [0,1] (.c pf1<|.c z<|gK0 x<|gK y<|.c a1<|.f h22<|.t h23<|.e) (ux [1,2,1006,3,0,0,4,0,0,3,0,0,4,1006,5,0,0,6,7,8,0,0,9,7,8,0,0,10,0,0,11,0,0,12,0,0,13,0,0,14,1006,15,0,0,16,17,18,0,0,19,17,18,0,0,20,0,0,21,0,0,22,0,0,23]))
theorem zs6 (a:List Int) (b d g:Int) (i:List Int) (j l m n o p q s u v w:Int) (x:HzC u v w o (zrY u v w [])) (y:HzC u v w n (zrY u v w [o])) (z:pDg a 2) (a1:pDD (zrY u v w [n,o]).2.2 s) (h22:¬((zrY u v w [n,o]).1.sign > 0)) (h23:¬((zrY u v w [n,o]).2.1.sign<0)) (V:HvC a u v w) (h29:(evG a u w).sign*(evG a (u+v) (w+w)).sign<0):LG zr7 (zrZ a b d g i j l m n o p q s u v w) (zrZ a b d g i j l m n o p q s (u+u) (u+v) (w+w)):=Loops.go (LS.at (zsl 2) 60 [16] [0,2,4,6] [3,1] [0,0,3] (.c pf1<|.c z<|gK0 x<|gK y<|.c a1<|.f h22<|.f h23<|gV V<|.t h29<|.c V.b6<|.e) (ux [1,2,1006,3,0,0,4,0,0,3,0,0,4,1006,5,0,0,6,7,8,0,0,9,7,8,0,0,10,0,0,11,0,0,12,0,0,13,0,0,14,1006,15,0,0,16,17,18,0,0,19,17,18,0,0,20,0,0,21,0,0,22,0,0,23,0,0,24,0,0,25,0,0,0,25,0,0,25,0,0,0,25,0,0,25,1005,24,0,0,25,0,0,25,0,0,0,24,0,0,25,0,0,0,24,0,0,25,0,0,25,0,0,0,24,0,0,25,1005,26,0,0,27,28,29,0,0,30,0,0,30,0]))
theorem zs7 (a:List Int) (b d g:Int) (i:List Int) (j l m n o p q s t u v:Int) (w:HzC t u v o (zrY t u v [])) (x:HzC t u v n (zrY t u v [o])) (y:pDg a 2) (z:pDD (zrY t u v [n,o]).2.2 s) (h22:¬((zrY t u v [n,o]).1.sign > 0)) (h23:¬((zrY t u v [n,o]).2.1.sign<0)) (V:HvC a t u v) (h29:¬((evG a t v).sign*(evG a (t+u) (v+v)).sign<0)):LG zr7 (zrZ a b d g i j l m n o p q s t u v) (zrZ a b d g i j l m n o p q s (t+u) (u+u) (v+v)):=Loops.go (LS.at (zsl 2) 60 [16] [0,2,4,6] [3,1] [0,0,2] (.c pf1<|.c y<|gK0 w<|gK x<|.c z<|.f h22<|.f h23<|gV V<|.f h29<|.c V.b7<|.e) (ux [1,2,1006,3,0,0,4,0,0,3,0,0,4,1006,5,0,0,6,7,8,0,0,9,7,8,0,0,10,0,0,11,0,0,12,0,0,13,0,0,14,1006,15,0,0,16,17,18,0,0,19,17,18,0,0,20,0,0,21,0,0,22,0,0,23,0,0,24,0,0,25,0,0,0,25,0,0,25,0,0,0,25,0,0,25,1005,24,0,0,25,0,0,25,0,0,0,24,0,0,25,0,0,0,24,0,0,25,0,0,25,0,0,0,24,0,0,25,1005,26,0,0,27,28,29,0,0,30,0,0,30,0]))
theorem sga_1 (p:List Int) (u v w:Int) (t:List Int) (g i j a b c e d l:Int) (h1:¬(b=0∧c=0∧e=0)) (hL1:zr7 (zsh p u v w t g i j a b c e d) (Ex.ret,(zr3 p u v w t g i j a b c e d l))):FC Tryz.prog 93 [reI p u v w t g i j,nuA a b c e d] (aI l):=dZ (zsl 2) 60 [0] (.f h1<|.v [0,2,4,6] [3,1] hL1<|.e) (ux [1005,1,0,2])
end
open Go.Kf
noncomputable section
abbrev zr8 (s:St) (r:Ex × St):Prop:=Loops 4 Tryz.prog (kZ Tryz.prog 137 0) s r
abbrev zsi (a:List Int) (b c d:Int) (e:List Int) (f g i j l m n o:Int):St:=⟨sp 68 [(0,.pd [.sq a,aI b,aI c,aI d,.lst EK.whole a,.lst EK.whole e,aD f,.wd f,aD g,.wd g,aD i,.wd i] 0),(2,.fn 138 [.ref 1 0]),(4,.ref 2 0),(6,.ref 3 0)],[.flat [aD j,.wd j,aD l,.wd l,aD m,.wd m,aD n,.wd n,aD o,.wd o] true,.flat [aI 0] true,.flat [aD j,.wd j,aD l,.wd l,aD m,.wd m,aD n,.wd n,aD o,.wd o] true,.flat [.sq a,aI b,aI c,aI d,.lst EK.whole a,.lst EK.whole e,aD f,.wd f,aD g,.wd g,aD i,.wd i] true],[3,1]⟩
abbrev zr0 (a:List Int) (b c d:Int) (e:List Int) (f g i j l m n o p q s:Int):St:=⟨sp 68 [(0,.pd [.sq a,aI b,aI c,aI d,.lst EK.whole a,.lst EK.whole e,aD f,.wd f,aD g,.wd g,aD i,.wd i] 0),(2,.fn 138 [.ref 1 0]),(4,.ref 2 0),(6,.ref 4 0)],[.flat [aD j,.wd j,aD l,.wd l,aD m,.wd m,aD n,.wd n,aD o,.wd o] true,.flat [aI 0] true,.flat [aD j,.wd j,aD l,.wd l,aD m,.wd m,aD n,.wd n,aD o,.wd o] false,.flat [.sq a,aI b,aI c,aI d,.lst EK.whole a,.lst EK.whole e,aD f,.wd f,aD g,.wd g,aD i,.wd i] true,.flat [.sq a,aI b,aI c,aI d,.lst EK.whole a,.lst EK.whole e,aD p,.wd p,aD q,.wd q,aD s,.wd s] true],[3,1]⟩
abbrev zr4 (a:List Int) (b c d:Int) (e:List Int) (f g i j l m n o p:Int):St:=⟨sp 68 [],[.flat [aD j,.wd j,aD l,.wd l,aD m,.wd m,aD n,.wd n,aD o,.wd o] true,.flat [aI p] true,.flat [aD j,.wd j,aD l,.wd l,aD m,.wd m,aD n,.wd n,aD o,.wd o] false,.flat [.sq a,aI b,aI c,aI d,.lst EK.whole a,.lst EK.whole e,aD f,.wd f,aD g,.wd g,aD i,.wd i] true],[3,1]⟩
theorem zs8 (a:List Int) (b d f:Int) (g:List Int) (i j l m n o p q:Int) (s:HzC i j l o (zrY i j l [])) (u:HzC i j l n (zrY i j l [o])) (v:HzC i j l m (zrY i j l [n,o])) (w:pDg a 3) (x:pDD (zrY i j l [m,n,o]).2.2 q) (h32:(zrY i j l [m,n,o]).1.sign > 0):zr8 (zsi a b d f g i j l m n o p q) (Ex.ret,(zr4 a b d f g i j l m n o p q (1))):=LF (LS.at (zsl 3) 60 [] [] [3,1] [1] (.c pf1<|.c w<|gK0 s<|gK u<|gK v<|.c x<|.t h32<|.e) (ux [1,2,1006,3,0,0,4,0,0,3,0,0,4,1006,5,0,0,6,7,8,0,0,9,7,8,0,0,10,0,0,11,0,0,12,0,0,13,0,0,14,1006,15,0,0,16,17,18,0,0,19,17,18,0,0,20,0,0,21,0,0,22,0,0,23,0,0,24,1006,25,0,0,26,27,28,0,0,29,27,28,0,0,30,0,0,31,0,0,32]))
theorem zs9 (a:List Int) (b d g:Int) (i:List Int) (j l m n o p q s:Int) (u:HzC j l m p (zrY j l m [])) (v:HzC j l m o (zrY j l m [p])) (w:HzC j l m n (zrY j l m [o,p])) (x:pDg a 3) (y:pDD (zrY j l m [n,o,p]).2.2 s) (h32:¬((zrY j l m [n,o,p]).1.sign > 0)) (h33:(zrY j l m [n,o,p]).2.1.sign<0):zr8 (zsi a b d g i j l m n o p q s) (Ex.ret,(zr4 a b d g i j l m n o p q s (-1))):=LF (LS.at (zsl 3) 60 [] [] [3,1] [0,1] (.c pf1<|.c x<|gK0 u<|gK v<|gK w<|.c y<|.f h32<|.t h33<|.e) (ux [1,2,1006,3,0,0,4,0,0,3,0,0,4,1006,5,0,0,6,7,8,0,0,9,7,8,0,0,10,0,0,11,0,0,12,0,0,13,0,0,14,1006,15,0,0,16,17,18,0,0,19,17,18,0,0,20,0,0,21,0,0,22,0,0,23,0,0,24,1006,25,0,0,26,27,28,0,0,29,27,28,0,0,30,0,0,31,0,0,32,0,0,33]))
theorem zta (a:List Int) (b d g:Int) (i:List Int) (j l m n o p q s:Int) (u:HzC j l m p (zrY j l m [])) (v:HzC j l m o (zrY j l m [p])) (w:HzC j l m n (zrY j l m [o,p])) (x:pDg a 3) (y:pDD (zrY j l m [n,o,p]).2.2 s) (h32:¬((zrY j l m [n,o,p]).1.sign > 0)) (h33:¬((zrY j l m [n,o,p]).2.1.sign<0)) (V:HvC a j l m) (h39:(evG a j m).sign*(evG a (j+l) (m+m)).sign<0):LG zr8 (zsi a b d g i j l m n o p q s) (zr0 a b d g i j l m n o p q s (j+j) (j+l) (m+m)):=Loops.go (LS.at (zsl 3) 60 [17] [0,2,4,6] [3,1] [0,0,3] (.c pf1<|.c x<|gK0 u<|gK v<|gK w<|.c y<|.f h32<|.f h33<|gV V<|.t h39<|.c V.b6<|.e) (ux [1,2,1006,3,0,0,4,0,0,3,0,0,4,1006,5,0,0,6,7,8,0,0,9,7,8,0,0,10,0,0,11,0,0,12,0,0,13,0,0,14,1006,15,0,0,16,17,18,0,0,19,17,18,0,0,20,0,0,21,0,0,22,0,0,23,0,0,24,1006,25,0,0,26,27,28,0,0,29,27,28,0,0,30,0,0,31,0,0,32,0,0,33,0,0,34,0,0,35,0,0,0,35,0,0,35,0,0,0,35,0,0,35,1005,34,0,0,35,0,0,35,0,0,0,34,0,0,35,0,0,0,34,0,0,35,0,0,35,0,0,0,34,0,0,35,1005,36,0,0,37,38,39,0,0,40,0,0,40,0]))
theorem ztb (a:List Int) (b d g:Int) (i:List Int) (j l m n o p q s:Int) (t:HzC j l m p (zrY j l m [])) (u:HzC j l m o (zrY j l m [p])) (v:HzC j l m n (zrY j l m [o,p])) (w:pDg a 3) (x:pDD (zrY j l m [n,o,p]).2.2 s) (h32:¬((zrY j l m [n,o,p]).1.sign > 0)) (h33:¬((zrY j l m [n,o,p]).2.1.sign<0)) (V:HvC a j l m) (h39:¬((evG a j m).sign*(evG a (j+l) (m+m)).sign<0)):LG zr8 (zsi a b d g i j l m n o p q s) (zr0 a b d g i j l m n o p q s (j+l) (l+l) (m+m)):=Loops.go (LS.at (zsl 3) 60 [17] [0,2,4,6] [3,1] [0,0,2] (.c pf1<|.c w<|gK0 t<|gK u<|gK v<|.c x<|.f h32<|.f h33<|gV V<|.f h39<|.c V.b7<|.e) (ux [1,2,1006,3,0,0,4,0,0,3,0,0,4,1006,5,0,0,6,7,8,0,0,9,7,8,0,0,10,0,0,11,0,0,12,0,0,13,0,0,14,1006,15,0,0,16,17,18,0,0,19,17,18,0,0,20,0,0,21,0,0,22,0,0,23,0,0,24,1006,25,0,0,26,27,28,0,0,29,27,28,0,0,30,0,0,31,0,0,32,0,0,33,0,0,34,0,0,35,0,0,0,35,0,0,35,0,0,0,35,0,0,35,1005,34,0,0,35,0,0,35,0,0,0,34,0,0,35,0,0,0,34,0,0,35,0,0,35,0,0,0,34,0,0,35,1005,36,0,0,37,38,39,0,0,40,0,0,40,0]))
theorem ztc (a:List Int) (b d f:Int) (g:List Int) (i j l m n o p q s u v:Int) (w:HzC s u v o (zrY s u v [])) (x:HzC s u v n (zrY s u v [o])) (y:HzC s u v m (zrY s u v [n,o])) (z:pDg a 3) (a1:pDD (zrY s u v [m,n,o]).2.2 q) (h32:(zrY s u v [m,n,o]).1.sign > 0):zr8 (zr0 a b d f g i j l m n o p q s u v) (Ex.ret,(zr4 a b d f g i j l m n o p q (1))):=LF (LS.at (zsl 3) 60 [] [] [3,1] [1] (.c pf1<|.c z<|gK0 w<|gK x<|gK y<|.c a1<|.t h32<|.e) (ux [1,2,1006,3,0,0,4,0,0,3,0,0,4,1006,5,0,0,6,7,8,0,0,9,7,8,0,0,10,0,0,11,0,0,12,0,0,13,0,0,14,1006,15,0,0,16,17,18,0,0,19,17,18,0,0,20,0,0,21,0,0,22,0,0,23,0,0,24,1006,25,0,0,26,27,28,0,0,29,27,28,0,0,30,0,0,31,0,0,32]))
theorem ztd (a:List Int) (b d g:Int) (i:List Int) (j l m n o p q s u v w:Int) (x:HzC u v w p (zrY u v w [])) (y:HzC u v w o (zrY u v w [p])) (z:HzC u v w n (zrY u v w [o,p])) (a1:pDg a 3) (b1:pDD (zrY u v w [n,o,p]).2.2 s) (h32:¬((zrY u v w [n,o,p]).1.sign > 0)) (h33:(zrY u v w [n,o,p]).2.1.sign<0):zr8 (zr0 a b d g i j l m n o p q s u v w) (Ex.ret,(zr4 a b d g i j l m n o p q s (-1))):=LF (LS.at (zsl 3) 60 [] [] [3,1] [0,1] (.c pf1<|.c a1<|gK0 x<|gK y<|gK z<|.c b1<|.f h32<|.t h33<|.e) (ux [1,2,1006,3,0,0,4,0,0,3,0,0,4,1006,5,0,0,6,7,8,0,0,9,7,8,0,0,10,0,0,11,0,0,12,0,0,13,0,0,14,1006,15,0,0,16,17,18,0,0,19,17,18,0,0,20,0,0,21,0,0,22,0,0,23,0,0,24,1006,25,0,0,26,27,28,0,0,29,27,28,0,0,30,0,0,31,0,0,32,0,0,33]))
theorem zte (a:List Int) (b d g:Int) (i:List Int) (j l m n o p q s u v w:Int) (x:HzC u v w p (zrY u v w [])) (y:HzC u v w o (zrY u v w [p])) (z:HzC u v w n (zrY u v w [o,p])) (a1:pDg a 3) (b1:pDD (zrY u v w [n,o,p]).2.2 s) (h32:¬((zrY u v w [n,o,p]).1.sign > 0)) (h33:¬((zrY u v w [n,o,p]).2.1.sign<0)) (V:HvC a u v w) (h39:(evG a u w).sign*(evG a (u+v) (w+w)).sign<0):LG zr8 (zr0 a b d g i j l m n o p q s u v w) (zr0 a b d g i j l m n o p q s (u+u) (u+v) (w+w)):=Loops.go (LS.at (zsl 3) 60 [18] [0,2,4,6] [3,1] [0,0,3] (.c pf1<|.c a1<|gK0 x<|gK y<|gK z<|.c b1<|.f h32<|.f h33<|gV V<|.t h39<|.c V.b6<|.e) (ux [1,2,1006,3,0,0,4,0,0,3,0,0,4,1006,5,0,0,6,7,8,0,0,9,7,8,0,0,10,0,0,11,0,0,12,0,0,13,0,0,14,1006,15,0,0,16,17,18,0,0,19,17,18,0,0,20,0,0,21,0,0,22,0,0,23,0,0,24,1006,25,0,0,26,27,28,0,0,29,27,28,0,0,30,0,0,31,0,0,32,0,0,33,0,0,34,0,0,35,0,0,0,35,0,0,35,0,0,0,35,0,0,35,1005,34,0,0,35,0,0,35,0,0,0,34,0,0,35,0,0,0,34,0,0,35,0,0,35,0,0,0,34,0,0,35,1005,36,0,0,37,38,39,0,0,40,0,0,40,0]))
theorem ztf (a:List Int) (b d g:Int) (i:List Int) (j l m n o p q s t u v:Int) (w:HzC t u v p (zrY t u v [])) (x:HzC t u v o (zrY t u v [p])) (y:HzC t u v n (zrY t u v [o,p])) (z:pDg a 3) (a1:pDD (zrY t u v [n,o,p]).2.2 s) (h32:¬((zrY t u v [n,o,p]).1.sign > 0)) (h33:¬((zrY t u v [n,o,p]).2.1.sign<0)) (V:HvC a t u v) (h39:¬((evG a t v).sign*(evG a (t+u) (v+v)).sign<0)):LG zr8 (zr0 a b d g i j l m n o p q s t u v) (zr0 a b d g i j l m n o p q s (t+u) (u+u) (v+v)):=Loops.go (LS.at (zsl 3) 60 [18] [0,2,4,6] [3,1] [0,0,2] (.c pf1<|.c z<|gK0 w<|gK x<|gK y<|.c a1<|.f h32<|.f h33<|gV V<|.f h39<|.c V.b7<|.e) (ux [1,2,1006,3,0,0,4,0,0,3,0,0,4,1006,5,0,0,6,7,8,0,0,9,7,8,0,0,10,0,0,11,0,0,12,0,0,13,0,0,14,1006,15,0,0,16,17,18,0,0,19,17,18,0,0,20,0,0,21,0,0,22,0,0,23,0,0,24,1006,25,0,0,26,27,28,0,0,29,27,28,0,0,30,0,0,31,0,0,32,0,0,33,0,0,34,0,0,35,0,0,0,35,0,0,35,0,0,0,35,0,0,35,1005,34,0,0,35,0,0,35,0,0,0,34,0,0,35,0,0,0,34,0,0,35,0,0,35,0,0,0,34,0,0,35,1005,36,0,0,37,38,39,0,0,40,0,0,40,0]))
theorem sgb_1 (p:List Int) (u v w:Int) (t:List Int) (g i j a b c e d l:Int) (h1:¬(b=0∧c=0∧e=0)) (hL1:zr8 (zsi p u v w t g i j a b c e d) (Ex.ret,(zr4 p u v w t g i j a b c e d l))):FC Tryz.prog 93 [reI p u v w t g i j,nuA a b c e d] (aI l):=dZ (zsl 3) 60 [0] (.f h1<|.v [0,2,4,6] [3,1] hL1<|.e) (ux [1005,1,0,2])
end
open Go.Kf
noncomputable section
abbrev zr9 (s:St) (r:Ex × St):Prop:=Loops 4 Tryz.prog (kZ Tryz.prog 137 0) s r
abbrev zsj (a:List Int) (b c d:Int) (e:List Int) (f g i j l m n o:Int):St:=⟨sp 68 [(0,.pd [.sq a,aI b,aI c,aI d,.lst EK.whole a,.lst EK.whole e,aD f,.wd f,aD g,.wd g,aD i,.wd i] 0),(2,.fn 138 [.ref 1 0]),(4,.ref 2 0),(6,.ref 3 0)],[.flat [aD j,.wd j,aD l,.wd l,aD m,.wd m,aD n,.wd n,aD o,.wd o] true,.flat [aI 0] true,.flat [aD j,.wd j,aD l,.wd l,aD m,.wd m,aD n,.wd n,aD o,.wd o] true,.flat [.sq a,aI b,aI c,aI d,.lst EK.whole a,.lst EK.whole e,aD f,.wd f,aD g,.wd g,aD i,.wd i] true],[3,1]⟩
abbrev zr1 (a:List Int) (b c d:Int) (e:List Int) (f g i j l m n o p q s:Int):St:=⟨sp 68 [(0,.pd [.sq a,aI b,aI c,aI d,.lst EK.whole a,.lst EK.whole e,aD f,.wd f,aD g,.wd g,aD i,.wd i] 0),(2,.fn 138 [.ref 1 0]),(4,.ref 2 0),(6,.ref 4 0)],[.flat [aD j,.wd j,aD l,.wd l,aD m,.wd m,aD n,.wd n,aD o,.wd o] true,.flat [aI 0] true,.flat [aD j,.wd j,aD l,.wd l,aD m,.wd m,aD n,.wd n,aD o,.wd o] false,.flat [.sq a,aI b,aI c,aI d,.lst EK.whole a,.lst EK.whole e,aD f,.wd f,aD g,.wd g,aD i,.wd i] true,.flat [.sq a,aI b,aI c,aI d,.lst EK.whole a,.lst EK.whole e,aD p,.wd p,aD q,.wd q,aD s,.wd s] true],[3,1]⟩
abbrev zr5 (a:List Int) (b c d:Int) (e:List Int) (f g i j l m n o p:Int):St:=⟨sp 68 [],[.flat [aD j,.wd j,aD l,.wd l,aD m,.wd m,aD n,.wd n,aD o,.wd o] true,.flat [aI p] true,.flat [aD j,.wd j,aD l,.wd l,aD m,.wd m,aD n,.wd n,aD o,.wd o] false,.flat [.sq a,aI b,aI c,aI d,.lst EK.whole a,.lst EK.whole e,aD f,.wd f,aD g,.wd g,aD i,.wd i] true],[3,1]⟩
theorem ztg (a:List Int) (b d f:Int) (g:List Int) (i j l m n o p q:Int) (s:HzC i j l p (zrY i j l [])) (u:HzC i j l o (zrY i j l [p])) (v:HzC i j l n (zrY i j l [o,p])) (w:HzC i j l m (zrY i j l [n,o,p])) (x:pDg a 4) (y:pDD (zrY i j l [m,n,o,p]).2.2 q) (h42:(zrY i j l [m,n,o,p]).1.sign > 0):zr9 (zsj a b d f g i j l m n o p q) (Ex.ret,(zr5 a b d f g i j l m n o p q (1))):=LF (LS.at (zsl 4) 60 [] [] [3,1] [1] (.c pf1<|.c x<|gK0 s<|gK u<|gK v<|gK w<|.c y<|.t h42<|.e) (ux [1,2,1006,3,0,0,4,0,0,3,0,0,4,1006,5,0,0,6,7,8,0,0,9,7,8,0,0,10,0,0,11,0,0,12,0,0,13,0,0,14,1006,15,0,0,16,17,18,0,0,19,17,18,0,0,20,0,0,21,0,0,22,0,0,23,0,0,24,1006,25,0,0,26,27,28,0,0,29,27,28,0,0,30,0,0,31,0,0,32,0,0,33,0,0,34,1006,35,0,0,36,37,38,0,0,39,37,38,0,0,40,0,0,41,0,0,42]))
theorem zth (a:List Int) (b d g:Int) (i:List Int) (j l m n o p q s:Int) (u:HzC j l m q (zrY j l m [])) (v:HzC j l m p (zrY j l m [q])) (w:HzC j l m o (zrY j l m [p,q])) (x:HzC j l m n (zrY j l m [o,p,q])) (y:pDg a 4) (z:pDD (zrY j l m [n,o,p,q]).2.2 s) (h42:¬((zrY j l m [n,o,p,q]).1.sign > 0)) (h43:(zrY j l m [n,o,p,q]).2.1.sign<0):zr9 (zsj a b d g i j l m n o p q s) (Ex.ret,(zr5 a b d g i j l m n o p q s (-1))):=LF (LS.at (zsl 4) 60 [] [] [3,1] [0,1] (.c pf1<|.c y<|gK0 u<|gK v<|gK w<|gK x<|.c z<|.f h42<|.t h43<|.e) (ux [1,2,1006,3,0,0,4,0,0,3,0,0,4,1006,5,0,0,6,7,8,0,0,9,7,8,0,0,10,0,0,11,0,0,12,0,0,13,0,0,14,1006,15,0,0,16,17,18,0,0,19,17,18,0,0,20,0,0,21,0,0,22,0,0,23,0,0,24,1006,25,0,0,26,27,28,0,0,29,27,28,0,0,30,0,0,31,0,0,32,0,0,33,0,0,34,1006,35,0,0,36,37,38,0,0,39,37,38,0,0,40,0,0,41,0,0,42,0,0,43]))
theorem zti (a:List Int) (b d g:Int) (i:List Int) (j l m n o p q s:Int) (u:HzC j l m q (zrY j l m [])) (v:HzC j l m p (zrY j l m [q])) (w:HzC j l m o (zrY j l m [p,q])) (x:HzC j l m n (zrY j l m [o,p,q])) (y:pDg a 4) (z:pDD (zrY j l m [n,o,p,q]).2.2 s) (h42:¬((zrY j l m [n,o,p,q]).1.sign > 0)) (h43:¬((zrY j l m [n,o,p,q]).2.1.sign<0)) (V:HvC a j l m) (h49:(evG a j m).sign*(evG a (j+l) (m+m)).sign<0):LG zr9 (zsj a b d g i j l m n o p q s) (zr1 a b d g i j l m n o p q s (j+j) (j+l) (m+m)):=Loops.go (LS.at (zsl 4) 60 [19] [0,2,4,6] [3,1] [0,0,3] (.c pf1<|.c y<|gK0 u<|gK v<|gK w<|gK x<|.c z<|.f h42<|.f h43<|gV V<|.t h49<|.c V.b6<|.e) (ux [1,2,1006,3,0,0,4,0,0,3,0,0,4,1006,5,0,0,6,7,8,0,0,9,7,8,0,0,10,0,0,11,0,0,12,0,0,13,0,0,14,1006,15,0,0,16,17,18,0,0,19,17,18,0,0,20,0,0,21,0,0,22,0,0,23,0,0,24,1006,25,0,0,26,27,28,0,0,29,27,28,0,0,30,0,0,31,0,0,32,0,0,33,0,0,34,1006,35,0,0,36,37,38,0,0,39,37,38,0,0,40,0,0,41,0,0,42,0,0,43,0,0,44,0,0,45,0,0,0,45,0,0,45,0,0,0,45,0,0,45,1005,44,0,0,45,0,0,45,0,0,0,44,0,0,45,0,0,0,44,0,0,45,0,0,45,0,0,0,44,0,0,45,1005,46,0,0,47,48,49,0,0,50,0,0,50,0]))
theorem ztj (a:List Int) (b d g:Int) (i:List Int) (j l m n o p q s:Int) (t:HzC j l m q (zrY j l m [])) (u:HzC j l m p (zrY j l m [q])) (v:HzC j l m o (zrY j l m [p,q])) (w:HzC j l m n (zrY j l m [o,p,q])) (x:pDg a 4) (y:pDD (zrY j l m [n,o,p,q]).2.2 s) (h42:¬((zrY j l m [n,o,p,q]).1.sign > 0)) (h43:¬((zrY j l m [n,o,p,q]).2.1.sign<0)) (V:HvC a j l m) (h49:¬((evG a j m).sign*(evG a (j+l) (m+m)).sign<0)):LG zr9 (zsj a b d g i j l m n o p q s) (zr1 a b d g i j l m n o p q s (j+l) (l+l) (m+m)):=Loops.go (LS.at (zsl 4) 60 [19] [0,2,4,6] [3,1] [0,0,2] (.c pf1<|.c x<|gK0 t<|gK u<|gK v<|gK w<|.c y<|.f h42<|.f h43<|gV V<|.f h49<|.c V.b7<|.e) (ux [1,2,1006,3,0,0,4,0,0,3,0,0,4,1006,5,0,0,6,7,8,0,0,9,7,8,0,0,10,0,0,11,0,0,12,0,0,13,0,0,14,1006,15,0,0,16,17,18,0,0,19,17,18,0,0,20,0,0,21,0,0,22,0,0,23,0,0,24,1006,25,0,0,26,27,28,0,0,29,27,28,0,0,30,0,0,31,0,0,32,0,0,33,0,0,34,1006,35,0,0,36,37,38,0,0,39,37,38,0,0,40,0,0,41,0,0,42,0,0,43,0,0,44,0,0,45,0,0,0,45,0,0,45,0,0,0,45,0,0,45,1005,44,0,0,45,0,0,45,0,0,0,44,0,0,45,0,0,0,44,0,0,45,0,0,45,0,0,0,44,0,0,45,1005,46,0,0,47,48,49,0,0,50,0,0,50,0]))
theorem ztk (a:List Int) (b d f:Int) (g:List Int) (i j l m n o p q s u v:Int) (w:HzC s u v p (zrY s u v [])) (x:HzC s u v o (zrY s u v [p])) (y:HzC s u v n (zrY s u v [o,p])) (z:HzC s u v m (zrY s u v [n,o,p])) (a1:pDg a 4) (b1:pDD (zrY s u v [m,n,o,p]).2.2 q) (h42:(zrY s u v [m,n,o,p]).1.sign > 0):zr9 (zr1 a b d f g i j l m n o p q s u v) (Ex.ret,(zr5 a b d f g i j l m n o p q (1))):=LF (LS.at (zsl 4) 60 [] [] [3,1] [1] (.c pf1<|.c a1<|gK0 w<|gK x<|gK y<|gK z<|.c b1<|.t h42<|.e) (ux [1,2,1006,3,0,0,4,0,0,3,0,0,4,1006,5,0,0,6,7,8,0,0,9,7,8,0,0,10,0,0,11,0,0,12,0,0,13,0,0,14,1006,15,0,0,16,17,18,0,0,19,17,18,0,0,20,0,0,21,0,0,22,0,0,23,0,0,24,1006,25,0,0,26,27,28,0,0,29,27,28,0,0,30,0,0,31,0,0,32,0,0,33,0,0,34,1006,35,0,0,36,37,38,0,0,39,37,38,0,0,40,0,0,41,0,0,42]))
theorem ztl (a:List Int) (b d g:Int) (i:List Int) (j l m n o p q s u v w:Int) (x:HzC u v w q (zrY u v w [])) (y:HzC u v w p (zrY u v w [q])) (z:HzC u v w o (zrY u v w [p,q])) (a1:HzC u v w n (zrY u v w [o,p,q])) (b1:pDg a 4) (c1:pDD (zrY u v w [n,o,p,q]).2.2 s) (h42:¬((zrY u v w [n,o,p,q]).1.sign > 0)) (h43:(zrY u v w [n,o,p,q]).2.1.sign<0):zr9 (zr1 a b d g i j l m n o p q s u v w) (Ex.ret,(zr5 a b d g i j l m n o p q s (-1))):=LF (LS.at (zsl 4) 60 [] [] [3,1] [0,1] (.c pf1<|.c b1<|gK0 x<|gK y<|gK z<|gK a1<|.c c1<|.f h42<|.t h43<|.e) (ux [1,2,1006,3,0,0,4,0,0,3,0,0,4,1006,5,0,0,6,7,8,0,0,9,7,8,0,0,10,0,0,11,0,0,12,0,0,13,0,0,14,1006,15,0,0,16,17,18,0,0,19,17,18,0,0,20,0,0,21,0,0,22,0,0,23,0,0,24,1006,25,0,0,26,27,28,0,0,29,27,28,0,0,30,0,0,31,0,0,32,0,0,33,0,0,34,1006,35,0,0,36,37,38,0,0,39,37,38,0,0,40,0,0,41,0,0,42,0,0,43]))
theorem ztm (a:List Int) (b d g:Int) (i:List Int) (j l m n o p q s u v w:Int) (x:HzC u v w q (zrY u v w [])) (y:HzC u v w p (zrY u v w [q])) (z:HzC u v w o (zrY u v w [p,q])) (a1:HzC u v w n (zrY u v w [o,p,q])) (b1:pDg a 4) (c1:pDD (zrY u v w [n,o,p,q]).2.2 s) (h42:¬((zrY u v w [n,o,p,q]).1.sign > 0)) (h43:¬((zrY u v w [n,o,p,q]).2.1.sign<0)) (V:HvC a u v w) (h49:(evG a u w).sign*(evG a (u+v) (w+w)).sign<0):LG zr9 (zr1 a b d g i j l m n o p q s u v w) (zr1 a b d g i j l m n o p q s (u+u) (u+v) (w+w)):=Loops.go (LS.at (zsl 4) 60 [20] [0,2,4,6] [3,1] [0,0,3] (.c pf1<|.c b1<|gK0 x<|gK y<|gK z<|gK a1<|.c c1<|.f h42<|.f h43<|gV V<|.t h49<|.c V.b6<|.e) (ux [1,2,1006,3,0,0,4,0,0,3,0,0,4,1006,5,0,0,6,7,8,0,0,9,7,8,0,0,10,0,0,11,0,0,12,0,0,13,0,0,14,1006,15,0,0,16,17,18,0,0,19,17,18,0,0,20,0,0,21,0,0,22,0,0,23,0,0,24,1006,25,0,0,26,27,28,0,0,29,27,28,0,0,30,0,0,31,0,0,32,0,0,33,0,0,34,1006,35,0,0,36,37,38,0,0,39,37,38,0,0,40,0,0,41,0,0,42,0,0,43,0,0,44,0,0,45,0,0,0,45,0,0,45,0,0,0,45,0,0,45,1005,44,0,0,45,0,0,45,0,0,0,44,0,0,45,0,0,0,44,0,0,45,0,0,45,0,0,0,44,0,0,45,1005,46,0,0,47,48,49,0,0,50,0,0,50,0]))
theorem ztn (a:List Int) (b d g:Int) (i:List Int) (j l m n o p q s t u v:Int) (w:HzC t u v q (zrY t u v [])) (x:HzC t u v p (zrY t u v [q])) (y:HzC t u v o (zrY t u v [p,q])) (z:HzC t u v n (zrY t u v [o,p,q])) (a1:pDg a 4) (b1:pDD (zrY t u v [n,o,p,q]).2.2 s) (h42:¬((zrY t u v [n,o,p,q]).1.sign > 0)) (h43:¬((zrY t u v [n,o,p,q]).2.1.sign<0)) (V:HvC a t u v) (h49:¬((evG a t v).sign*(evG a (t+u) (v+v)).sign<0)):LG zr9 (zr1 a b d g i j l m n o p q s t u v) (zr1 a b d g i j l m n o p q s (t+u) (u+u) (v+v)):=Loops.go (LS.at (zsl 4) 60 [20] [0,2,4,6] [3,1] [0,0,2] (.c pf1<|.c a1<|gK0 w<|gK x<|gK y<|gK z<|.c b1<|.f h42<|.f h43<|gV V<|.f h49<|.c V.b7<|.e) (ux [1,2,1006,3,0,0,4,0,0,3,0,0,4,1006,5,0,0,6,7,8,0,0,9,7,8,0,0,10,0,0,11,0,0,12,0,0,13,0,0,14,1006,15,0,0,16,17,18,0,0,19,17,18,0,0,20,0,0,21,0,0,22,0,0,23,0,0,24,1006,25,0,0,26,27,28,0,0,29,27,28,0,0,30,0,0,31,0,0,32,0,0,33,0,0,34,1006,35,0,0,36,37,38,0,0,39,37,38,0,0,40,0,0,41,0,0,42,0,0,43,0,0,44,0,0,45,0,0,0,45,0,0,45,0,0,0,45,0,0,45,1005,44,0,0,45,0,0,45,0,0,0,44,0,0,45,0,0,0,44,0,0,45,0,0,45,0,0,0,44,0,0,45,1005,46,0,0,47,48,49,0,0,50,0,0,50,0]))
theorem sgc_1 (p:List Int) (u v w:Int) (t:List Int) (g i j a b c e d l:Int) (h1:¬(b=0∧c=0∧e=0)) (hL1:zr9 (zsj p u v w t g i j a b c e d) (Ex.ret,(zr5 p u v w t g i j a b c e d l))):FC Tryz.prog 93 [reI p u v w t g i j,nuA a b c e d] (aI l):=dZ (zsl 4) 60 [0] (.f h1<|.v [0,2,4,6] [3,1] hL1<|.e) (ux [1005,1,0,2])
end
open Go.Kf
end Go.Proofs.YtagbldogmjhdpaaGreatDoor
end
section
open Go Go.Ev Go.RowKit
namespace Go.Proofs.YtagbldogmjhdpaaGreatDoor
open Go.Proofs
set_option maxRecDepth 100000
set_option maxHeartbeats 1000000
set_option linter.unusedVariables false
set_option linter.unusedSimpArgs false
noncomputable section
end
open Go.Kf
open Go.Kf.V
def zsk (A:Nat):Nat:=289+128*(A+60)
section
variable {p:List Int} {a b d:Int}
theorem hv_sz (h:zbw p a b d=0) (k:Nat):Sz (k / 26+2) (hvG p k a b d).1∧Sz (k / 26+2) (hvG p k a b d).2.1∧Sz (k / 26+2) (hvG p k a b d).2.2:=by
 have hr:=znm h
 have a1:=hr.a1;have a2:=hr.a2;have b1:=hr.b1;have b2:=hr.b2;have d1:=hr.d1;have d2:=hr.d2
 have ⟨h1,h2,h3⟩:=hv_le p (E:=1000000) k (show a.natAbs≤_ by omega) (show b.natAbs≤_ by omega) (show d.natAbs≤_ by omega)
 exact ⟨sz_2k h1,sz_2k h2,sz_2k h3⟩
theorem zss {A k:Nat} (hA:A≤3800) (hk:k≤zsk A):k / 26+2≤19500:=by unfold zsk at hk;omega
theorem fz {z:Int} {j:Nat} (h:Sz j z) (hj:j≤1048576):zag z:=rZ h hj
theorem zrX (h:zbw p a b d=0) {A k:Nat} (hA:A≤3800) (hk:k≤zsk A) {c:Int} {l:List Int} (hc:Sz A c) (hl:∀x∈l,Sz A x) (h3:l.length≤3):HzC (hvG p k a b d).1 (hvG p k a b d).2.1 (hvG p k a b d).2.2 c (zrY (hvG p k a b d).1 (hvG p k a b d).2.1 (hvG p k a b d).2.2 l):=by
 have ⟨s1,s2,s3⟩:=hv_sz h k
 have hm:=zss hA hk
 generalize k / 26+2=m at *
 obtain ⟨i1,i2,i3⟩:=zsr s1 s2 s3 l hl
 obtain ⟨j1,j2,j3,j4,_⟩:=hzS_sz s1 s2 s3 hc i1 i2 i3
 have e1:l.length*(m+2)≤3*(m+2):=Nat.mul_le_mul_right _ h3
 have e2:l.length*m≤3*m:=Nat.mul_le_mul_right _ h3
 refine ⟨⟨fz i1 (by omega),fz s1 (by omega)⟩,⟨fz i1 (by omega),fz s2 (by omega)⟩,⟨fz i2 (by omega),fz s1 (by omega)⟩,⟨fz i2 (by omega),fz s2 (by omega)⟩,⟨fz i3 (by omega),fz s3 (by omega)⟩,⟨fz hc (by omega),fz (i3.mul s3) (by omega)⟩,⟨by simp [hzL],by simp [hzL],fun x hx=>fz (j1 x hx) (by omega)⟩,⟨fz j2 (by omega),fz j4 (by omega)⟩,⟨fz j3 (by omega),fz j4 (by omega)⟩⟩
theorem zsb (h:zbw p a b d=0) {A k:Nat} (hA:A≤3800) (hk:k≤zsk A):HvC p (hvG p k a b d).1 (hvG p k a b d).2.1 (hvG p k a b d).2.2:=by
 have ⟨s1,s2,s3⟩:=hv_sz h k
 have hm:=zss hA hk
 have hp:=zr2 h
 generalize k / 26+2=m at *
 have q:=szL1 hp.2.2
 have a2:Sz (m+1) ((hvG p k a b d).1+(hvG p k a b d).2.1):=s1.add s2 (by omega) (by omega)
 have a3:Sz (m+1) ((hvG p k a b d).2.2+(hvG p k a b d).2.2):=s3.add s3 (by omega) (by omega)
 have l5:Nat.ble p.length 5=true:=Nat.ble_eq_true_of_le hp.2.1
 refine ⟨⟨fz s1 (by omega),fz s2 (by omega)⟩,⟨fz s3 (by omega),fz s3 (by omega)⟩,⟨l5,q,s1.mono (by omega),s3.mono (by omega)⟩,⟨l5,q,a2.mono (by omega),a3.mono (by omega)⟩,?_,⟨fz s1 (by omega),fz s1 (by omega)⟩,⟨fz s2 (by omega),fz s2 (by omega)⟩⟩
 exact zsP _ _
theorem zsm {P:Int→Int→Int→Prop} {k:Nat} (h:P (hvG p (k+1) a b d).1 (hvG p (k+1) a b d).2.1 (hvG p (k+1) a b d).2.2) :
 (Int.sign (evG p (hvG p k a b d).1 (hvG p k a b d).2.2)*Int.sign (evG p ((hvG p k a b d).1+(hvG p k a b d).2.1) ((hvG p k a b d).2.2+(hvG p k a b d).2.2))<0∧P ((hvG p k a b d).1+(hvG p k a b d).1) ((hvG p k a b d).1+(hvG p k a b d).2.1) ((hvG p k a b d).2.2+(hvG p k a b d).2.2)) ∨
 (¬(Int.sign (evG p (hvG p k a b d).1 (hvG p k a b d).2.2)*Int.sign (evG p ((hvG p k a b d).1+(hvG p k a b d).2.1) ((hvG p k a b d).2.2+(hvG p k a b d).2.2))<0)∧P ((hvG p k a b d).1+(hvG p k a b d).2.1) ((hvG p k a b d).2.1+(hvG p k a b d).2.1) ((hvG p k a b d).2.2+(hvG p k a b d).2.2)):=by
 rw [show evG=zaf from zr6 _]
 rw [zsa] at h
 unfold hvS at h
 by_cases c:(zaf p (hvG p k a b d).1 (hvG p k a b d).2.2).sign*(zaf p ((hvG p k a b d).1+(hvG p k a b d).2.1) ((hvG p k a b d).2.2+(hvG p k a b d).2.2)).sign<0
 ·rw [if_pos c] at h;exact .inl ⟨c,h⟩
 ·rw [if_neg c] at h;exact .inr ⟨c,h⟩
theorem sg_go (h:zbw p a b d=0) (h3:3≤p.length) {c:List Int} (hc:c.length≤p.length-1) {A:Nat} (hA:∀i,Sz A (c.getD i 0)) (hn:∃i,c.getD i 0≠0) {R:Nat→Int→Prop}
 (r1:∀k,k≤zsk A→0<(enZ p a b d c k).1→R k 1) (r2:∀k,k≤zsk A→¬0<(enZ p a b d c k).1→(enZ p a b d c k).2.1<0→R k (-1))
 (r3:∀k,k≤zsk A→¬0<(enZ p a b d c k).1→¬(enZ p a b d c k).2.1<0→∀s,R (k+1) s→R k s):∀n k,k+n=zsk A→R k (sgF p a b d (pV c)):=by
 intro n
 induction n with
 | zero=>
  intro k hk
  obtain ⟨t1,t2,t3⟩:=zsg h h3 hc k
  have:=t3 A hA hn (by unfold zsk at hk;omega)
  by_cases k1:0<(enZ p a b d c k).1
  ·rw [t1 k1];exact r1 k (by omega) k1
  ·have k2:(enZ p a b d c k).2.1<0:=by omega
   rw [t2 k2];exact r2 k (by omega) k1 k2
 | succ n ih=>
  intro k hk
  obtain ⟨t1,t2,_⟩:=zsg h h3 hc k
  by_cases k1:0<(enZ p a b d c k).1
  ·rw [t1 k1];exact r1 k (by omega) k1
  ·by_cases k2:(enZ p a b d c k).2.1<0
   ·rw [t2 k2];exact r2 k (by omega) k1 k2
   ·exact r3 k (by omega) k1 k2 _ (ih (k+1) (by omega))
theorem sga_fc (h:zbw p a b d=0) (hl:p.length=3) {A:Nat} (hA:A≤3800) {c0 c1 D:Int} (s0:Sz A c0) (s1:Sz A c1) (sD:Sz A D) (hn:¬(c1=0)) {u v w:Int} {t:List Int} {k0:Nat} (hk0:k0≤zsk A):FC Tryz.prog 93 [reI p u v w t (hvG p k0 a b d).1 (hvG p k0 a b d).2.1 (hvG p k0 a b d).2.2,nuA c0 c1 0 0 D] (.lit (.int .i64 (sgF p a b d (pV [c0,c1])))):=by
  have hc:([c0,c1]:List Int).length≤p.length-1:=by rw [hl];exact Nat.le_refl _
  have hS:∀i,Sz A (([c0,c1]:List Int).getD i 0):=fun i=>szLg (k:=A) (l:=[c0,c1]) (by simp only [SzL];exact ⟨s0,s1,trivial⟩) i
  have hN:∃i,([c0,c1]:List Int).getD i 0≠0:=Classical.byContradiction fun hh=>hn (by
    have g:∀i,([c0,c1]:List Int).getD i 0=0:=fun i=>Classical.byContradiction fun e=>hh ⟨i,e⟩
    exact g 1)
  have dg:pDg p 2:=⟨by omega,by omega⟩
  have K0:=fun {k:Nat} (hk:k≤zsk A)=>zrX h hA hk s1 (l:=[]) (by simp) (by simp)
  have K1:=fun {k:Nat} (hk:k≤zsk A)=>zrX h hA hk s0 (l:=[c1]) (by simp;exact s1) (by simp)
  have D1:∀ {k:Nat},k≤zsk A→pDD (zrY (hvG p k a b d).1 (hvG p k a b d).2.1 (hvG p k a b d).2.2 [c0,c1]).2.2 D:=fun {k} hk=>by
    have ⟨s1,s2,s3⟩:=hv_sz h k
    have i3:=(zsr s1 s2 s3 (A:=A) [c0,c1] (fun x hx=>by simp at hx;rcases hx with rfl | rfl<;>assumption)).2.2
    have:=zss hA hk
    exact ⟨fz i3 (by simp only [List.length_cons,List.length_nil];omega),fz sD (by omega)⟩
  have sp:∀ {x:Int},0<x→Int.sign x > 0:=fun h=>Int.sign_pos_iff.2 h
  have sm:∀ {x:Int},¬0<x→¬Int.sign x > 0:=fun h k=>h (Int.sign_pos_iff.1 k)
  have tp:∀ {x:Int},x<0→Int.sign x<0:=fun h=>Int.sign_neg_iff.2 h
  have tm:∀ {x:Int},¬x<0→¬Int.sign x<0:=fun h k=>h (Int.sign_neg_iff.1 k)
  have go:∀(lo hi den:Int) (n k:Nat),k+n=zsk A→zr7 (zrZ p u v w t lo hi den c0 c1 0 0 D (hvG p k a b d).1 (hvG p k a b d).2.1 (hvG p k a b d).2.2) (Ex.ret,zr3 p u v w t lo hi den c0 c1 0 0 D (sgF p a b d (pV [c0,c1]))):=fun lo hi den=>
    sg_go h (by omega) hc hS hN (R:=fun k s=>zr7 (zrZ p u v w t lo hi den c0 c1 0 0 D (hvG p k a b d).1 (hvG p k a b d).2.1 (hvG p k a b d).2.2) (Ex.ret,zr3 p u v w t lo hi den c0 c1 0 0 D s))
      (fun k hk e=>zs4 p u v w t lo hi den c0 c1 0 0 D _ _ _ (K0 hk) (K1 hk) dg (D1 hk) (sp e))
      (fun k hk e e2=>zs5 p u v w t lo hi den c0 c1 0 0 D _ _ _ (K0 hk) (K1 hk) dg (D1 hk) (sm e) (tp e2))
      (fun k hk e e2 s hs=>by
        rcases zsm (P:=fun x y z=>zr7 (zrZ p u v w t lo hi den c0 c1 0 0 D x y z) (Ex.ret,zr3 p u v w t lo hi den c0 c1 0 0 D s)) hs with ⟨q,r⟩ | ⟨q,r⟩
        · exact zs6 p u v w t lo hi den c0 c1 0 0 D _ _ _ (K0 hk) (K1 hk) dg (D1 hk) (sm e) (tm e2) (zsb h hA hk) q r
        · exact zs7 p u v w t lo hi den c0 c1 0 0 D _ _ _ (K0 hk) (K1 hk) dg (D1 hk) (sm e) (tm e2) (zsb h hA hk) q r)
  refine sga_1 p u v w t _ _ _ c0 c1 0 0 D _ (by simp only [not_and];intros;simp_all) ?_
  have hk:=hk0
  obtain ⟨t1,t2,t3⟩:=zsg h (show 3≤p.length by omega) hc k0
  by_cases e:0<(enZ p a b d [c0,c1] k0).1
  · rw [t1 e]
    exact zs0 p u v w t _ _ _ c0 c1 0 0 D (K0 hk) (K1 hk) dg (D1 hk) (sp e)
  · by_cases e2:(enZ p a b d [c0,c1] k0).2.1<0
    · rw [t2 e2]
      exact zs1 p u v w t _ _ _ c0 c1 0 0 D (K0 hk) (K1 hk) dg (D1 hk) (sm e) (tp e2)
    · have hlt:k0+1≤zsk A:=by
        apply Classical.byContradiction
        intro hh
        have:=t3 A hS hN (by unfold zsk at hh hk;omega)
        omega
      rcases zsm (P:=fun x y z=>zr7 (zrZ p u v w t (hvG p k0 a b d).1 (hvG p k0 a b d).2.1 (hvG p k0 a b d).2.2 c0 c1 0 0 D x y z) (Ex.ret,zr3 p u v w t (hvG p k0 a b d).1 (hvG p k0 a b d).2.1 (hvG p k0 a b d).2.2 c0 c1 0 0 D (sgF p a b d (pV [c0,c1])))) (go _ _ _ (zsk A-(k0+1)) (k0+1) (by omega)) with ⟨q,r⟩ | ⟨q,r⟩
      · exact zs2 p u v w t _ _ _ c0 c1 0 0 D (K0 hk) (K1 hk) dg (D1 hk) (sm e) (tm e2) (zsb h hA hk) q r
      · exact zs3 p u v w t _ _ _ c0 c1 0 0 D (K0 hk) (K1 hk) dg (D1 hk) (sm e) (tm e2) (zsb h hA hk) q r
theorem sgb_fc (h:zbw p a b d=0) (hl:p.length=4) {A:Nat} (hA:A≤3800) {c0 c1 c2 D:Int} (s0:Sz A c0) (s1:Sz A c1) (s2:Sz A c2) (sD:Sz A D) (hn:¬(c1=0∧c2=0)) {u v w:Int} {t:List Int} {k0:Nat} (hk0:k0≤zsk A):FC Tryz.prog 93 [reI p u v w t (hvG p k0 a b d).1 (hvG p k0 a b d).2.1 (hvG p k0 a b d).2.2,nuA c0 c1 c2 0 D] (.lit (.int .i64 (sgF p a b d (pV [c0,c1,c2])))):=by
  have hc:([c0,c1,c2]:List Int).length≤p.length-1:=by rw [hl];exact Nat.le_refl _
  have hS:∀i,Sz A (([c0,c1,c2]:List Int).getD i 0):=fun i=>szLg (k:=A) (l:=[c0,c1,c2]) (by simp only [SzL];exact ⟨s0,s1,s2,trivial⟩) i
  have hN:∃i,([c0,c1,c2]:List Int).getD i 0≠0:=Classical.byContradiction fun hh=>hn (by
    have g:∀i,([c0,c1,c2]:List Int).getD i 0=0:=fun i=>Classical.byContradiction fun e=>hh ⟨i,e⟩
    exact ⟨g 1,g 2⟩)
  have dg:pDg p 3:=⟨by omega,by omega⟩
  have K0:=fun {k:Nat} (hk:k≤zsk A)=>zrX h hA hk s2 (l:=[]) (by simp) (by simp)
  have K1:=fun {k:Nat} (hk:k≤zsk A)=>zrX h hA hk s1 (l:=[c2]) (by simp;exact s2) (by simp)
  have K2:=fun {k:Nat} (hk:k≤zsk A)=>zrX h hA hk s0 (l:=[c1,c2]) (by simp;exact ⟨s1,s2⟩) (by simp)
  have D1:∀ {k:Nat},k≤zsk A→pDD (zrY (hvG p k a b d).1 (hvG p k a b d).2.1 (hvG p k a b d).2.2 [c0,c1,c2]).2.2 D:=fun {k} hk=>by
    have ⟨s1,s2,s3⟩:=hv_sz h k
    have i3:=(zsr s1 s2 s3 (A:=A) [c0,c1,c2] (fun x hx=>by simp at hx;rcases hx with rfl | rfl | rfl<;>assumption)).2.2
    have:=zss hA hk
    exact ⟨fz i3 (by simp only [List.length_cons,List.length_nil];omega),fz sD (by omega)⟩
  have sp:∀ {x:Int},0<x→Int.sign x > 0:=fun h=>Int.sign_pos_iff.2 h
  have sm:∀ {x:Int},¬0<x→¬Int.sign x > 0:=fun h k=>h (Int.sign_pos_iff.1 k)
  have tp:∀ {x:Int},x<0→Int.sign x<0:=fun h=>Int.sign_neg_iff.2 h
  have tm:∀ {x:Int},¬x<0→¬Int.sign x<0:=fun h k=>h (Int.sign_neg_iff.1 k)
  have go:∀(lo hi den:Int) (n k:Nat),k+n=zsk A→zr8 (zr0 p u v w t lo hi den c0 c1 c2 0 D (hvG p k a b d).1 (hvG p k a b d).2.1 (hvG p k a b d).2.2) (Ex.ret,zr4 p u v w t lo hi den c0 c1 c2 0 D (sgF p a b d (pV [c0,c1,c2]))):=fun lo hi den=>
    sg_go h (by omega) hc hS hN (R:=fun k s=>zr8 (zr0 p u v w t lo hi den c0 c1 c2 0 D (hvG p k a b d).1 (hvG p k a b d).2.1 (hvG p k a b d).2.2) (Ex.ret,zr4 p u v w t lo hi den c0 c1 c2 0 D s))
      (fun k hk e=>ztc p u v w t lo hi den c0 c1 c2 0 D _ _ _ (K0 hk) (K1 hk) (K2 hk) dg (D1 hk) (sp e))
      (fun k hk e e2=>ztd p u v w t lo hi den c0 c1 c2 0 D _ _ _ (K0 hk) (K1 hk) (K2 hk) dg (D1 hk) (sm e) (tp e2))
      (fun k hk e e2 s hs=>by
        rcases zsm (P:=fun x y z=>zr8 (zr0 p u v w t lo hi den c0 c1 c2 0 D x y z) (Ex.ret,zr4 p u v w t lo hi den c0 c1 c2 0 D s)) hs with ⟨q,r⟩ | ⟨q,r⟩
        · exact zte p u v w t lo hi den c0 c1 c2 0 D _ _ _ (K0 hk) (K1 hk) (K2 hk) dg (D1 hk) (sm e) (tm e2) (zsb h hA hk) q r
        · exact ztf p u v w t lo hi den c0 c1 c2 0 D _ _ _ (K0 hk) (K1 hk) (K2 hk) dg (D1 hk) (sm e) (tm e2) (zsb h hA hk) q r)
  refine sgb_1 p u v w t _ _ _ c0 c1 c2 0 D _ (by simp only [not_and];intros;simp_all) ?_
  have hk:=hk0
  obtain ⟨t1,t2,t3⟩:=zsg h (show 3≤p.length by omega) hc k0
  by_cases e:0<(enZ p a b d [c0,c1,c2] k0).1
  · rw [t1 e]
    exact zs8 p u v w t _ _ _ c0 c1 c2 0 D (K0 hk) (K1 hk) (K2 hk) dg (D1 hk) (sp e)
  · by_cases e2:(enZ p a b d [c0,c1,c2] k0).2.1<0
    · rw [t2 e2]
      exact zs9 p u v w t _ _ _ c0 c1 c2 0 D (K0 hk) (K1 hk) (K2 hk) dg (D1 hk) (sm e) (tp e2)
    · have hlt:k0+1≤zsk A:=by
        apply Classical.byContradiction
        intro hh
        have:=t3 A hS hN (by unfold zsk at hh hk;omega)
        omega
      rcases zsm (P:=fun x y z=>zr8 (zr0 p u v w t (hvG p k0 a b d).1 (hvG p k0 a b d).2.1 (hvG p k0 a b d).2.2 c0 c1 c2 0 D x y z) (Ex.ret,zr4 p u v w t (hvG p k0 a b d).1 (hvG p k0 a b d).2.1 (hvG p k0 a b d).2.2 c0 c1 c2 0 D (sgF p a b d (pV [c0,c1,c2])))) (go _ _ _ (zsk A-(k0+1)) (k0+1) (by omega)) with ⟨q,r⟩ | ⟨q,r⟩
      · exact zta p u v w t _ _ _ c0 c1 c2 0 D (K0 hk) (K1 hk) (K2 hk) dg (D1 hk) (sm e) (tm e2) (zsb h hA hk) q r
      · exact ztb p u v w t _ _ _ c0 c1 c2 0 D (K0 hk) (K1 hk) (K2 hk) dg (D1 hk) (sm e) (tm e2) (zsb h hA hk) q r
theorem sgc_fc (h:zbw p a b d=0) (hl:p.length=5) {A:Nat} (hA:A≤3800) {c0 c1 c2 c3 D:Int} (s0:Sz A c0) (s1:Sz A c1) (s2:Sz A c2) (s3:Sz A c3) (sD:Sz A D) (hn:¬(c1=0∧c2=0∧c3=0)) {u v w:Int} {t:List Int} {k0:Nat} (hk0:k0≤zsk A):FC Tryz.prog 93 [reI p u v w t (hvG p k0 a b d).1 (hvG p k0 a b d).2.1 (hvG p k0 a b d).2.2,nuA c0 c1 c2 c3 D] (.lit (.int .i64 (sgF p a b d (pV [c0,c1,c2,c3])))):=by
  have hc:([c0,c1,c2,c3]:List Int).length≤p.length-1:=by rw [hl];exact Nat.le_refl _
  have hS:∀i,Sz A (([c0,c1,c2,c3]:List Int).getD i 0):=fun i=>szLg (k:=A) (l:=[c0,c1,c2,c3]) (by simp only [SzL];exact ⟨s0,s1,s2,s3,trivial⟩) i
  have hN:∃i,([c0,c1,c2,c3]:List Int).getD i 0≠0:=Classical.byContradiction fun hh=>hn (by
    have g:∀i,([c0,c1,c2,c3]:List Int).getD i 0=0:=fun i=>Classical.byContradiction fun e=>hh ⟨i,e⟩
    exact ⟨g 1,g 2,g 3⟩)
  have dg:pDg p 4:=⟨by omega,by omega⟩
  have K0:=fun {k:Nat} (hk:k≤zsk A)=>zrX h hA hk s3 (l:=[]) (by simp) (by simp)
  have K1:=fun {k:Nat} (hk:k≤zsk A)=>zrX h hA hk s2 (l:=[c3]) (by simp;exact s3) (by simp)
  have K2:=fun {k:Nat} (hk:k≤zsk A)=>zrX h hA hk s1 (l:=[c2,c3]) (by simp;exact ⟨s2,s3⟩) (by simp)
  have K3:=fun {k:Nat} (hk:k≤zsk A)=>zrX h hA hk s0 (l:=[c1,c2,c3]) (by simp;exact ⟨s1,s2,s3⟩) (by simp)
  have D1:∀ {k:Nat},k≤zsk A→pDD (zrY (hvG p k a b d).1 (hvG p k a b d).2.1 (hvG p k a b d).2.2 [c0,c1,c2,c3]).2.2 D:=fun {k} hk=>by
    have ⟨s1,s2,s3⟩:=hv_sz h k
    have i3:=(zsr s1 s2 s3 (A:=A) [c0,c1,c2,c3] (fun x hx=>by simp at hx;rcases hx with rfl | rfl | rfl | rfl<;>assumption)).2.2
    have:=zss hA hk
    exact ⟨fz i3 (by simp only [List.length_cons,List.length_nil];omega),fz sD (by omega)⟩
  have sp:∀ {x:Int},0<x→Int.sign x > 0:=fun h=>Int.sign_pos_iff.2 h
  have sm:∀ {x:Int},¬0<x→¬Int.sign x > 0:=fun h k=>h (Int.sign_pos_iff.1 k)
  have tp:∀ {x:Int},x<0→Int.sign x<0:=fun h=>Int.sign_neg_iff.2 h
  have tm:∀ {x:Int},¬x<0→¬Int.sign x<0:=fun h k=>h (Int.sign_neg_iff.1 k)
  have go:∀(lo hi den:Int) (n k:Nat),k+n=zsk A→zr9 (zr1 p u v w t lo hi den c0 c1 c2 c3 D (hvG p k a b d).1 (hvG p k a b d).2.1 (hvG p k a b d).2.2) (Ex.ret,zr5 p u v w t lo hi den c0 c1 c2 c3 D (sgF p a b d (pV [c0,c1,c2,c3]))):=fun lo hi den=>
    sg_go h (by omega) hc hS hN (R:=fun k s=>zr9 (zr1 p u v w t lo hi den c0 c1 c2 c3 D (hvG p k a b d).1 (hvG p k a b d).2.1 (hvG p k a b d).2.2) (Ex.ret,zr5 p u v w t lo hi den c0 c1 c2 c3 D s))
      (fun k hk e=>ztk p u v w t lo hi den c0 c1 c2 c3 D _ _ _ (K0 hk) (K1 hk) (K2 hk) (K3 hk) dg (D1 hk) (sp e))
      (fun k hk e e2=>ztl p u v w t lo hi den c0 c1 c2 c3 D _ _ _ (K0 hk) (K1 hk) (K2 hk) (K3 hk) dg (D1 hk) (sm e) (tp e2))
      (fun k hk e e2 s hs=>by
        rcases zsm (P:=fun x y z=>zr9 (zr1 p u v w t lo hi den c0 c1 c2 c3 D x y z) (Ex.ret,zr5 p u v w t lo hi den c0 c1 c2 c3 D s)) hs with ⟨q,r⟩ | ⟨q,r⟩
        · exact ztm p u v w t lo hi den c0 c1 c2 c3 D _ _ _ (K0 hk) (K1 hk) (K2 hk) (K3 hk) dg (D1 hk) (sm e) (tm e2) (zsb h hA hk) q r
        · exact ztn p u v w t lo hi den c0 c1 c2 c3 D _ _ _ (K0 hk) (K1 hk) (K2 hk) (K3 hk) dg (D1 hk) (sm e) (tm e2) (zsb h hA hk) q r)
  refine sgc_1 p u v w t _ _ _ c0 c1 c2 c3 D _ (by simp only [not_and];intros;simp_all) ?_
  have hk:=hk0
  obtain ⟨t1,t2,t3⟩:=zsg h (show 3≤p.length by omega) hc k0
  by_cases e:0<(enZ p a b d [c0,c1,c2,c3] k0).1
  · rw [t1 e]
    exact ztg p u v w t _ _ _ c0 c1 c2 c3 D (K0 hk) (K1 hk) (K2 hk) (K3 hk) dg (D1 hk) (sp e)
  · by_cases e2:(enZ p a b d [c0,c1,c2,c3] k0).2.1<0
    · rw [t2 e2]
      exact zth p u v w t _ _ _ c0 c1 c2 c3 D (K0 hk) (K1 hk) (K2 hk) (K3 hk) dg (D1 hk) (sm e) (tp e2)
    · have hlt:k0+1≤zsk A:=by
        apply Classical.byContradiction
        intro hh
        have:=t3 A hS hN (by unfold zsk at hh hk;omega)
        omega
      rcases zsm (P:=fun x y z=>zr9 (zr1 p u v w t (hvG p k0 a b d).1 (hvG p k0 a b d).2.1 (hvG p k0 a b d).2.2 c0 c1 c2 c3 D x y z) (Ex.ret,zr5 p u v w t (hvG p k0 a b d).1 (hvG p k0 a b d).2.1 (hvG p k0 a b d).2.2 c0 c1 c2 c3 D (sgF p a b d (pV [c0,c1,c2,c3])))) (go _ _ _ (zsk A-(k0+1)) (k0+1) (by omega)) with ⟨q,r⟩ | ⟨q,r⟩
      · exact zti p u v w t _ _ _ c0 c1 c2 c3 D (K0 hk) (K1 hk) (K2 hk) (K3 hk) dg (D1 hk) (sm e) (tm e2) (zsb h hA hk) q r
      · exact ztj p u v w t _ _ _ c0 c1 c2 c3 D (K0 hk) (K1 hk) (K2 hk) (K3 hk) dg (D1 hk) (sm e) (tm e2) (zsb h hA hk) q r
end
section
variable {p:List Int} {a b d:Int}
theorem pV_get {c c':List Int} (h:∀i,c.getD i 0=c'.getD i 0):pV c=pV c':=by funext i;unfold pV;rw [h i]
theorem nsign_fc (h:zbw p a b d=0) {u:NZ} (hu:Nrm (qO p) u) (hb:Bd 3800 u):FC Tryz.prog 93 [zso p a b d,nuV u] (.lit (.int .i64 (sgF p a b d (nv (qO p) u)))):=by
  have hp:=zr2 h
  have hr:=znm h
  have l2:=hr.l2
  have l5:=hr.l5
  have hl:=zdT hp
  have hD:=hu.pos
  have hsh:=hu.sh
  obtain ⟨c,D⟩:=u
  have D0:(0:Rat)<((D:Int):Rat)⁻¹:=Rat.inv_pos.2 (Rat.intCast_lt_intCast.2 hD)
  have ev:sgF p a b d (nv (qO p) (c,D))=sgF p a b d (pV c):=by rw [nv_pV hu];exact sgF_sc h D0 (sup_pV hsh)
  rw [ev]
  have s:∀i,Sz 3800 (c.getD i 0):=hb.2
  have sD:Sz 3800 D:=hb.1
  have z:∀i,p.length-1≤i→c.getD i 0=0:=fun i hi=>hsh i (by omega)
  have c4:∀i,4≤i→c.getD i 0=0:=fun i hi=>z i (by omega)
  by_cases hn:c.getD 1 0=0∧c.getD 2 0=0∧c.getD 3 0=0
  · have e:pV c=sm ((c.getD 0 0:Int):Rat) e0:=by
      funext i
      show((c.getD i 0:Int):Rat)=((c.getD 0 0:Int):Rat)*(if i=0 then 1 else 0)
      by_cases hi:i=0
      · subst hi;rw [if_pos rfl,Rat.mul_one]
      · rw [if_neg hi,Rat.mul_zero]
        have:c.getD i 0=0:=by
          obtain rfl | rfl | rfl | k:i=1∨i=2∨i=3∨4≤i:=by omega
          · exact hn.1
          · exact hn.2.1
          · exact hn.2.2
          · exact c4 i k
        rw [this];rfl
    rw [e,sgF_c h _ (c.getD 0 0) ⟨Rat.intCast_lt_intCast (a:=0),Rat.intCast_lt_intCast (b:=0)⟩]
    exact sga_0 p a b d (trZ p) _ _ _ _ _ _ _ _ hn
  · have hne:p.length≠2:=fun e=>hn ⟨z 1 (by omega),z 2 (by omega),z 3 (by omega)⟩
    have hc:hvC p=64:=if_neg hne
    unfold zso
    rw [hc]
    have k64:64≤zsk 3800:=by decide
    obtain e | e | e:p.length=3∨p.length=4∨p.length=5:=by omega
    · have z2:=z 2 (by omega);have z3:=z 3 (by omega)
      rw [pV_get (c':=[c.getD 0 0,c.getD 1 0]) fun i=>by
        obtain rfl | rfl | k:i=0∨i=1∨2≤i:=by omega
        · rfl
        · rfl
        · rw [z i (by omega),List.getD_eq_getElem?_getD,List.getElem?_eq_none (by simpa using k)];rfl]
      have:=sga_fc h e (Nat.le_refl 3800) (s 0) (s 1) sD (fun k=>hn ⟨k,z2,z3⟩) (u:=a) (v:=b) (w:=d) (t:=trZ p) k64
      unfold nuV
      rw [z2,z3]
      exact this
    · have z3:=z 3 (by omega)
      rw [pV_get (c':=[c.getD 0 0,c.getD 1 0,c.getD 2 0]) fun i=>by
        obtain rfl | rfl | rfl | k:i=0∨i=1∨i=2∨3≤i:=by omega
        · rfl
        · rfl
        · rfl
        · rw [z i (by omega),List.getD_eq_getElem?_getD,List.getElem?_eq_none (by simpa using k)];rfl]
      have:=sgb_fc h e (Nat.le_refl 3800) (s 0) (s 1) (s 2) sD (fun k=>hn ⟨k.1,k.2,z3⟩) (u:=a) (v:=b) (w:=d) (t:=trZ p) k64
      unfold nuV
      rw [z3]
      exact this
    · rw [pV_get (c':=[c.getD 0 0,c.getD 1 0,c.getD 2 0,c.getD 3 0]) fun i=>by
        obtain rfl | rfl | rfl | rfl | k:i=0∨i=1∨i=2∨i=3∨4≤i:=by omega
        · rfl
        · rfl
        · rfl
        · rfl
        · rw [z i (by omega),List.getD_eq_getElem?_getD,List.getElem?_eq_none (by simpa using k)];rfl]
      exact sgc_fc h e (Nat.le_refl 3800) (s 0) (s 1) (s 2) (s 3) sD hn (u:=a) (v:=b) (w:=d) (t:=trZ p) k64
end
noncomputable section
end
open Go.Kf
instance tstRdc {p c:List Int} {d:Int}:Tst (zgb p c d):=
 have:Tst (∀j,Sz 20000 (c.getD j 0)):=⟨Tst.b (SzL 20000 c),fun h=>szLg (Tst.ok h)⟩
 inferInstanceAs (Tst ((2≤p.length∧p.length≤5∧∀x∈p,x.natAbs≤1000)∧c≠[]∧c.length≤100∧(∀j,Sz 20000 (c.getD j 0))∧d≠0∧Sz 20000 d))
def cRdK (args:List AV):M AV:=match args with
 | [x,c,y]=>do
  let p ← zto x
  let l ← asWL c
  let d ← asW y
  tellD (zgb p l d) (Tst.b (zgb p l d))
  gives (nuF (wZ p (p.length-1) l) d)
 | _=>fail 312
theorem cRdK_ok:jZ tP 127 cRdK:=by
 intro args _
 unfold cRdK
 split
 ·exact Spec.bind (asRL_spec.mono fun p hp=>Spec.bind (asWL_spec.mono fun l hl=>Spec.bind (asW_spec.mono fun d hd=>Spec.bind (Spec.tellD Tst.ok fun h=>Spec.gives ((zhK p l d h).le (.cons hp (.cons hl (.cons hd .nil))) (Le.refl _))))))
 ·exact Spec.fail
def pTmK (p:List Int):Prop:=2≤p.length∧p.length≤5∧∀x∈p,x.natAbs≤1000
instance tstTmK {p:List Int}:Tst (pTmK p):=inferInstanceAs (Tst (2≤p.length∧p.length≤5∧∀x∈p,x.natAbs≤1000))
def cTmK (args:List AV):M AV:=match args with
 | [r,x,y]=>do
  let p ← zto r
  let q ← zrS x
  let q2 ← zrS y
  match q,q2 with
  | (a,b,c,e,d),(f,g,h,i,j)=>do
   tellD (pTmK p∧pNs a b c e d∧pNs f g h i j) (Tst.b (pTmK p∧pNs a b c e d∧pNs f g h i j))
   gives (nuF (wZ p (p.length-1) (tmS (p.length-1) a b c e f g h i)) (d*j))
 | _=>fail 263
theorem cTmK_ok:jZ tP 80 cTmK:=by
 intro args _
 unfold cTmK
 split
 ·exact Spec.bind (asRL_spec.mono fun p hp=>Spec.bind (asNu_spec.mono fun q hq=>Spec.bind (asNu_spec.mono fun q2 hq2=>Spec.bind (Spec.tellD Tst.ok fun h=>Spec.gives ((ntm_fc p _ _ _ _ _ _ _ _ _ _ h.1.1 h.1.2.1 h.1.2.2 h.2.1 h.2.2).le (.cons hp (.cons hq (.cons hq2 .nil))) (Le.refl _))))))
 ·exact Spec.fail
def zet:Ctr:=(80,cTmK) :: (88,cNp) :: (127,cRdK) :: ctrL
theorem zkK:∀p∈zet,jZ tP p.1 p.2:=CAll.cons cTmK_ok<|CAll.cons cNp_ok<|CAll.cons cRdK_ok znA
theorem okAw:(eZ tP zet bw).OK:=JZ zkK
end Go.Proofs.YtagbldogmjhdpaaGreatDoor
end
section
namespace Go.Proofs
open Go.Shelf
def Tryz.lays169_ren:Go.Shelf.Ren:=⟨fun | 169=>164 | n=>n,fun | 70=>176 | 9=>9 | 0=>0 | 72=>179 | 37=>177 | 127=>204 | 3=>3 | 5=>5 | n=>n,fun | n=>n⟩
theorem Tryz.lays169:Go.Proofs.Lays.n169 Tryz.prog Tryz.lays169_ren:={
 mixed:=by kernel_rfl
 f169:=Tryz.func164.trans (congrArg some (by kernel_rfl))
 t0:=Tryz.underlying0
 a0:=Tryz.isAgg0
 z0:=Tryz.sizeOf0
 v0:=Tryz.zeroValue0
 t3:=Tryz.underlying3
 a3:=Tryz.isAgg3
 z3:=Tryz.sizeOf3
 v3:=Tryz.zeroValue3
 t9:=Tryz.underlying9
 a9:=Tryz.isAgg9
 z9:=Tryz.sizeOf9
 v9:=Tryz.zeroValue9
 t37:=Tryz.underlying177
 a37:=Tryz.isAgg177
 z37:=Tryz.sizeOf177
 v37:=Tryz.zeroValue177
 t70:=Tryz.underlying176
 a70:=Tryz.isAgg176
 z70:=Tryz.sizeOf176
 v70:=Tryz.zeroValue176
 t72:=Tryz.underlying179
 a72:=Tryz.isAgg179
 z72:=Tryz.sizeOf179
 v72:=Tryz.zeroValue179
 t127:=Tryz.underlying204
 a127:=Tryz.isAgg204
 z127:=Tryz.sizeOf204
 v127:=Tryz.zeroValue204 }
theorem Tryz.Builder_Extra_169:Builder.Extra Tryz.prog Tryz.lays169_ren:={
 sizeBuilder:=by kernel_rfl
 liesBuilder:=by kernel_rfl
 t5:=Tryz.underlying5
 a5:=Tryz.isAgg5
 z5:=Tryz.sizeOf5
 v5:=Tryz.zeroValue5
 infoByte:=by kernel_rfl
 cellsByte:=by kernel_rfl
 sizeByte:=by kernel_rfl
 neB5:=by decide }
def Tryz.lays156_ren:Go.Shelf.Ren:=⟨fun | 156=>126 | 165=>162 | 166=>163 | 169=>164 | 240=>185 | 241=>186 | 276=>198 | 277=>199 | n=>n,fun | 31=>145 | 9=>9 | 3=>3 | 4=>4 | 0=>0 | 20=>20 | 72=>179 | 76=>183 | 70=>176 | 37=>177 | 75=>182 | 127=>204 | 164=>211 | 5=>5 | 80=>175 | n=>n,fun | n=>n⟩
theorem Tryz.lays156:Go.Proofs.Lays.n156 Tryz.prog Tryz.lays156_ren:={
 mixed:=by kernel_rfl
 f156:=Tryz.func126.trans (congrArg some (by kernel_rfl))
 f165:=Tryz.func162.trans (congrArg some (by kernel_rfl))
 f166:=Tryz.func163.trans (congrArg some (by kernel_rfl))
 f169:=Tryz.func164.trans (congrArg some (by kernel_rfl))
 f240:=Tryz.func185.trans (congrArg some (by kernel_rfl))
 f241:=Tryz.func186.trans (congrArg some (by kernel_rfl))
 f276:=Tryz.func198.trans (congrArg some (by kernel_rfl))
 f277:=Tryz.func199.trans (congrArg some (by kernel_rfl))
 t0:=Tryz.underlying0
 a0:=Tryz.isAgg0
 z0:=Tryz.sizeOf0
 v0:=Tryz.zeroValue0
 t3:=Tryz.underlying3
 a3:=Tryz.isAgg3
 z3:=Tryz.sizeOf3
 v3:=Tryz.zeroValue3
 t4:=Tryz.underlying4
 a4:=Tryz.isAgg4
 z4:=Tryz.sizeOf4
 v4:=Tryz.zeroValue4
 t9:=Tryz.underlying9
 a9:=Tryz.isAgg9
 z9:=Tryz.sizeOf9
 v9:=Tryz.zeroValue9
 t20:=Tryz.underlying20
 a20:=Tryz.isAgg20
 z20:=Tryz.sizeOf20
 v20:=Tryz.zeroValue20
 t31:=Tryz.underlying145
 a31:=Tryz.isAgg145
 z31:=Tryz.sizeOf145
 v31:=Tryz.zeroValue145
 t37:=Tryz.underlying177
 a37:=Tryz.isAgg177
 z37:=Tryz.sizeOf177
 v37:=Tryz.zeroValue177
 t70:=Tryz.underlying176
 a70:=Tryz.isAgg176
 z70:=Tryz.sizeOf176
 v70:=Tryz.zeroValue176
 t72:=Tryz.underlying179
 a72:=Tryz.isAgg179
 z72:=Tryz.sizeOf179
 v72:=Tryz.zeroValue179
 t75:=Tryz.underlying182
 a75:=Tryz.isAgg182
 z75:=Tryz.sizeOf182
 v75:=Tryz.zeroValue182
 t76:=Tryz.underlying183
 a76:=Tryz.isAgg183
 z76:=Tryz.sizeOf183
 v76:=Tryz.zeroValue183
 t127:=Tryz.underlying204
 a127:=Tryz.isAgg204
 z127:=Tryz.sizeOf204
 v127:=Tryz.zeroValue204
 t164:=Tryz.underlying211
 a164:=Tryz.isAgg211
 z164:=Tryz.sizeOf211
 v164:=Tryz.zeroValue211 }
theorem Tryz.Builder_Extra_156:Builder.Extra Tryz.prog Tryz.lays156_ren:={
 sizeBuilder:=by kernel_rfl
 liesBuilder:=by kernel_rfl
 t5:=Tryz.underlying5
 a5:=Tryz.isAgg5
 z5:=Tryz.sizeOf5
 v5:=Tryz.zeroValue5
 infoByte:=by kernel_rfl
 cellsByte:=by kernel_rfl
 sizeByte:=by kernel_rfl
 neB5:=by decide }
open Go.RowKit in
theorem Tryz.strings_Join (bk o c:Nat) (xs:List ByteArray) (sep:ByteArray) (w:World) (hcells:∀(j:Nat) x,xs[j]? = some x→w.cell? ⟨bk,o+j,none⟩=some (.string x)) (hbk:bk<w.heap.size) (hN:xs.length≤140737488355328) (hcap:xs.length≤c) (hlen:(Lib.join (xs.map (·.data.toList)) sep.data.toList).length≤140737488355328) :
 Calls Tryz.prog 126 #[.slice (some ⟨bk,o,none⟩) xs.length c,.string sep] w fun e w'=>e=.returned (.string ⟨(Lib.join (xs.map (·.data.toList)) sep.data.toList).toArray⟩)∧Below w.heap.size w w':=Any.strings_Join Tryz.lays156 Tryz.Builder_Extra_156 bk o c xs sep w hcells hbk hN hcap hlen
open Go.RowKit in
theorem Tryz.Builder_String_any_k (B b:Nat) (l:List UInt8) (w:World) (h:Lib.IsBuilderF 179 5 B b (Lib.byteCells l) w) (hBw:B≤w.heap.size) :
 Calls Tryz.prog 164 #[.pointer (some ⟨b,0,none⟩)] w fun e w'=>e=.returned (.string ⟨l.toArray⟩)∧(Lib.IsBuilderF 179 5 B b (Lib.byteCells l) w'∧Below B w w'∧Lib.OthersKept 5 (some b) w w'):=Any.Builder_String_any_k Tryz.lays169 Tryz.Builder_Extra_169 B b l w h hBw
def Tryz.lays171_ren:Go.Shelf.Ren:=⟨fun | 171=>183 | 243=>194 | 246=>200 | 283=>204 | 284=>205 | 285=>206 | 286=>207 | 129=>209 | 317=>208 | 318=>210 | 319=>211 | 320=>212 | 337=>213 | 338=>214 | n=>n,fun | 3=>3 | 9=>9 | 2=>2 | 4=>4 | 171=>221 | 0=>0 | 53=>218 | 37=>177 | 5=>5 | 173=>224 | 212=>227 | 51=>215 | 20=>20 | 213=>228 | 46=>207 | 232=>231 | 233=>232 | n=>n,fun | 17=>1 | 18=>2 | 19=>3 | n=>n⟩
theorem Tryz.lays171:Go.Proofs.Lays.n171 Tryz.prog Tryz.lays171_ren:={
 mixed:=by kernel_rfl
 f129:=Tryz.func209.trans (congrArg some (by kernel_rfl))
 f171:=Tryz.func183.trans (congrArg some (by kernel_rfl))
 f243:=Tryz.func194.trans (congrArg some (by kernel_rfl))
 f246:=Tryz.func200.trans (congrArg some (by kernel_rfl))
 f283:=Tryz.func204.trans (congrArg some (by kernel_rfl))
 f284:=Tryz.func205.trans (congrArg some (by kernel_rfl))
 f285:=Tryz.func206.trans (congrArg some (by kernel_rfl))
 f286:=Tryz.func207.trans (congrArg some (by kernel_rfl))
 f317:=Tryz.func208.trans (congrArg some (by kernel_rfl))
 f318:=Tryz.func210.trans (congrArg some (by kernel_rfl))
 f319:=Tryz.func211.trans (congrArg some (by kernel_rfl))
 f320:=Tryz.func212.trans (congrArg some (by kernel_rfl))
 f337:=Tryz.func213.trans (congrArg some (by kernel_rfl))
 f338:=Tryz.func214.trans (congrArg some (by kernel_rfl))
 t0:=Tryz.underlying0
 a0:=Tryz.isAgg0
 z0:=Tryz.sizeOf0
 v0:=Tryz.zeroValue0
 t2:=Tryz.underlying2
 a2:=Tryz.isAgg2
 z2:=Tryz.sizeOf2
 v2:=Tryz.zeroValue2
 t3:=Tryz.underlying3
 a3:=Tryz.isAgg3
 z3:=Tryz.sizeOf3
 v3:=Tryz.zeroValue3
 t4:=Tryz.underlying4
 a4:=Tryz.isAgg4
 z4:=Tryz.sizeOf4
 v4:=Tryz.zeroValue4
 t5:=Tryz.underlying5
 a5:=Tryz.isAgg5
 z5:=Tryz.sizeOf5
 v5:=Tryz.zeroValue5
 t9:=Tryz.underlying9
 a9:=Tryz.isAgg9
 z9:=Tryz.sizeOf9
 v9:=Tryz.zeroValue9
 t20:=Tryz.underlying20
 a20:=Tryz.isAgg20
 z20:=Tryz.sizeOf20
 v20:=Tryz.zeroValue20
 t37:=Tryz.underlying177
 a37:=Tryz.isAgg177
 z37:=Tryz.sizeOf177
 v37:=Tryz.zeroValue177
 t46:=Tryz.underlying207
 a46:=Tryz.isAgg207
 z46:=Tryz.sizeOf207
 v46:=Tryz.zeroValue207
 t51:=Tryz.underlying215
 a51:=Tryz.isAgg215
 z51:=Tryz.sizeOf215
 v51:=Tryz.zeroValue215
 t53:=Tryz.underlying218
 a53:=Tryz.isAgg218
 z53:=Tryz.sizeOf218
 v53:=Tryz.zeroValue218
 t171:=Tryz.underlying221
 a171:=Tryz.isAgg221
 z171:=Tryz.sizeOf221
 v171:=Tryz.zeroValue221
 t173:=Tryz.underlying224
 a173:=Tryz.isAgg224
 z173:=Tryz.sizeOf224
 v173:=Tryz.zeroValue224
 t212:=Tryz.underlying227
 a212:=Tryz.isAgg227
 z212:=Tryz.sizeOf227
 v212:=Tryz.zeroValue227
 t213:=Tryz.underlying228
 a213:=Tryz.isAgg228
 z213:=Tryz.sizeOf228
 t232:=Tryz.underlying231
 a232:=Tryz.isAgg231
 z232:=Tryz.sizeOf231
 v232:=Tryz.zeroValue231
 t233:=Tryz.underlying232
 a233:=Tryz.isAgg232
 z233:=Tryz.sizeOf232
 v233:=Tryz.zeroValue232
 g17:=by kernel_rfl
 g18:=by kernel_rfl
 g19:=by kernel_rfl }
open Go.RowKit Go.Sort Go.Lib in
theorem Tryz.strconv_Itoa_small (i:Nat) (hi:i<100) (w:World) :
 Calls Tryz.prog 183 #[.int .i64 i] w fun e w'=>e=.returned (.string ⟨(Lib.decDigits i).toArray⟩)∧w'=w:=Any.strconv_Itoa_small Tryz.lays171 i hi w
end Go.Proofs
end
section
open Go Go.RowKit
namespace Go.Proofs
set_option maxRecDepth 100000
set_option maxHeartbeats 4000000
set_option linter.unusedVariables false
set_option linter.unusedSimpArgs false
theorem Tryz.write_k (B b:Nat) (bs:List Value) (s:ByteArray) (w:World) (h:Lib.IsBuilderF 179 5 B b bs w) (hlen:bs.length+s.size≤140737488355328) (hBw:B≤w.heap.size) :
 Calls Tryz.prog 163 #[.pointer (some ⟨b,0,none⟩),.string s] w fun e w'=>e=.returned (.tuple #[.int .i64 s.size,.nilIface])∧(Lib.BuilderAtF 179 5 B b (.pointer (some ⟨b,0,none⟩)) (bs++Lib.strCells s) w'∧Below B w w'∧Lib.OthersKept 5 (some b) w w'):=
 Any.Builder_WriteString_k { Tryz.lays156 with } Tryz.Builder_Extra_156 B b bs s w h hlen hBw
def TxtIs (w:World) (l:List UInt8) (e:Ending) (w':World):Prop:=e=.returned (.string ⟨l.toArray⟩)∧Below w.heap.size w w'
theorem text_zero (neg:Bool) (a:Option Addr) (cap:Nat) (w:World) :
 Calls Tryz.prog 161 #[.agg #[.bool neg,.slice a 0 cap]] w (TxtIs w [48]):=by
 go_enter Tryz.func161,Tryz.ntmps161
 go_wp2
 go_ret
 exact ⟨rfl,(Below.refl _ _).alloc (Nat.le_refl _) _⟩
def TR (B:Nat) (W1:World) (l0 l1:List UInt8) (i:Value) (wr:World):Prop:=
 (i=.int .i64 0∧Lib.IsBuilderF 179 5 B B (Lib.byteCells l0) wr∧Below B W1 wr)∨(i=.int .i64 (-1)∧Lib.IsBuilderF 179 5 B B (Lib.byteCells l1) wr∧Below B W1 wr)
theorem zeu (d:Nat) (hd:d<100):(Lib.decDigits d).length≤2:=by
 by_cases h:d<10
 ·rw [Lib.decDigits_one h];simp
 ·rw [Lib.decDigits_two h hd];simp
theorem text_one (neg:Bool) (b o cap d:Nat) (w:World) (hd:d<100) (hcap:1≤cap) (hc:w.cell? ⟨b,o,none⟩=some (.int .i64 d)) :
 Calls Tryz.prog 161 #[.agg #[.bool neg,.slice (some ⟨b,o,none⟩) 1 cap]] w (TxtIs w ((if neg then [45] else [])++Lib.decDigits d)):=by
 have hbw:b<w.heap.size:=by
  rcases Nat.lt_or_ge b w.heap.size with h | h
  ·exact h
  ·have:w.heap[b]? = none:=by simp;omega
   simp [World.cell?,this] at hc
 go_enter Tryz.func161,Tryz.ntmps161
 cases neg with
 | false =>
  go_wp2
  go_loopw [4] (fun i wr=>TR (w.heap.size+1) ((w.alloc (.cells #[.bool false,.slice (some ⟨b,o,none⟩) 1 cap] 97)).alloc (.cells #[.pointer none,.slice none 0 0] 179)) [] (Lib.decDigits d) i wr) (fun i _=>(intOf i+1).toNat)
  case atStart=>
   exact .inl ⟨rfl,Lib.IsBuilderF.of (by have:=Lib.fresh_isBuilder 179 5 (w.alloc (.cells #[.bool false,.slice (some ⟨b,o,none⟩) 1 cap] 97));simpa [Lib.byteCells] using this),Below.refl _ _⟩
  case round=>
   have hsz:w.heap.size+2≤wr.heap.size:=by
    rcases hrel with ⟨_,_,hB⟩ | ⟨_,_,hB⟩<;>(have:=hB.size;simp at this;omega)
   have hcells:wr.cell? ⟨w.heap.size,1,none⟩=some (.slice (some ⟨b,o,none⟩) 1 cap)∧wr.cell? ⟨b,o,none⟩=some (.int .i64 d):=by
    rcases hrel with ⟨_,_,hB⟩ | ⟨_,_,hB⟩ <;>
    ·refine ⟨(hB.cell (p:=⟨w.heap.size,1,none⟩) (by simp)).trans ?_,(hB.cell (p:=⟨b,o,none⟩) (by simp;omega)).trans ?_⟩
     ·exact World.cell?_alloc2_first ..
     ·exact(World.cell?_alloc_past _ _ _ (by simp;omega)).trans ((World.cell?_alloc_past _ _ _ hbw).trans hc)
   obtain ⟨c1,cd⟩:=hcells
   obtain ⟨rfl,hI,hB⟩ | ⟨rfl,hI,hB⟩:=hrel
   ·go_wp2_with (go_at_call 183;refine (Tryz.strconv_Itoa_small d hd _).mono ?_)
    rintro e W2 ⟨rfl,rfl⟩
    go_wp2_with (go_at_call 163;refine (Tryz.write_k (w.heap.size+1) (w.heap.size+1) _ _ _ hI (by have:=zeu d hd;simp [Lib.byteCells,ByteArray.size];omega) (by omega)).mono ?_)
    rintro e W3 ⟨rfl,h1,b1,k1⟩
    go_wp2
    go_roundw
    case rel=>exact .inr ⟨rfl,.inr (by simpa [Lib.byteCells,Lib.strCells] using h1),hB.trans b1⟩
    case measure=>simp [intOf]
   ·go_wp2_with (go_at_call 164;refine (Tryz.Builder_String_any_k (w.heap.size+1) (w.heap.size+1) _ _ hI (by omega)).mono ?_)
    rintro e W2 ⟨rfl,h1,b1,k1⟩
    go_wp2
    go_ret
    exact ⟨by simp,(((Below.refl _ w).alloc (Nat.le_refl _) _).alloc (by simp) _).trans ((hB.mono (by omega)).trans (b1.mono (by omega)))⟩
 | true=>
  have hI0:Lib.IsBuilderF 179 5 (w.heap.size+1) (w.heap.size+1) (Lib.byteCells []) ((w.alloc (.cells #[.bool true,.slice (some ⟨b,o,none⟩) 1 cap] 97)).alloc (.cells #[.pointer none,.slice none 0 0] 179)):=
   Lib.IsBuilderF.of (by have:=Lib.fresh_isBuilder 179 5 (w.alloc (.cells #[.bool true,.slice (some ⟨b,o,none⟩) 1 cap] 97));simpa [Lib.byteCells] using this)
  go_wp2_with (go_at_call 163;refine (Tryz.write_k (w.heap.size+1) (w.heap.size+1) _ _ _ hI0 (by simp [Lib.byteCells,ByteArray.size]) (by simp)).mono ?_)
  rintro e W0 rfl h0 b0 k0
  have hz0:w.heap.size+2≤W0.heap.size:=by have:=b0.size;simp at this;omega
  have cc:∀W:World,Below (w.heap.size+1) W0 W→W.cell? ⟨w.heap.size,0,none⟩=some (.bool true)∧W.cell? ⟨w.heap.size,1,none⟩=some (.slice (some ⟨b,o,none⟩) 1 cap)∧W.cell? ⟨b,o,none⟩=some (.int .i64 d):=by
   intro W hB
   have hB2:=b0.trans hB
   exact ⟨(hB2.cell (p:=⟨w.heap.size,0,none⟩) (by simp)).trans (World.cell?_alloc2_first ..),(hB2.cell (p:=⟨w.heap.size,1,none⟩) (by simp)).trans (World.cell?_alloc2_first ..),
    (hB2.cell (p:=⟨b,o,none⟩) (by simp;omega)).trans ((World.cell?_alloc_past _ _ _ (by simp;omega)).trans ((World.cell?_alloc_past _ _ _ hbw).trans hc))⟩
  have cw0:=cc W0 (Below.refl _ _)
  obtain ⟨k0a,k0b,k0c⟩:=cw0
  go_wp2
  go_loopw [4] (fun i wr=>TR (w.heap.size+1) W0 [45] ([45]++Lib.decDigits d) i wr) (fun i _=>(intOf i+1).toNat)
  case atStart=>
   exact .inl ⟨rfl,.inr (by simpa [Lib.byteCells,Lib.strCells] using h0),Below.refl _ _⟩
  case round=>
   have hB:Below (w.heap.size+1) W0 wr:=by
    rcases hrel with ⟨_,_,hB⟩ | ⟨_,_,hB⟩<;>exact hB
   have hsz:w.heap.size+2≤wr.heap.size:=Nat.le_trans hz0 hB.size
   obtain ⟨c0,c1,cd⟩:=cc wr hB
   obtain ⟨rfl,hI,_⟩ | ⟨rfl,hI,_⟩:=hrel
   ·go_wp2_with (go_at_call 183;refine (Tryz.strconv_Itoa_small d hd _).mono ?_)
    rintro e W2 ⟨rfl,rfl⟩
    go_wp2_with (go_at_call 163;refine (Tryz.write_k (w.heap.size+1) (w.heap.size+1) _ _ _ hI (by have:=zeu d hd;simp [Lib.byteCells,ByteArray.size];omega) (by omega)).mono ?_)
    rintro e W3 ⟨rfl,h1,b1,k1⟩
    go_wp2
    go_roundw
    case rel=>exact .inr ⟨rfl,.inr (by simpa [Lib.byteCells,Lib.strCells] using h1),hB.trans b1⟩
    case measure=>simp [intOf]
   ·go_wp2_with (go_at_call 164;refine (Tryz.Builder_String_any_k (w.heap.size+1) (w.heap.size+1) _ _ hI (by omega)).mono ?_)
    rintro e W2 ⟨rfl,h1,b1,k1⟩
    go_wp2
    go_ret
    exact ⟨by simp,(((Below.refl _ w).alloc (Nat.le_refl _) _).alloc (by simp) _).trans ((b0.mono (by omega)).trans ((hB.mono (by omega)).trans (b1.mono (by omega))))⟩
end Go.Proofs
end
section
open Go Go.Ev Go.RowKit
namespace Go.Proofs.YtagbldogmjhdpaaGreatDoor
open Go.Proofs
set_option maxRecDepth 100000
set_option maxHeartbeats 4000000
set_option linter.unusedVariables false
set_option linter.unusedSimpArgs false
def txtL (z:Int):List UInt8:=if z=0 then [48] else(if decide (z<0)=true then [45] else [])++Lib.decDigits z.natAbs
def txtB (z:Int):ByteArray:=⟨(txtL z).toArray⟩
theorem wd_inv {E:Env} {z:Int} {v:Value} (h:Rd E (.wd z) v):∃a cap,v=.slice a (digs z.natAbs).length cap∧(digs z.natAbs).length≤cap∧IntsAt E (digs z.natAbs) a:=by
 cases h with
 | wd hi hc=>exact ⟨_,_,rfl,hc,hi⟩
theorem text_fc (z : Int) (hz : z.natAbs<100):FC tP 161 [W z] (.lit (.string (txtB z))):=by
  intro M w vs _ hl ha
  have h0:Rd ⟨w.heap,M,[]⟩ (W z) (vs.getD 0 undef):=ha 0 (by simp)
  obtain ⟨v0, rfl⟩ : ∃v0,vs = #[v0]:=by
    have h1:vs.size=1:=by simpa using hl.symm
    exact ⟨vs[0], by apply Array.ext (by simp [h1]);intro i h2 h3;have:i=0:=by omega
                     subst this;simp⟩
  have h0':Rd ⟨w.heap,M,[]⟩ (W z) v0:=h0
  unfold W at h0'
  cases h0' with
  | @agg _ us hlen hr=>
    obtain ⟨u0, u1, rfl⟩ : ∃ u0 u1,us = #[u0,u1]:=by
      have h1:us.size=2:=by simpa using hlen.symm
      exact ⟨us[0], us[1], by apply Array.ext (by simp [h1]);intro i h2 h3;have:i=0∨i=1:=by omega
                              rcases this with rfl | rfl<;>simp⟩
    have e0:u0=.bool (decide (z<0)):=Rd.lit_inv (hr 0 (by simp))
    obtain ⟨a,cap,e1,hcap,hi⟩:=wd_inv (hr 1 (by simp))
    have e1':u1=.slice a (digs z.natAbs).length cap:=e1
    subst e0;subst e1'
    by_cases h:z=0
    · subst h
      refine (text_zero _ a cap w).mono ?_
      rintro e w' ⟨rfl,hb⟩
      exact ⟨_,rfl,hb,.lit _⟩
    · have hd:digs z.natAbs=[((z.natAbs:Nat):Int)]:=by
        rw [zbx _ (by omega)]
        rw [Nat.mod_eq_of_lt (by omega),Nat.div_eq_of_lt (by omega)];rfl
      rw [hd] at hi hcap
      rcases hi with hi | ⟨b,o,rfl,_,hc⟩
      · cases hi
      · have hc0:=hc 0 (by simp)
        have hcell:w.cell? ⟨b,o,none⟩=some (.int .i64 ((z.natAbs:Nat):Int)):=by rw [cell?_eq];simpa using hc0
        rw [hd]
        refine (text_one (decide (z<0)) b o cap z.natAbs w hz (by simpa using hcap) hcell).mono ?_
        rintro e w' ⟨rfl,hb⟩
        refine ⟨_,rfl,hb,?_⟩
        have:(⟨((if decide (z<0)=true then [45] else [])++Lib.decDigits z.natAbs).toArray⟩:ByteArray)=txtB z:=by unfold txtB txtL;rw [if_neg h]
        rw [this];exact .lit _
def zot:List AV→Option (List ByteArray)
 | []=>some []
 | .lit (.string s) :: l=>match zot l with | some r=>some (s :: r) | none=>none
 | _=>none
theorem zl1:∀ {cs:List AV} {l:List ByteArray},zot cs=some l→cs=l.map fun s=>AV.lit (.string s)
 | [],l,h=>by cases h;rfl
 | c :: cs,l,h=>by
  unfold zot at h
  split at h
  ·rename_i heq;cases heq
  ·rename_i s q heq
   cases heq
   split at h
   ·rename_i r hr
    cases h
    rw [zl1 hr];rfl
   ·cases h
  ·cases h
def joinB (xs:List ByteArray) (sep:ByteArray):ByteArray:=⟨(Lib.join (xs.map (·.data.toList)) sep.data.toList).toArray⟩
def cJoin (args:List AV):M AV:=match args with
 | [.sl cs n,.lit (.string sep)]=>do
  let xs ← ofOpt 240 (zot cs)
  tellD (xs.length=n∧n≠0∧n≤1000∧(joinB xs sep).size≤1000000) (Tst.b (xs.length=n∧n≠0∧n≤1000∧(joinB xs sep).size≤1000000))
  M.pure (.lit (.string (joinB xs sep)))
 | _=>fail 241
theorem join_ok : jZ tP 126 cJoin:=by
 intro args _
 unfold cJoin
 split
 ·rename_i cs n sep _
  refine Spec.bind (Spec.ofOpt fun xs hxs=>Spec.bind (Spec.tellD Tst.ok fun hp=>Spec.pure' ?_))
  obtain ⟨h1,h2,h3,h4⟩:=hp
  have hcs:=zl1 hxs
  intro M w vs _ hl ha
  have h0:Rd ⟨w.heap,M,[]⟩ (.sl cs n) (vs.getD 0 undef):=ha 0 (by simp)
  have h5:Rd ⟨w.heap,M,[]⟩ (.lit (.string sep)) (vs.getD 1 undef):=ha 1 (by simp)
  obtain ⟨v0, v1, rfl⟩ : ∃ v0 v1,vs = #[v0,v1]:=by
   have h1:vs.size=2:=by simpa using hl.symm
   exact ⟨vs[0], vs[1], by apply Array.ext (by simp [h1]);intro i h2 h3;have:i=0∨i=1:=by omega
                           rcases this with rfl | rfl<;>simp⟩
  have e1:v1=.string sep:=Rd.lit_inv h5
  subst e1
  have h0':Rd ⟨w.heap,M,[]⟩ (.sl cs n) v0:=h0
  cases h0' with
  | sl0=>exact absurd rfl h2
  | @sl _ _ b o cap vals hs hM hc hv hr=>
   have hlen:cs.length=xs.length:=by rw [hcs];simp
   subst h1
   refine (Tryz.strings_Join b o cap xs sep w ?_ hs (by omega) hc ?_).mono ?_
   ·intro j x hj
    have hjl:j<xs.length:=(List.getElem?_eq_some_iff.1 hj).1
    have k1:=hv j (by omega)
    have k2:=hr j (by omega)
    have k3:cs.getD j .junk=.lit (.string x):=by rw [hcs];simp [List.getD,hj]
    rw [k3] at k2
    rw [cell?_eq,k1,Rd.lit_inv k2]
   ·have:(joinB xs sep).size=(Lib.join (xs.map (·.data.toList)) sep.data.toList).length:=by unfold joinB;simp [ByteArray.size]
    omega
   ·rintro e w' ⟨rfl,hb⟩
    exact ⟨_,rfl,hb,.lit _⟩
 ·exact Spec.fail
end Go.Proofs.YtagbldogmjhdpaaGreatDoor
end
section
open Go Go.Ev Go.RowKit
namespace Go.Proofs.YtagbldogmjhdpaaGreatDoor
open Go.Proofs
set_option maxRecDepth 100000
set_option maxHeartbeats 1000000
set_option linter.unusedVariables false
set_option linter.unusedSimpArgs false
noncomputable section
end
def ctrT2:Ctr:=(161,c1 (fun z=>z.natAbs<100) (fun z=>.lit (.string (txtB z)))) :: (126,cJoin) :: zet
theorem zk5:∀p∈ctrT2,jZ tP p.1 p.2:=CAll.cons (c1_ok text_fc)<|CAll.cons join_ok zkK
theorem okT2:(eZ tP ctrT2 bw).OK:=JZ zk5
def cCh (args:List AV):M AV:=match args with
 | [x,y,z]=>do
  let p ← asK (.sl (.sl (.sl (.int .i64)))) x
  let a ← asK (.sl (.int .i64)) y
  let b ← asK (.sl (.int .i64)) z
  tellD (pCh p a b) (Tst.b (pCh p a b))
  gives (lI (zbi (svs p (vl a) (vl b)) 0 0).1)
 | _=>fail 301
noncomputable def ctrH8:Ctr:=(142,cCh) :: ctrH7
abbrev kdS:List (TypeId × EK):=[(97,.whole),(22,.sl (.int .i64)),(158,.sl (.sl (.int .i64)))]
theorem cCh_ok:jZ tP 142 cCh:=by
 intro args _
 unfold cCh
 split
 ·exact Spec.bind (asK_spec.mono fun p hp=>Spec.bind (asK_spec.mono fun a ha=>Spec.bind (asK_spec.mono fun b hb=>Spec.bind (Spec.tellD Tst.ok fun h=>Spec.gives ((zoT p a b h).le (.cons hp (.cons ha (.cons hb .nil))) (Le.refl _))))))
 ·exact Spec.fail
theorem ctrH8_all:∀p∈ctrH8,jZ tP p.1 p.2:=CAll.cons cCh_ok zg3
theorem ziF:(eZ tP ctrH8 bw [] kdS).OK:=vZ zaC mixed ctrH8_all zaA
noncomputable section
theorem rro_0 (p:List Int) (a b c:Int) (h1:(p.length:Int)=2) (h2:0<(p.length:Int)) (h3:0<p.length) (h4:r64 (0-p.getD 0 0)) (h5:r64 ((0-p.getD 0 0)*c)) (h6:(0-p.getD 0 0)*c≥a) (h7:(0-p.getD 0 0)*c≤b):FC tP 99 [.agg [.sq p,lI a,lI b,lI c]] (aI 1):=dZ ziF 60 [1,1,1] (.c (beq_iff_eq.2 h1)<|.t h2<|.t h3<|.i h4<|.i h5<|.t h6<|.t h7<|.e) [1,0,2,3,4,5,6,0,2,3,4,5,7]
theorem rro_1 (p:List Int) (a b c:Int) (h1:(p.length:Int)=2) (h2:0<(p.length:Int)) (h3:0<p.length) (h4:r64 (0-p.getD 0 0)) (h5:r64 ((0-p.getD 0 0)*c)) (h6:(0-p.getD 0 0)*c≥a) (h7:¬((0-p.getD 0 0)*c≤b)):FC tP 99 [.agg [.sq p,lI a,lI b,lI c]] (aI 0):=dZ ziF 60 [1,1,0] (.c (beq_iff_eq.2 h1)<|.t h2<|.t h3<|.i h4<|.i h5<|.t h6<|.f h7<|.e) [1,0,2,3,4,5,6,0,2,3,4,5,7]
theorem rro_2 (p:List Int) (a b c:Int) (h1:(p.length:Int)=2) (h2:0<(p.length:Int)) (h3:0<p.length) (h4:r64 (0-p.getD 0 0)) (h5:r64 ((0-p.getD 0 0)*c)) (h6:¬((0-p.getD 0 0)*c≥a)):FC tP 99 [.agg [.sq p,lI a,lI b,lI c]] (aI 0):=dZ ziF 60 [1,0] (.c (beq_iff_eq.2 h1)<|.t h2<|.t h3<|.i h4<|.i h5<|.f h6<|.e) [1,0,2,3,4,5,6]
abbrev zff (s:St) (r:Ex × St):Prop:=Loops 1 tP (kZ tP 99 0) s r
abbrev zfg (a:List Int) (b c d:Int):St:=⟨sp 121 [(1,.ref 0 0),(3,aN),(4,aN),(5,aI 0)],[.flat [.sq a,aI b,aI c,aI d] true],[]⟩
abbrev zol (a:List Int) (b c d:Int) (e:List (List Int)):St:=⟨sp 121 [(1,.ref 0 0),(3,.own 1 0 1 1),(4,aN),(5,aI 1)],[.flat [.sq a,aI b,aI c,aI d] true,.lst KI e true],[]⟩
abbrev zfh (a:List Int) (b c d:Int) (e f:Nat) (g:Int) (i j:List (List Int)):St:=⟨sp 121 [(1,.ref 0 0),(3,.own 1 0 e 1),(4,.own 2 0 f 1),(5,aI g)],[.flat [.sq a,aI b,aI c,aI d] true,.lst KI i true,.lst KI j true],[]⟩
abbrev rro_L0_E0 (a:List Int) (b c d:Int):St:=⟨sp 121 [(1,.ref 0 0),(3,aN),(4,aN),(5,aI 0)],[.flat [.sq a,aI b,aI c,aI d] true],[]⟩
abbrev zcc (a:List Int) (b c d:Int) (e f:Nat) (g:Int) (i j:List (List Int)):St:=⟨sp 121 [(1,.ref 0 0),(3,.own 1 0 e 1),(4,.own 2 0 f 1),(5,aI g)],[.flat [.sq a,aI b,aI c,aI d] true,.lst KI i true,.lst KI j true],[]⟩
theorem zqZ (a:List Int) (b d f:Int) (h1:0<(a.length:Int)) (h2:0<a.length) (h3:1≤List.length [a.getD 0 0]) (h4:1≤List.length [List.take 1 [a.getD 0 0]]) (h5:0<(List.take 1 [List.take 1 [a.getD 0 0]]).length) (h6:(List.take 1 [List.take 1 [a.getD 0 0]]).length*24≤140737488355328) (h7:(List.take 1 [List.take 1 [a.getD 0 0]]).length≤4611686018427387904):LG zff (zfg a b d f) (zol a b d f ([[a.getD 0 0]])):=Loops.go (LS.at ziF 60 [3] [1,3,4,5] [] [1] (.t h1<|.t h2<|.c h3<|.c h4<|.t h5<|.t h6<|.t h7<|.e) [1,0,1,2,3,4,5,6,7,0])
theorem rro_L0_0_1 (a:List Int) (b c d:Int) (h1:¬(0<(a.length:Int))):zff (zfg a b c d) (Ex.exit 0,(rro_L0_E0 a b c d)):=LF (LS.at ziF 60 [] [1,3,4,5] [] [0] (.f h1<|.e) [1])
theorem zq0 (a:List Int) (b d f:Int) (g:List (List Int)) (h1:1<(a.length:Int)) (h2:1<a.length) (h3:1≤List.length [a.getD 1 0]) (h4:1≤List.length [List.take 1 [a.getD 1 0]]) (h5:(1+(List.take 1 [List.take 1 [a.getD 1 0]]).length)*24≤140737488355328) (h6:1+(List.take 1 [List.take 1 [a.getD 1 0]]).length≤4611686018427387904) (h7:1≤g.length) (h8:r64 (1*a.getD 1 0)) (h9:1≤List.length [1*a.getD 1 0]) (h10:1≤List.length [List.take 1 [1*a.getD 1 0]]) (h11:0<(List.take 1 [List.take 1 [1*a.getD 1 0]]).length) (h12:(List.take 1 [List.take 1 [1*a.getD 1 0]]).length*24≤140737488355328) (h13:(List.take 1 [List.take 1 [1*a.getD 1 0]]).length≤4611686018427387904):LG zff (zol a b d f g) (zfh a b d f (2) (1) (2) (g.take 1++List.take 1 [List.take 1 [a.getD 1 0]]) ([[1*a.getD 1 0]])):=Loops.go (LS.at ziF 60 [4,7] [1,3,4,5] [] [1] (.t h1<|.t h2<|.c h3<|.c h4<|.t h5<|.t h6<|.t h7<|.i h8<|.c h9<|.c h10<|.t h11<|.t h12<|.t h13<|.e) [1,0,1,2,3,4,5,6,7,0,1,2,8,9,10,11,12,13,0])
theorem zq1 (a:List Int) (b d f:Int) (g j:Nat) (l:Int) (m n:List (List Int)) (h1:l<(a.length:Int)) (h2:0≤l) (h3:l.toNat<a.length) (h4:1≤List.length [a.getD l.toNat 0]) (h5:1≤List.length [List.take 1 [a.getD l.toNat 0]]) (h6:(g+(List.take 1 [List.take 1 [a.getD l.toNat 0]]).length)*24≤140737488355328) (h7:g+(List.take 1 [List.take 1 [a.getD l.toNat 0]]).length≤4611686018427387904) (h8:g≤m.length) (h9:l > 0) (h10:r64 (l*a.getD l.toNat 0)) (h11:1≤List.length [l*a.getD l.toNat 0]) (h12:1≤List.length [List.take 1 [l*a.getD l.toNat 0]]) (h13:(j+(List.take 1 [List.take 1 [l*a.getD l.toNat 0]]).length)*24≤140737488355328) (h14:j+(List.take 1 [List.take 1 [l*a.getD l.toNat 0]]).length≤4611686018427387904) (h15:j≤n.length) (h16:r64 (l+1)):LG zff (zfh a b d f g j l m n) (zfh a b d f (g+(List.take 1 [List.take 1 [a.getD l.toNat 0]]).length) (j+(List.take 1 [List.take 1 [l*a.getD l.toNat 0]]).length) (l+1) (m.take g++List.take 1 [List.take 1 [a.getD l.toNat 0]]) (n.take j++List.take 1 [List.take 1 [l*a.getD l.toNat 0]])):=Loops.go (LS.at ziF 60 [5,8] [1,3,4,5] [] [1,1] (.t h1<|.t h2<|.t h3<|.c h4<|.c h5<|.t h6<|.t h7<|.t h8<|.t h9<|.i h10<|.c h11<|.c h12<|.t h13<|.t h14<|.t h15<|.i h16<|.e) [1,2,1,3,4,5,6,7,8,9,2,1,3,10,11,12,13,14,15,16])
theorem zq2 (a:List Int) (b c d:Int) (g i:Nat) (j:Int) (l m:List (List Int)) (h1:¬(j<(a.length:Int))):zff (zfh a b c d g i j l m) (Ex.exit 0,(zcc a b c d g i j l m)):=LF (LS.at ziF 60 [1,2] [1,3,4,5] [] [0] (.f h1<|.e) [1])
abbrev zh1 (s:St) (r:Ex × St):Prop:=Loops 4 tP (kZ tP 99 1) s r
abbrev zgM (a:List Int) (b c d:Int) (e f:List (List Int)) (g:List (List (List Int))):St:=⟨sp 121 [(1,.ref 0 0),(6,.own 3 0 2 1)],[.flat [.sq a,aI b,aI c,aI d] true,.lst KI e false,.lst KI f false,.lst (EK.sl KI) g true],[3]⟩
abbrev zfk (a:List Int) (b c d:Int) (e f:List (List Int)) (g:List (List (List Int))) (i:Nat) (j:List (List (List Int))):St:=⟨sp 121 [(1,.ref 0 0),(6,.own 4 0 i 1)],[.flat [.sq a,aI b,aI c,aI d] true,.lst KI e false,.lst KI f false,.dead,.lst (EK.sl KI) j true],[3]⟩
abbrev zlT (a:List Int) (b c d:Int) (e f:List (List Int)) (g:List (List (List Int))):St:=⟨sp 121 [(1,.ref 0 0),(6,.own 3 0 2 1)],[.flat [.sq a,aI b,aI c,aI d] true,.lst KI e false,.lst KI f false,.lst (EK.sl KI) g true],[3]⟩
abbrev zfl (a:List Int) (b c d:Int) (e f:List (List Int)) (g:List (List (List Int))) (i:Nat) (j:List (List (List Int))):St:=⟨sp 121 [(1,.ref 0 0),(6,.own 4 0 i 1)],[.flat [.sq a,aI b,aI c,aI d] true,.lst KI e false,.lst KI f false,.dead,.lst (EK.sl KI) j true],[3]⟩
theorem zq9 (a:List Int) (b d f:Int) (g i:List (List Int)) (j:List (List (List Int))) (h1:0<j.length) (h2:1<j.length) (h3:pRe (j.getD 0 []) (j.getD 1 [])) (h4:(↑((rsT (j.getD 1 []) (j.getD 0 []).length (j.getD 0 [])).length):Int)=0):zh1 (zgM a b d f g i j) (Ex.exit 2,(zlT a b d f g i j)):=LF (LS.at ziF 60 [] [1,6] [3] [1] (.t h1<|.t h2<|.c h3<|.c (beq_iff_eq.2 h4)<|.e) [0,0,0,1,0,0,0,2,3,4])
abbrev zh0 (s:St) (r:Ex × St):Prop:=Loops 4 tP (kZ tP 99 2) s r
abbrev zgL (a:List (List Int)) (b:List Int) (c d e:Int) (f g:List (List Int)) (i:List (List (List Int))):St:=⟨sp 121 [(1,.ref 0 0),(6,.own 3 0 2 1),(7,.lst KI a),(8,aN),(9,aI 0)],[.flat [.sq b,aI c,aI d,aI e] true,.lst KI f false,.lst KI g false,.lst (EK.sl KI) i true],[3]⟩
abbrev zfi (a:List (List Int)) (b:List Int) (c d e:Int) (f g:List (List Int)) (i:List (List (List Int))) (j:Nat) (l:Int) (m:List (List Int)):St:=⟨sp 121 [(1,.ref 0 0),(6,.own 3 0 2 1),(7,.lst KI a),(8,.own 4 0 j 1),(9,aI l)],[.flat [.sq b,aI c,aI d,aI e] true,.lst KI f false,.lst KI g false,.lst (EK.sl KI) i true,.lst KI m true],[3]⟩
abbrev rro_L2_E0 (a:List (List Int)) (b:List Int) (c d e:Int) (f g:List (List Int)) (i:List (List (List Int))):St:=⟨sp 121 [(1,.ref 0 0),(6,.own 3 0 2 1),(7,.lst KI a),(8,aN),(9,aI 0)],[.flat [.sq b,aI c,aI d,aI e] true,.lst KI f false,.lst KI g false,.lst (EK.sl KI) i true],[3]⟩
abbrev zdh (a:List (List Int)) (b:List Int) (c d e:Int) (f g:List (List Int)) (i:List (List (List Int))) (j:Nat) (l:Int) (m:List (List Int)):St:=⟨sp 121 [(1,.ref 0 0),(6,.own 3 0 2 1),(7,.lst KI a),(8,.own 4 0 j 1),(9,aI l)],[.flat [.sq b,aI c,aI d,aI e] true,.lst KI f false,.lst KI g false,.lst (EK.sl KI) i true,.lst KI m true],[3]⟩
theorem zq3 (a:List (List Int)) (b:List Int) (d f g:Int) (i j:List (List Int)) (l:List (List (List Int))) (h1:0<(a.length:Int)) (h2:pX (a.getD 0 [])) (h3:1≤List.length [aZ (-vl (a.getD 0 []))]) (h4:0<(List.take 1 [aZ (-vl (a.getD 0 []))]).length) (h5:(List.take 1 [aZ (-vl (a.getD 0 []))]).length*24≤140737488355328) (h6:(List.take 1 [aZ (-vl (a.getD 0 []))]).length≤4611686018427387904):LG zh0 (zgL a b d f g i j l) (zfi a b d f g i j l (1) (1) ([aZ (-vl (a.getD 0 []))])):=Loops.go (LS.at ziF 60 [5] [1,6,7,8,9] [3] [1] (.t h1<|.c h2<|.c h3<|.t h4<|.t h5<|.t h6<|.e) [1,0,1,2,3,4,5,6,0])
theorem rro_L2_0_1 (a:List (List Int)) (b:List Int) (c d g:Int) (i j:List (List Int)) (l:List (List (List Int))) (h1:¬(0<(a.length:Int))):zh0 (zgL a b c d g i j l) (Ex.exit 4,(rro_L2_E0 a b c d g i j l)):=LF (LS.at ziF 60 [] [1,6,7,8,9] [3] [0] (.f h1<|.e) [1])
theorem zq4 (a:List (List Int)) (b:List Int) (d f g:Int) (j l:List (List Int)) (m:List (List (List Int))) (n:Nat) (o:Int) (p:List (List Int)) (h1:o<(a.length:Int)) (h2:0≤o) (h3:pX (a.getD o.toNat [])) (h4:1≤List.length [aZ (-vl (a.getD o.toNat []))]) (h5:(n+(List.take 1 [aZ (-vl (a.getD o.toNat []))]).length)*24≤140737488355328) (h6:n+(List.take 1 [aZ (-vl (a.getD o.toNat []))]).length≤4611686018427387904) (h7:n≤p.length) (h8:r64 (o+1)):LG zh0 (zfi a b d f g j l m n o p) (zfi a b d f g j l m (n+(List.take 1 [aZ (-vl (a.getD o.toNat []))]).length) (o+1) (p.take n++List.take 1 [aZ (-vl (a.getD o.toNat []))])):=Loops.go (LS.at ziF 60 [6] [1,6,7,8,9] [3] [1] (.t h1<|.t h2<|.c h3<|.c h4<|.t h5<|.t h6<|.t h7<|.i h8<|.e) [1,2,1,3,4,5,6,7,8])
theorem zq5 (a:List (List Int)) (b:List Int) (c d g:Int) (i j:List (List Int)) (l:List (List (List Int))) (m:Nat) (n:Int) (o:List (List Int)) (h1:¬(n<(a.length:Int))):zh0 (zfi a b c d g i j l m n o) (Ex.exit 4,(zdh a b c d g i j l m n o)):=LF (LS.at ziF 60 [4] [1,6,7,8,9] [3] [0] (.f h1<|.e) [1])
theorem zra (a:List Int) (b d f:Int) (g i:List (List Int)) (j:List (List (List Int))) (l:Nat) (m:Int) (n:List (List Int)) (h1:0<j.length) (h2:1<j.length) (h3:pRe (j.getD 0 []) (j.getD 1 [])) (h4:(↑((rsT (j.getD 1 []) (j.getD 0 []).length (j.getD 0 [])).length):Int)≠0) (hL1:zh0 (zgL (rsT (j.getD 1 []) (j.getD 0 []).length (j.getD 0 [])) a b d f g i j) (Ex.exit 4,(zdh (rsT (j.getD 1 []) (j.getD 0 []).length (j.getD 0 [])) a b d f g i j l m n))) (h6:l≤n.length) (h7:1≤List.length [n.take l]) (h8:(2+(List.take 1 [n.take l]).length)*24≤140737488355328) (h9:2+(List.take 1 [n.take l]).length≤4611686018427387904) (h10:2≤j.length):LG zh1 (zgM a b d f g i j) (zfk a b d f g i j (3) (j.take 2++List.take 1 [n.take l])):=Loops.go (LS.at ziF 60 [6] [1,6] [3] [0] (.t h1<|.t h2<|.c h3<|.c (beq_false_of_ne h4)<|.v [1,6,7,8,9] [3] hL1<|.c h6<|.c h7<|.t h8<|.t h9<|.t h10<|.e) [0,0,0,1,0,0,0,2,3,4,0,5,6,7,8,9,10])
theorem zrb (a:List Int) (b d f:Int) (g j:List (List Int)) (l:List (List (List Int))) (m:Nat) (n:List (List (List Int))) (h1:r64 ((m:Int)-2)) (h2:0≤(m:Int)-2) (h3:(m:Int)-2<(m:Int)) (h4:((m:Int)-2).toNat<n.length) (h5:r64 ((m:Int)-1)) (h6:0≤(m:Int)-1) (h7:(m:Int)-1<(m:Int)) (h8:((m:Int)-1).toNat<n.length) (h9:pRe (n.getD ((m:Int)-2).toNat []) (n.getD ((m:Int)-1).toNat [])) (h10:(↑((rsT (n.getD ((m:Int)-1).toNat []) (n.getD ((m:Int)-2).toNat []).length (n.getD ((m:Int)-2).toNat [])).length):Int)=0):zh1 (zfk a b d f g j l m n) (Ex.exit 2,(zfl a b d f g j l m n)):=LF (LS.at ziF 60 [4] [1,6] [3] [1] (.i h1<|.t h2<|.t h3<|.t h4<|.i h5<|.t h6<|.t h7<|.t h8<|.c h9<|.c (beq_iff_eq.2 h10)<|.e) [1,2,3,4,5,6,7,8,9,10])
abbrev zjf (s:St) (r:Ex × St):Prop:=Loops 5 tP (kZ tP 99 2) s r
abbrev zkl (a:Nat) (b:List (List Int)) (c:List Int) (d e f:Int) (g i:List (List Int)) (j:List (List (List Int))):St:=⟨sp 121 [(1,.ref 0 0),(6,.own 4 0 a 1),(7,.lst KI b),(8,aN),(9,aI 0)],[.flat [.sq c,aI d,aI e,aI f] true,.lst KI g false,.lst KI i false,.dead,.lst (EK.sl KI) j true],[3]⟩
abbrev zfj (a:Nat) (b:List (List Int)) (c:List Int) (d e f:Int) (g i:List (List Int)) (j:List (List (List Int))) (l:Nat) (m:Int) (n:List (List Int)):St:=⟨sp 121 [(1,.ref 0 0),(6,.own 4 0 a 1),(7,.lst KI b),(8,.own 5 0 l 1),(9,aI m)],[.flat [.sq c,aI d,aI e,aI f] true,.lst KI g false,.lst KI i false,.dead,.lst (EK.sl KI) j true,.lst KI n true],[3]⟩
abbrev zdi (a:Nat) (b:List (List Int)) (c:List Int) (d e f:Int) (g i:List (List Int)) (j:List (List (List Int))) (l:Nat) (m:Int) (n:List (List Int)):St:=⟨sp 121 [(1,.ref 0 0),(6,.own 4 0 a 1),(7,.lst KI b),(8,.own 5 0 l 1),(9,aI m)],[.flat [.sq c,aI d,aI e,aI f] true,.lst KI g false,.lst KI i false,.dead,.lst (EK.sl KI) j true,.lst KI n true],[3]⟩
theorem zq6 (a:Nat) (b:List (List Int)) (d:List Int) (f g i:Int) (j l:List (List Int)) (m:List (List (List Int))) (h1:0<(b.length:Int)) (h2:pX (b.getD 0 [])) (h3:1≤List.length [aZ (-vl (b.getD 0 []))]) (h4:0<(List.take 1 [aZ (-vl (b.getD 0 []))]).length) (h5:(List.take 1 [aZ (-vl (b.getD 0 []))]).length*24≤140737488355328) (h6:(List.take 1 [aZ (-vl (b.getD 0 []))]).length≤4611686018427387904):LG zjf (zkl a b d f g i j l m) (zfj a b d f g i j l m (1) (1) ([aZ (-vl (b.getD 0 []))])):=Loops.go (LS.at ziF 60 [6] [1,6,7,8,9] [3] [1] (.t h1<|.c h2<|.c h3<|.t h4<|.t h5<|.t h6<|.e) [1,0,1,2,3,4,5,6,0])
theorem zq7 (a:Nat) (b:List (List Int)) (d:List Int) (f g j:Int) (l m:List (List Int)) (n:List (List (List Int))) (o:Nat) (p:Int) (q:List (List Int)) (h1:p<(b.length:Int)) (h2:0≤p) (h3:pX (b.getD p.toNat [])) (h4:1≤List.length [aZ (-vl (b.getD p.toNat []))]) (h5:(o+(List.take 1 [aZ (-vl (b.getD p.toNat []))]).length)*24≤140737488355328) (h6:o+(List.take 1 [aZ (-vl (b.getD p.toNat []))]).length≤4611686018427387904) (h7:o≤q.length) (h8:r64 (p+1)):LG zjf (zfj a b d f g j l m n o p q) (zfj a b d f g j l m n (o+(List.take 1 [aZ (-vl (b.getD p.toNat []))]).length) (p+1) (q.take o++List.take 1 [aZ (-vl (b.getD p.toNat []))])):=Loops.go (LS.at ziF 60 [7] [1,6,7,8,9] [3] [1] (.t h1<|.t h2<|.c h3<|.c h4<|.t h5<|.t h6<|.t h7<|.i h8<|.e) [1,2,1,3,4,5,6,7,8])
theorem zq8 (a:Nat) (b:List (List Int)) (c:List Int) (d g i:Int) (j l:List (List Int)) (m:List (List (List Int))) (n:Nat) (o:Int) (p:List (List Int)) (h1:¬(o<(b.length:Int))):zjf (zfj a b c d g i j l m n o p) (Ex.exit 4,(zdi a b c d g i j l m n o p)):=LF (LS.at ziF 60 [5] [1,6,7,8,9] [3] [0] (.f h1<|.e) [1])
theorem zrc (a:List Int) (b d f:Int) (g j:List (List Int)) (l:List (List (List Int))) (m:Nat) (n:List (List (List Int))) (o:Nat) (p:Int) (q:List (List Int)) (h1:r64 ((m:Int)-2)) (h2:0≤(m:Int)-2) (h3:(m:Int)-2<(m:Int)) (h4:((m:Int)-2).toNat<n.length) (h5:r64 ((m:Int)-1)) (h6:0≤(m:Int)-1) (h7:(m:Int)-1<(m:Int)) (h8:((m:Int)-1).toNat<n.length) (h9:pRe (n.getD ((m:Int)-2).toNat []) (n.getD ((m:Int)-1).toNat [])) (h10:(↑((rsT (n.getD ((m:Int)-1).toNat []) (n.getD ((m:Int)-2).toNat []).length (n.getD ((m:Int)-2).toNat [])).length):Int)≠0) (hL1:zjf (zkl m (rsT (n.getD ((m:Int)-1).toNat []) (n.getD ((m:Int)-2).toNat []).length (n.getD ((m:Int)-2).toNat [])) a b d f g j n) (Ex.exit 4,(zdi m (rsT (n.getD ((m:Int)-1).toNat []) (n.getD ((m:Int)-2).toNat []).length (n.getD ((m:Int)-2).toNat [])) a b d f g j n o p q))) (h12:o≤q.length) (h13:1≤List.length [q.take o]) (h14:(m+(List.take 1 [q.take o]).length)*24≤140737488355328) (h15:m+(List.take 1 [q.take o]).length≤4611686018427387904) (h16:m≤n.length):LG zh1 (zfk a b d f g j l m n) (zfk a b d f g j l (m+(List.take 1 [q.take o]).length) (n.take m++List.take 1 [q.take o])):=Loops.go (LS.at ziF 60 [7] [1,6] [3] [0] (.i h1<|.t h2<|.t h3<|.t h4<|.i h5<|.t h6<|.t h7<|.t h8<|.c h9<|.c (beq_false_of_ne h10)<|.v [1,6,7,8,9] [3] hL1<|.c h12<|.c h13<|.t h14<|.t h15<|.t h16<|.e) [1,2,3,4,5,6,7,8,9,10,0,11,12,13,14,15,16])
theorem rro_3 (p:List Int) (a b c:Int) (d f:Nat) (g:Int) (j l:List (List Int)) (h1:(p.length:Int)≠2) (hL1:zff (zfg p a b c) (Ex.exit 0,(zcc p a b c d f g j l))) (h3:d≤j.length) (h4:f≤l.length) (hL2:zh1 (zgM p a b c j l ([j.take d,l.take f])) (Ex.exit 2,(zlT p a b c j l ([j.take d,l.take f])))) (h6:2≤List.length [j.take d,l.take f]) (h7:1≤List.length [a]) (h8:1≤List.length [c]) (h9:pCh (List.take 2 [j.take d,l.take f]) (List.take 1 [a]) (List.take 1 [c])) (h10:1≤List.length [b]) (h11:pCh (List.take 2 [j.take d,l.take f]) (List.take 1 [b]) (List.take 1 [c])) (h12:r64 ((zbi (svs (List.take 2 [j.take d,l.take f]) (vl (List.take 1 [a])) (vl (List.take 1 [c]))) 0 0).fst-(zbi (svs (List.take 2 [j.take d,l.take f]) (vl (List.take 1 [b])) (vl (List.take 1 [c]))) 0 0).fst)):FC tP 99 [.agg [.sq p,lI a,lI b,lI c]] (aI ((zbi (svs (List.take 2 [j.take d,l.take f]) (vl (List.take 1 [a])) (vl (List.take 1 [c]))) 0 0).fst-(zbi (svs (List.take 2 [j.take d,l.take f]) (vl (List.take 1 [b])) (vl (List.take 1 [c]))) 0 0).fst)):=dZ ziF 60 [0] (.c (beq_false_of_ne h1)<|.v [1,3,4,5] [] hL1<|.c h3<|.c h4<|.v [1,6] [3] hL2<|.c h6<|.c h7<|.c h8<|.c h9<|.c h10<|.c h11<|.i h12<|.e) (ux [1,0,2,3,4,0,5,6,7,8,9,6,10,8,11,12,6,10,8,11,12,0,6,7,8,9,6,10,8,11,12,6,7,8,9,6,10,8,11,12,0,6,7,8,9,6,10,8,11,12,6,7,8,9,6,10,8,11,12,0,0,0,6,7,8,9,6,10,8,11,12,6,7,8,9,6,10,8,11,12,0,6,7,8,9,6,10,8,11,12,0,6,7,8,9,6,10,8,11,12,6,7,8,9,6,10,8,11,12,0,6,7,8,9,6,10,8,11,12,0,0,0,6,7,8,9,6,10,8,11,12,6,10,8,11,12,0,6,7,8,9,6,10,8,11,12,6,7,8,9,6,10,8,11,12,0,6,7,8,9,6,10,8,11,12,6,7,8,9,6,10,8,11,12,0,0,0,6,7,8,9,6,10,8,11,12,6,7,8,9,6,10,8,11,12,0,6,7,8,9,6,10,8,11,12,0,6,7,8,9,6,10,8,11,12,6,7,8,9,6,10,8,11,12,0,6,7,8,9,6,10,8,11,12,0,0,0,6,7,8,9,6,10,8,11,12,6,7,8,9,6,10,8,11,12,0,6,7,8,9,6,10,8,11,12,0,6,7,8,9,6,10,8,11,12,6,7,8,9,6,10,8,11,12,0,6,7,8,9,6,10,8,11,12,0,6,7,8,9,6,10,8,11,12,6,7,8,9,6,10,8,11,12,0,0,0,6,7,8,9,6,10,8,11,12,6,7,8,9,6,10,8,11,12,0,6,7,8,9,6,10,8,11,12,0,6,7,8,9,6,10,8,11,12,6,7,8,9,6,10,8,11,12,0,6,7,8,9,6,10,8,11,12,0,6,7,8,9,6,10,8,11,12,6,7,8,9,6,10,8,11,12,1006])
theorem rro_4 (p:List Int) (a b c:Int) (d f:Nat) (g:Int) (j l:List (List Int)) (m:Nat) (n:List (List (List Int))) (h1:(p.length:Int)≠2) (hL1:zff (zfg p a b c) (Ex.exit 0,(zcc p a b c d f g j l))) (h3:d≤j.length) (h4:f≤l.length) (hL2:zh1 (zgM p a b c j l ([j.take d,l.take f])) (Ex.exit 2,(zfl p a b c j l ([j.take d,l.take f]) m n))) (h6:m≤n.length) (h7:1≤List.length [a]) (h8:1≤List.length [c]) (h9:pCh (n.take m) (List.take 1 [a]) (List.take 1 [c])) (h10:1≤List.length [b]) (h11:pCh (n.take m) (List.take 1 [b]) (List.take 1 [c])) (h12:r64 ((zbi (svs (n.take m) (vl (List.take 1 [a])) (vl (List.take 1 [c]))) 0 0).fst-(zbi (svs (n.take m) (vl (List.take 1 [b])) (vl (List.take 1 [c]))) 0 0).fst)):FC tP 99 [.agg [.sq p,lI a,lI b,lI c]] (aI ((zbi (svs (n.take m) (vl (List.take 1 [a])) (vl (List.take 1 [c]))) 0 0).fst-(zbi (svs (n.take m) (vl (List.take 1 [b])) (vl (List.take 1 [c]))) 0 0).fst)):=dZ ziF 60 [0] (.c (beq_false_of_ne h1)<|.v [1,3,4,5] [] hL1<|.c h3<|.c h4<|.v [1,6] [3] hL2<|.c h6<|.c h7<|.c h8<|.c h9<|.c h10<|.c h11<|.i h12<|.e) (ux [1,0,2,3,4,0,5,6,7,8,9,6,10,8,11,12,6,10,8,11,12,0,6,7,8,9,6,10,8,11,12,6,7,8,9,6,10,8,11,12,0,6,7,8,9,6,10,8,11,12,6,7,8,9,6,10,8,11,12,0,0,0,6,7,8,9,6,10,8,11,12,6,7,8,9,6,10,8,11,12,0,6,7,8,9,6,10,8,11,12,0,6,7,8,9,6,10,8,11,12,6,7,8,9,6,10,8,11,12,0,6,7,8,9,6,10,8,11,12,0,0,0,6,7,8,9,6,10,8,11,12,6,10,8,11,12,0,6,7,8,9,6,10,8,11,12,6,7,8,9,6,10,8,11,12,0,6,7,8,9,6,10,8,11,12,6,7,8,9,6,10,8,11,12,0,0,0,6,7,8,9,6,10,8,11,12,6,7,8,9,6,10,8,11,12,0,6,7,8,9,6,10,8,11,12,0,6,7,8,9,6,10,8,11,12,6,7,8,9,6,10,8,11,12,0,6,7,8,9,6,10,8,11,12,0,0,0,6,7,8,9,6,10,8,11,12,6,7,8,9,6,10,8,11,12,0,6,7,8,9,6,10,8,11,12,0,6,7,8,9,6,10,8,11,12,6,7,8,9,6,10,8,11,12,0,6,7,8,9,6,10,8,11,12,0,6,7,8,9,6,10,8,11,12,6,7,8,9,6,10,8,11,12,0,0,0,6,7,8,9,6,10,8,11,12,6,7,8,9,6,10,8,11,12,0,6,7,8,9,6,10,8,11,12,0,6,7,8,9,6,10,8,11,12,6,7,8,9,6,10,8,11,12,0,6,7,8,9,6,10,8,11,12,0,6,7,8,9,6,10,8,11,12,6,7,8,9,6,10,8,11,12,1006])
end
noncomputable section
end
open Go.Kf
def zau (p:List Int):List (List Int):=p.map fun x=>[x]
def zaO (p:List Int):List (List Int):=(List.range (p.length-1)).map fun j=>[((j+1:Nat):Int)*p.getD (j+1) 0]
theorem zoF (x:Int):vl [x]=x:=by simp [vl]
theorem zdH (p:List Int):(zau p).length=p.length:=by simp [zau]
theorem zbH (p:List Int):(zaO p).length=p.length-1:=by simp [zaO]
theorem vls_sing (p:List Int):vls (zau p)=p:=by
 unfold vls zau
 rw [List.map_map]
 conv=>rhs;rw [← List.map_id p]
 apply List.map_congr_left
 intro x _
 exact zoF x
theorem vls_derR (p:List Int):vls (zaO p)=der p:=by
 unfold vls zaO der
 rw [List.map_map]
 apply List.map_congr_left
 intro i _
 show vl [_]=_
 rw [zoF,Int.mul_comm]
theorem zko {p:List Int} {i:Nat} (h:i<p.length):(zau p).getD i []=[p.getD i 0]:=by
 unfold zau
 simp [List.getD,h]
theorem znE {p:List Int} {i:Nat} (h:i+1<p.length):(zaO p).getD i []=[((i+1:Nat):Int)*p.getD (i+1) 0]:=by
 unfold zaO
 rw [List.getD_eq_getElem?_getD,List.getElem?_map,List.getElem?_range (by omega)];rfl
theorem zcH {l:List (List Int)} {k:Nat} (h:k<l.length):List.take k (List.take k l)++List.take 1 [l.getD k []]=l.take (k+1):=by
 rw [List.take_take,Nat.min_self,List.take_succ_eq_append_getElem h]
 simp [List.getD,h]
theorem zlS {p:List Int} (h:zcx p) (a b c:Int):∀(m i:Nat),i+m=p.length→2≤i →
 zff (zfh p a b c i (i-1) i ((zau p).take i) ((zaO p).take (i-1))) (Ex.exit 0,zcc p a b c p.length (p.length-1) p.length (zau p) (zaO p))
 | 0,i,hi,h2=>by
  obtain rfl:i=p.length:=by omega
  have:=zq2 p a b c p.length (p.length-1) p.length ((zau p).take p.length) ((zaO p).take (p.length-1)) (by omega)
  rw [show(zau p).take p.length=zau p by rw [← zdH,List.take_length],show(zaO p).take (p.length-1)=zaO p by rw [← zbH,List.take_length]] at this ⊢
  exact this
 | m + 1,i,hi,h2=>by
  have hlt:i<p.length:=by omega
  have hl:=h.2.1
  obtain ⟨j,rfl⟩:∃j,i=j+1:=⟨i-1,by omega⟩
  have ih:=zlS h a b c m (j+1+1) (by omega) (by omega)
  have s1:=zdH p
  have s2:=zbH p
  have hg:=zeb h.2.2 (j+1)
  have hm:=zlp (a:=((j+1:Nat):Int)) (b:=p.getD (j+1) 0) (A:=5) (B:=1000) (by omega) hg
  have e1:Int.toNat ((j+1:Nat):Int)=j+1:=rfl
  have go:=@zq1 p a b c (j+1) j ((j+1:Nat):Int) ((zau p).take (j+1)) ((zaO p).take j) (by omega) (by omega) (by rw [e1];omega) (by simp) (by simp) (by simp;omega) (by simp;omega) (by rw [List.length_take];omega) (by omega) (by rw [e1];omega) (by simp) (by simp) (by simp;omega) (by simp;omega) (by rw [List.length_take];omega) (by omega)
   (Ex.exit 0,zcc p a b c p.length (p.length-1) p.length (zau p) (zaO p))
  rw [e1] at go
  rw [show List.take 1 [List.take 1 [p.getD (j+1) 0]]=List.take 1 [(zau p).getD (j+1) []] by rw [zko hlt];rfl,zcH (by omega),
   show List.take 1 [List.take 1 [((j+1:Nat):Int)*p.getD (j+1) 0]]=List.take 1 [(zaO p).getD j []] by rw [znE hlt];rfl,zcH (by omega)] at go
  exact go ih
theorem rro0 {p:List Int} (h:zcx p) (a b c:Int):zff (zfg p a b c) (Ex.exit 0,zcc p a b c p.length (p.length-1) p.length (zau p) (zaO p)):=by
 have hl:=h.1
 have hl5:=h.2.1
 have hg:=zeb h.2.2 1
 have k:=zlS h a b c (p.length-2) 2 (by omega) (by omega)
 have s1:=zdH p
 have s2:=zbH p
 have e1:List.take 1 [[p.getD 0 0]]++List.take 1 [List.take 1 [p.getD 1 0]]=(zau p).take 2:=by
  have:=zcH (l:=zau p) (k:=1) (by omega)
  rw [zko (by omega)] at this
  have t0:=zcH (l:=zau p) (k:=0) (by omega)
  rw [zko (by omega)] at t0
  rw [← this,← t0];rfl
 have e2:[[1*p.getD 1 0]]=(zaO p).take 1:=by
  have t0:=zcH (l:=zaO p) (k:=0) (by omega)
  rw [znE (by omega)] at t0
  rw [← t0];rfl
 refine zqZ p a b c (by omega) (by omega) (by simp) (by simp) (by simp) (by simp) (by simp) ?_
 refine zq0 p a b c [[p.getD 0 0]] (by omega) (by omega) (by simp) (by simp) (by simp) (by simp) (by simp) (by omega) (by simp) (by simp) (by simp) (by simp) (by simp) ?_
 rw [e1,e2]
 exact k
def ngL (q:List (List Int)):List (List Int):=q.map fun l=>aZ (-(vl l))
theorem zc3 (q:List (List Int)):(ngL q).length=q.length:=by simp [ngL]
theorem zjU {q:List (List Int)} {i:Nat} (h:i<q.length):(ngL q).getD i []=aZ (-(vl (q.getD i []))):=by
 unfold ngL;simp [List.getD,h]
theorem LB_loop {q:List (List Int)} (hq:∀l∈q,pX l) (hl:q.length≤1000) (x:List Int) (a b c:Int) (l1 l2:List (List Int)) (l3:List (List (List Int))):∀(m i:Nat),i+m=q.length→1≤i →
 zh0 (zfi q x a b c l1 l2 l3 i i ((ngL q).take i)) (Ex.exit 4,zdh q x a b c l1 l2 l3 q.length q.length (ngL q))
 | 0,i,hi,_=>by
  obtain rfl:i=q.length:=by omega
  have:=zq5 q x a b c l1 l2 l3 q.length q.length ((ngL q).take q.length) (by omega)
  rw [show(ngL q).take q.length=ngL q by rw [← zc3,List.take_length]] at this ⊢
  exact this
 | m+1,i,hi,h1=>by
  have hlt:i<q.length:=by omega
  have hn:=zc3 q
  have ih:=LB_loop hq hl x a b c l1 l2 l3 m (i+1) (by omega) (by omega)
  have e1:Int.toNat (i:Int)=i:=rfl
  have hg:q.getD i []=q[i]:=by simp [List.getD,hlt]
  have hp:pX (q.getD i []):=by rw [hg];exact hq _ (List.getElem_mem hlt)
  have go:=@zq4 q x a b c l1 l2 l3 i i ((ngL q).take i) (by omega) (by omega) hp (by simp) (by simp;omega) (by simp;omega) (by rw [List.length_take];omega) (by omega) (Ex.exit 4,zdh q x a b c l1 l2 l3 q.length q.length (ngL q))
  rw [e1] at go
  rw [show List.take 1 [aZ (-vl (q.getD i []))]=List.take 1 [(ngL q).getD i []] by rw [zjU hlt]<;>rfl,zcH (by omega)] at go
  exact go ih
theorem LB_all {q:List (List Int)} (hq:∀l∈q,pX l) (hl:q.length≤1000) (h0:1≤q.length) (x:List Int) (a b c:Int) (l1 l2:List (List Int)) (l3:List (List (List Int))) :
 zh0 (zgL q x a b c l1 l2 l3) (Ex.exit 4,zdh q x a b c l1 l2 l3 q.length q.length (ngL q)):=by
 have k:=LB_loop hq hl x a b c l1 l2 l3 (q.length-1) 1 (by omega) (by omega)
 have hg:q.getD 0 []=q[0]:=by rw [List.getD_eq_getElem?_getD,List.getElem?_eq_getElem (by omega)];rfl
 have hp:pX (q.getD 0 []):=by rw [hg];exact hq _ (List.getElem_mem (by omega))
 have e:[aZ (-vl (q.getD 0 []))]=(ngL q).take 1:=by
  have hn:=zc3 q
  have t0:=zcH (l:=ngL q) (k:=0) (by omega)
  rw [zjU (by omega)] at t0
  rw [← t0];rfl
 refine zq3 q x a b c l1 l2 l3 (by omega) hp (by simp) (by simp) (by simp) (by simp) ?_
 rw [← e] at k
 exact k
theorem LC_loop {n:Nat} {q:List (List Int)} (hq:∀l∈q,pX l) (hl:q.length≤1000) (x:List Int) (a b c:Int) (l1 l2:List (List Int)) (l3:List (List (List Int))):∀(m i:Nat),i+m=q.length→1≤i →
 zjf (zfj n q x a b c l1 l2 l3 i i ((ngL q).take i)) (Ex.exit 4,zdi n q x a b c l1 l2 l3 q.length q.length (ngL q))
 | 0,i,hi,_=>by
  obtain rfl:i=q.length:=by omega
  have:=zq8 n q x a b c l1 l2 l3 q.length q.length ((ngL q).take q.length) (by omega)
  rw [show(ngL q).take q.length=ngL q by rw [← zc3,List.take_length]] at this ⊢
  exact this
 | m+1,i,hi,h1=>by
  have hlt:i<q.length:=by omega
  have hn:=zc3 q
  have ih:=LC_loop (n:=n) hq hl x a b c l1 l2 l3 m (i+1) (by omega) (by omega)
  have e1:Int.toNat (i:Int)=i:=rfl
  have hg:q.getD i []=q[i]:=by simp [List.getD,hlt]
  have hp:pX (q.getD i []):=by rw [hg];exact hq _ (List.getElem_mem hlt)
  have go:=@zq7 n q x a b c l1 l2 l3 i i ((ngL q).take i) (by omega) (by omega) hp (by simp) (by simp;omega) (by simp;omega) (by rw [List.length_take];omega) (by omega) (Ex.exit 4,zdi n q x a b c l1 l2 l3 q.length q.length (ngL q))
  rw [e1] at go
  rw [show List.take 1 [aZ (-vl (q.getD i []))]=List.take 1 [(ngL q).getD i []] by rw [zjU hlt]<;>rfl,zcH (by omega)] at go
  exact go ih
theorem LC_all {n:Nat} {q:List (List Int)} (hq:∀l∈q,pX l) (hl:q.length≤1000) (h0:1≤q.length) (x:List Int) (a b c:Int) (l1 l2:List (List Int)) (l3:List (List (List Int))) :
 zjf (zkl n q x a b c l1 l2 l3) (Ex.exit 4,zdi n q x a b c l1 l2 l3 q.length q.length (ngL q)):=by
 have k:=LC_loop (n:=n) hq hl x a b c l1 l2 l3 (q.length-1) 1 (by omega) (by omega)
 have hg:q.getD 0 []=q[0]:=by rw [List.getD_eq_getElem?_getD,List.getElem?_eq_getElem (by omega)];rfl
 have hp:pX (q.getD 0 []):=by rw [hg];exact hq _ (List.getElem_mem (by omega))
 have e:[aZ (-vl (q.getD 0 []))]=(ngL q).take 1:=by
  have hn:=zc3 q
  have t0:=zcH (l:=ngL q) (k:=0) (by omega)
  rw [zjU (by omega)] at t0
  rw [← t0];rfl
 refine zq6 n q x a b c l1 l2 l3 (by omega) hp (by simp) (by simp) (by simp) (by simp) ?_
 rw [← e] at k
 exact k
def bd:Nat→Nat
 | 0=>1
 | 1=>1
 | 2=>64
 | 3=>556
 | _=>3433
structure RInv (i:Nat) (a b:List (List Int)):Prop where
 i3:i≤3
 la:a.length≤5-i
 lb:b.length≤4-i
 b1:1≤b.length
 sa:∀l∈a,pQ (bd i) l
 sb:∀l∈b,pQ (bd (i+1)) l
theorem RInv.bnd {i:Nat} {a b:List (List Int)} (h:RInv i a b):bd i+a.length*(2*bd (i+1)+10)≤89000∧bd (i+1)≤40000∧(i≤2→bd i+a.length*(2*bd (i+1)+10)+3≤bd (i+2)):=by
 obtain ⟨i3,la,lb,b1,sa,sb⟩:=h
 have hm:bd i+a.length*(2*bd (i+1)+10)≤bd i+(5-i)*(2*bd (i+1)+10):=Nat.add_le_add_left (Nat.mul_le_mul_right _ la) _
 have hi:i=0∨i=1∨i=2∨i=3:=by omega
 refine ⟨Nat.le_trans hm ?_,?_,fun h2=>Nat.le_trans (Nat.add_le_add_right hm 3) ?_⟩
 ·rcases hi with rfl | rfl | rfl | rfl<;>decide
 ·rcases hi with rfl | rfl | rfl | rfl<;>decide
 ·have hi:i=0∨i=1∨i=2:=by omega
  rcases hi with rfl | rfl | rfl<;>decide
theorem RInv.re {i:Nat} {a b:List (List Int)} (h:RInv i a b):pRe a b:=by
 have hb:=h.bnd
 obtain ⟨i3,la,lb,b1,sa,sb⟩:=h
 exact ⟨⟨bd i,bd (i+1),sa,sb,hb.1,hb.2.1⟩,by omega,b1,by omega⟩
theorem RInv.facts {i:Nat} {a b:List (List Int)} (h:RInv i a b):(rsT b a.length a).length<b.length∧∀l∈rsT b a.length a,pQ (bd i+a.length*(2*bd (i+1)+10)) l:=by
 have hb:=h.bnd
 obtain ⟨i3,la,lb,b1,sa,sb⟩:=h
 obtain ⟨_,i2,i3,i4⟩:=rre_l2 (n6:=0) (lr:=[]) b1 (by omega) sb a.length a (bd i) (Nat.le_refl _) (by omega) sa hb.1 hb.2.1
 exact ⟨i4,i2⟩
theorem RInv.px {i:Nat} {a b:List (List Int)} (h:RInv i a b):∀l∈rsT b a.length a,pX l:=fun l hl=>by
 have hb:=h.bnd
 exact(h.facts.2 l hl).mono (by omega)
theorem RInv.step {i:Nat} {a b:List (List Int)} (h:RInv i a b) (hne:rsT b a.length a≠[]):i≤2∧RInv (i+1) b (nxR a b):=by
 have hb:=h.bnd
 obtain ⟨f1,f2⟩:=h.facts
 obtain ⟨i3,la,lb,b1,sa,sb⟩:=h
 have hp:1≤(rsT b a.length a).length:=List.length_pos_iff.2 hne
 have hn:(nxR a b).length=(rsT b a.length a).length:=by simp [nxR]
 refine ⟨by omega,⟨by omega,by omega,by omega,by omega,sb,fun l hl=>?_⟩⟩
 unfold nxR at hl
 obtain ⟨x,hx,rfl⟩:=List.mem_map.1 hl
 exact fZ (zaD (f2 x hx)).neg (hb.2.2 (by omega))
theorem zmG {L:List (List (List Int))} {i:Nat} (h:L.length=i+2) (x:List (List Int)):(L++[x]).getD (i+1) []=L.getD (i+1) []∧(L++[x]).getD (i+2) []=x:=by
 constructor
 ·simp only [List.getD_eq_getElem?_getD];rw [List.getElem?_append_left (by omega)]
 ·simp only [List.getD_eq_getElem?_getD];rw [List.getElem?_append_right (by omega)];simp [h]
theorem LA_loop {x:List Int} {u v w:Int} {l1 l2:List (List Int)} {l3:List (List (List Int))}:∀(k i:Nat) (L:List (List (List Int))) (a b:List (List Int)),i+k=4→L.length=i+2→L.getD i []=a→L.getD (i+1) []=b→RInv i a b →
 zh1 (zfk x u v w l1 l2 l3 L.length L) (Ex.exit 2,zfl x u v w l1 l2 l3 (L++chR k a b).length (L++chR k a b))
 | 0,i,L,a,b,hk,hL,ha,hb,h=>by have:=h.i3;omega
 | k + 1,i,L,a,b,hk,hL,ha,hb,h=>by
  have e1:Int.toNat ((L.length:Int)-2)=i:=by omega
  have e2:Int.toNat ((L.length:Int)-1)=i+1:=by omega
  have g1:L.getD (Int.toNat ((L.length:Int)-2)) []=a:=by rw [e1];exact ha
  have g2:L.getD (Int.toNat ((L.length:Int)-1)) []=b:=by rw [e2];exact hb
  have hre:=h.re
  unfold chR
  by_cases hne:rsT b a.length a=[]
  ·rw [if_pos hne,List.append_nil]
   exact zrb x u v w l1 l2 l3 L.length L (by omega) (by omega) (by omega) (by omega) (by omega) (by omega) (by omega) (by omega) (by rw [g1,g2];exact hre) (by rw [g1,g2,hne];rfl)
  ·rw [if_neg hne]
   obtain ⟨i2,hs⟩:=h.step hne
   have hf:=h.facts.1
   have hlb:=h.lb
   obtain ⟨m1,m2⟩:=zmG hL (nxR a b)
   have ih:=LA_loop (x:=x) (u:=u) (v:=v) (w:=w) (l1:=l1) (l2:=l2) (l3:=l3) k (i+1) (L++[nxR a b]) b (nxR a b) (by omega) (by rw [List.length_append];simp;omega) (by rw [m1];exact hb) m2 hs
   have K:=LC_all (n:=L.length) h.px (by omega) (List.length_pos_iff.2 hne) x u v w l1 l2 L
   have hn:=zc3 (rsT b a.length a)
   have go:=@zrc x u v w l1 l2 l3 L.length L (rsT b a.length a).length (rsT b a.length a).length (ngL (rsT b a.length a)) (by omega) (by omega) (by omega) (by omega) (by omega) (by omega) (by omega) (by omega) (by rw [g1,g2];exact hre)
    (by rw [g1,g2];have:=List.length_pos_iff.2 hne;omega) (by rw [g1,g2];exact K) (by omega) (by simp) (by simp;omega) (by simp;omega) (Nat.le_refl _) (Ex.exit 2,zfl x u v w l1 l2 l3 (L++nxR a b :: chR k b (nxR a b)).length (L++nxR a b :: chR k b (nxR a b)))
   rw [List.take_length,show List.take (rsT b a.length a).length (ngL (rsT b a.length a))=nxR a b by rw [← hn,List.take_length];rfl] at go
   refine go ?_
   have e3:L.length+(List.take 1 [nxR a b]).length=(L++[nxR a b]).length:=by rw [List.length_append];rfl
   have e4:L++nxR a b :: chR k b (nxR a b)=(L++[nxR a b])++chR k b (nxR a b):=by rw [List.append_assoc];rfl
   rw [e3,e4]
   exact ih
theorem chR_ok:∀(k i:Nat) (a b:List (List Int)),RInv i a b→(chR k a b).length≤k∧∀q∈chR k a b,q.length≤5∧∀l∈q,pQ 3433 l
 | 0,_,_,_,_=>⟨Nat.le_refl _,fun _ h=>by cases h⟩
 | k + 1,i,a,b,h=>by
  unfold chR
  by_cases hne:rsT b a.length a=[]
  ·rw [if_pos hne];exact ⟨Nat.zero_le _,fun _ h=>by cases h⟩
  ·rw [if_neg hne]
   obtain ⟨i2,hs⟩:=h.step hne
   obtain ⟨c1,c2⟩:=chR_ok k (i+1) b (nxR a b) hs
   refine ⟨by simp only [List.length_cons];omega,fun q hq=>?_⟩
   rcases List.mem_cons.1 hq with rfl | hq
   ·refine ⟨by have:=hs.lb;omega,fun l hl=>(hs.sb l hl).mono ?_⟩
    have hi:i=0∨i=1∨i=2:=by omega
    rcases hi with rfl | rfl | rfl<;>decide
   ·exact c2 q hq
theorem rinv0 {p:List Int} (h:zcx p):RInv 0 (zau p) (zaO p):=by
 obtain ⟨h2,h5,ha⟩:=h
 refine ⟨by omega,by rw [zdH];omega,by rw [zbH];omega,by rw [zbH];omega,fun l hl=>?_,fun l hl=>?_⟩
 ·unfold zau at hl
  obtain ⟨x,hx,rfl⟩:=List.mem_map.1 hl
  have:=ha x hx
  exact ⟨by simp [bd],fun d hd=>by simp at hd;subst hd;exact flB this⟩
 ·unfold zaO at hl
  obtain ⟨i,hi,rfl⟩:=List.mem_map.1 hl
  have hi:=List.mem_range.1 hi
  have g:=zeb ha (i+1)
  have m:=zlp (a:=((i+1:Nat):Int)) (b:=p.getD (i+1) 0) (A:=5) (B:=1000) (by omega) g
  exact ⟨by simp [bd],fun d hd=>by
   simp only [List.mem_cons,List.not_mem_nil,or_false] at hd;subst hd;unfold cZ;omega⟩
def zrT (p:List Int):List (List (List Int)):=zau p :: zaO p :: chR 4 (zau p) (zaO p)
theorem chRR_vls {p:List Int} (h:zcx p):(zrT p).map vls=chZ p:=by
 unfold zrT chZ
 rw [List.map_cons,List.map_cons,chR_vls 4 _ _ (by rw [zbH];have:=h.1;omega),vls_sing,vls_derR]
theorem znl {p:List Int} (h:zcx p) (a b:Int):svs (zrT p) a b=svZ (chZ p) a b:=by
 rw [← chRR_vls h]
 unfold svs svZ
 rw [List.map_map];rfl
theorem chRR_ok {p:List Int} (h:zcx p) {a d:Int} (ha:a.natAbs≤1000000) (hd:d.natAbs≤1000000):pCh (zrT p) [a] [d]:=by
 have hi:=rinv0 h
 obtain ⟨c1,c2⟩:=chR_ok 4 0 (zau p) (zaO p) hi
 have one:∀z:Int,z.natAbs≤1000000→pQ 1 [z]:=fun z hz=>⟨by simp,fun e he=>by simp at he;subst he;unfold cZ;omega⟩
 have key:∀q:List (List Int),q.length≤5→(∀l∈q,pQ 3433 l)→pAt q [a] [d]:=fun q hq hl=>by
  have:q.length*(1+13)≤5*(1+13):=Nat.mul_le_mul_right _ hq
  exact ⟨3433,1,hl,one a ha,one d hd,by omega,by omega⟩
 refine ⟨fun q hq=>?_,by unfold zrT;simp only [List.length_cons];omega⟩
 unfold zrT at hq
 rcases List.mem_cons.1 hq with rfl | hq
 ·exact key _ hi.la fun l hl=>(hi.sa l hl).mono (by decide)
 rcases List.mem_cons.1 hq with rfl | hq
 ·exact key _ (by have:=hi.lb;omega) fun l hl=>(hi.sb l hl).mono (by decide)
 ·exact key q (c2 q hq).1 (c2 q hq).2
def zhV (p:List Int) (a b d:Int):Int:=if p.length=2 then(if a≤-(p.getD 0 0)*d∧-(p.getD 0 0)*d≤b then 1 else 0) else zcP p a b d
theorem rRoots_fc (p:List Int) (a b d:Int) (h:zgc p a b d):FC tP 99 [.agg [.sq p,lI a,lI b,lI d]] (lI (zhV p a b d)):=by
 obtain ⟨hp,ha,hb,hd⟩:=h
 have g0:=zeb hp.2.2 0
 have m:=zlp (a:=0-p.getD 0 0) (b:=d) (A:=1000) (B:=1000000) (by omega) hd
 have hl:=hp.1
 have hl5:=hp.2.1
 have e0:0-p.getD 0 0 = -(p.getD 0 0):=by omega
 unfold zhV
 by_cases h2:p.length=2
 ·rw [if_pos h2]
  by_cases h3:a≤-(p.getD 0 0)*d
  ·by_cases h4:-(p.getD 0 0)*d≤b
   ·rw [if_pos ⟨h3,h4⟩]
    exact rro_0 p a b d (by omega) (by omega) (by omega) (by omega) (by omega) (by rw [e0];exact h3) (by rw [e0];exact h4)
   ·rw [if_neg (fun k=>h4 k.2)]
    exact rro_1 p a b d (by omega) (by omega) (by omega) (by omega) (by omega) (by rw [e0];exact h3) (by rw [e0];exact h4)
  ·rw [if_neg (fun k=>h3 k.1)]
   exact rro_2 p a b d (by omega) (by omega) (by omega) (by omega) (by omega) (by rw [e0];exact h3)
 ·rw [if_neg h2]
  have hi:=rinv0 hp
  have hle:=zlN hp a b d
  have ra:=chRR_ok hp ha hd
  have rb:=chRR_ok hp hb hd
  have va:=znl hp a d
  have vb:=znl hp b d
  have L0:=rro0 hp a b d
  have s1:List.take p.length (zau p)=zau p:=by rw [← zdH,List.take_length]
  have s2:List.take (p.length-1) (zaO p)=zaO p:=by rw [← zbH,List.take_length]
  have sl:=zdH p
  have dl:=zbH p
  by_cases hne:rsT (zaO p) (zau p).length (zau p)=[]
  ·have e:zrT p=[zau p,zaO p]:=by unfold zrT chR;rw [if_pos hne]
   unfold zcP at hle ⊢
   rw [← va,← vb,e] at hle ⊢
   rw [e] at ra rb
   have go:=rro_3 p a b d p.length (p.length-1) p.length (zau p) (zaO p) (by omega) L0 (by omega) (by omega)
    (by rw [s1,s2];exact zq9 p a b d (zau p) (zaO p) [zau p,zaO p] (by simp) (by simp) hi.re (by show((rsT (zaO p) (zau p).length (zau p)).length:Int)=0;rw [hne];rfl))
    (by simp) (by simp) (by simp) (by rw [s1,s2];exact ra) (by simp) (by rw [s1,s2];exact rb) (by rw [s1,s2,show List.take 1 [a]=[a] from rfl,show List.take 1 [b]=[b] from rfl,show List.take 1 [d]=[d] from rfl,zoF,zoF,zoF];show r64 ((zbi (svs [zau p,zaO p] a d) 0 0).1-(zbi (svs [zau p,zaO p] b d) 0 0).1);omega)
   rw [s1,s2,show List.take 1 [a]=[a] from rfl,show List.take 1 [b]=[b] from rfl,show List.take 1 [d]=[d] from rfl,zoF,zoF,zoF] at go
   exact go
  ·obtain ⟨i2,hs⟩:=hi.step hne
   have e:zrT p=[zau p,zaO p,nxR (zau p) (zaO p)]++chR 3 (zaO p) (nxR (zau p) (zaO p)):=by
    unfold zrT
    conv=>lhs;unfold chR
    rw [if_neg hne];rfl
   have L:=LA_loop (x:=p) (u:=a) (v:=b) (w:=d) (l1:=zau p) (l2:=zaO p) (l3:=[zau p,zaO p]) 3 1 [zau p,zaO p,nxR (zau p) (zaO p)] (zaO p) (nxR (zau p) (zaO p)) rfl rfl rfl rfl hs
   rw [← e] at L
   have hf:=hi.facts.1
   have K:=LB_all hi.px (by omega) (List.length_pos_iff.2 hne) p a b d (zau p) (zaO p) [zau p,zaO p]
   have hn:=zc3 (rsT (zaO p) (zau p).length (zau p))
   have go1:=@zra p a b d (zau p) (zaO p) [zau p,zaO p] (rsT (zaO p) (zau p).length (zau p)).length (rsT (zaO p) (zau p).length (zau p)).length (ngL (rsT (zaO p) (zau p).length (zau p))) (by simp) (by simp) hi.re
    (by have:=List.length_pos_iff.2 hne;show((rsT (zaO p) (zau p).length (zau p)).length:Int)≠0;omega) K (by omega) (by simp) (by simp) (by simp) (by simp) _
    (by
     rw [show List.take (rsT (zaO p) (zau p).length (zau p)).length (ngL (rsT (zaO p) (zau p).length (zau p)))=nxR (zau p) (zaO p) by rw [← hn,List.take_length];rfl]
     exact L)
   have go:=rro_4 p a b d p.length (p.length-1) p.length (zau p) (zaO p) (zrT p).length (zrT p) (by omega) L0 (by omega) (by omega) (by rw [s1,s2];exact go1) (Nat.le_refl _) (by simp) (by simp) (by rw [List.take_length];exact ra) (by simp) (by rw [List.take_length];exact rb)
    (by rw [List.take_length,show List.take 1 [a]=[a] from rfl,show List.take 1 [b]=[b] from rfl,show List.take 1 [d]=[d] from rfl,zoF,zoF,zoF,va,vb];unfold zcP at hle;omega)
   rw [List.take_length,show List.take 1 [a]=[a] from rfl,show List.take 1 [b]=[b] from rfl,show List.take 1 [d]=[d] from rfl,zoF,zoF,zoF,va,vb] at go
   exact go
def zjZ (p:List Int) (a b d:Int):Prop:=zgc p a b d
instance tRootsF {p:List Int} {a b d:Int}:Tst (zjZ p a b d):=⟨false,fun h=>by cases h⟩
noncomputable def ctrP6:Ctr:=(99,cFd zjZ (fun l a b d=>lI (zhV l a b d))) :: ctrP5
theorem ctrP6_all:∀p∈ctrP6,jZ tP p.1 p.2:=CAll.cons (ziP fun l a b d h=>rRoots_fc l a b d h) zg4
theorem zky:(eZ tP ctrP6 bw).OK:=JZ ctrP6_all
noncomputable section
theorem rck_0 (p:List Int) (a b d:Int) (h1:(p.length:Int)<2):FC tP 32 [.agg [.sq p,lI a,lI b,lI d]] (aI 10):=dZ zky 60 [1] (.t h1<|.e) [1]
theorem rck_1 (p:List Int) (a b d:Int) (h1:¬((p.length:Int)<2)) (h2:(p.length:Int) > 5):FC tP 32 [.agg [.sq p,lI a,lI b,lI d]] (aI 10):=dZ zky 60 [0,1] (.f h1<|.t h2<|.e) [1,2]
abbrev zax (s:St) (r:Ex × St):Prop:=Loops 1 tP (kZ tP 32 0) s r
abbrev EZ (a:Int) (b:List Int) (c d e f:Int):St:=⟨sp 62 [(1,.ref 0 0),(3,aI a),(4,aI f)],[.flat [.sq b,aI c,aI d,aI e] true],[]⟩
abbrev zc9 (a:Int) (b:List Int) (c d e:Int):St:=⟨sp 62 [(2,aI 2)],[.flat [.sq b,aI c,aI d,aI e] true],[]⟩
abbrev SZ (a:Int) (b:List Int) (c d e f:Int):St:=⟨sp 62 [(1,.ref 0 0),(3,aI a),(4,aI f)],[.flat [.sq b,aI c,aI d,aI e] true],[]⟩
theorem zpX (a:Int) (b:List Int) (c d f g:Int) (h1:g<a) (h2:0≤g) (h3:g<(b.length:Int)) (h4:g.toNat<b.length) (h5:b.getD g.toNat 0≥-1000) (h6:¬(b.getD g.toNat 0≤1000)):zax (EZ a b c d f g) (Ex.ret,(zc9 a b c d f)):=LF (LS.at zky 60 [] [2] [] [1,1,1] (.t h1<|.t h2<|.t h3<|.t h4<|.t h5<|.y h6<|.e) [1,2,3,4,5,6])
theorem zpY (a:Int) (b:List Int) (c d f g:Int) (h1:g<a) (h2:0≤g) (h3:g<(b.length:Int)) (h4:g.toNat<b.length) (h5:b.getD g.toNat 0≥-1000) (h6:b.getD g.toNat 0≤1000) (h7:r64 (g+1)):LG zax (EZ a b c d f g) (EZ a b c d f (g+1)):=Loops.go (LS.at zky 60 [] [1,3,4] [] [1,1,0] (.t h1<|.t h2<|.t h3<|.t h4<|.t h5<|.x h6<|.i h7<|.e) [1,2,3,4,5,6,7])
theorem zpZ (a:Int) (b:List Int) (c d g i:Int) (h1:i<a) (h2:0≤i) (h3:i<(b.length:Int)) (h4:i.toNat<b.length) (h5:¬(b.getD i.toNat 0≥-1000)):zax (EZ a b c d g i) (Ex.ret,(zc9 a b c d g)):=LF (LS.at zky 60 [] [2] [] [1,0] (.t h1<|.t h2<|.t h3<|.t h4<|.f h5<|.e) [1,2,3,4,5])
theorem zp0 (a:Int) (b:List Int) (c d g i:Int) (h1:¬(i<a)):zax (EZ a b c d g i) (Ex.exit 0,(SZ a b c d g i)):=LF (LS.at zky 60 [] [1,3,4] [] [0] (.f h1<|.e) [1])
theorem rck_2 (p:List Int) (a b d:Int) (h1:¬((p.length:Int)<2)) (h2:¬((p.length:Int) > 5)) (hL1:zax (EZ ((p.length:Int)) p a b d (0)) (Ex.ret,(zc9 ((p.length:Int)) p a b d))):FC tP 32 [.agg [.sq p,lI a,lI b,lI d]] (aI 2):=dZ zky 60 [0,0] (.f h1<|.f h2<|.v [1,3,4] [] hL1<|.e) [1,2,0,3]
theorem rck_3 (p:List Int) (a b d c:Int) (h1:¬((p.length:Int)<2)) (h2:¬((p.length:Int) > 5)) (hL1:zax (EZ ((p.length:Int)) p a b d (0)) (Ex.exit 0,(SZ ((p.length:Int)) p a b d c))) (h4:d≥1) (h5:¬(d≤1000000)):FC tP 32 [.agg [.sq p,lI a,lI b,lI d]] (aI 2):=dZ zky 60 [0,0,1,1] (.f h1<|.f h2<|.v [1,3,4] [] hL1<|.t h4<|.y h5<|.e) [1,2,0,3,4,5]
theorem rck_4 (p:List Int) (a b d c:Int) (h1:¬((p.length:Int)<2)) (h2:¬((p.length:Int) > 5)) (hL1:zax (EZ ((p.length:Int)) p a b d (0)) (Ex.exit 0,(SZ ((p.length:Int)) p a b d c))) (h4:d≥1) (h5:d≤1000000) (h6:a≥-1000000) (h7:¬(a≤1000000)):FC tP 32 [.agg [.sq p,lI a,lI b,lI d]] (aI 2):=dZ zky 60 [0,0,1,0,1,1] (.f h1<|.f h2<|.v [1,3,4] [] hL1<|.t h4<|.x h5<|.t h6<|.y h7<|.e) [1,2,0,3,4,5,6,7]
theorem rck_5 (p:List Int) (a b d c:Int) (h1:¬((p.length:Int)<2)) (h2:¬((p.length:Int) > 5)) (hL1:zax (EZ ((p.length:Int)) p a b d (0)) (Ex.exit 0,(SZ ((p.length:Int)) p a b d c))) (h4:d≥1) (h5:d≤1000000) (h6:a≥-1000000) (h7:a≤1000000) (h8:b≥-1000000) (h9:¬(b≤1000000)):FC tP 32 [.agg [.sq p,lI a,lI b,lI d]] (aI 2):=dZ zky 60 [0,0,1,0,1,0,1,1] (.f h1<|.f h2<|.v [1,3,4] [] hL1<|.t h4<|.x h5<|.t h6<|.x h7<|.t h8<|.y h9<|.e) [1,2,0,3,4,5,6,7,8,9]
theorem rck_6 (p:List Int) (a b d g:Int) (h1:¬((p.length:Int)<2)) (h2:¬((p.length:Int) > 5)) (hL1:zax (EZ ((p.length:Int)) p a b d (0)) (Ex.exit 0,(SZ ((p.length:Int)) p a b d g))) (h4:d≥1) (h5:d≤1000000) (h6:a≥-1000000) (h7:a≤1000000) (h8:b≥-1000000) (h9:b≤1000000) (h10:r64 ((p.length:Int)-1)) (h11:0≤(p.length:Int)-1) (h12:(p.length:Int)-1<(p.length:Int)) (h13:((p.length:Int)-1).toNat<p.length) (h14:p.getD ((p.length:Int)-1).toNat 0≠1):FC tP 32 [.agg [.sq p,lI a,lI b,lI d]] (aI 3):=dZ zky 60 [0,0,1,0,1,0,1,0,1] (.f h1<|.f h2<|.v [1,3,4] [] hL1<|.t h4<|.x h5<|.t h6<|.x h7<|.t h8<|.x h9<|.i h10<|.t h11<|.t h12<|.t h13<|.c (bne_iff_ne.2 h14)<|.e) [1,2,0,3,4,5,6,7,8,9,10,11,12,13,14]
theorem rck_7 (p:List Int) (a b d g:Int) (h1:¬((p.length:Int)<2)) (h2:¬((p.length:Int) > 5)) (hL1:zax (EZ ((p.length:Int)) p a b d (0)) (Ex.exit 0,(SZ ((p.length:Int)) p a b d g))) (h4:d≥1) (h5:d≤1000000) (h6:a≥-1000000) (h7:a≤1000000) (h8:b≥-1000000) (h9:b≤1000000) (h10:r64 ((p.length:Int)-1)) (h11:0≤(p.length:Int)-1) (h12:(p.length:Int)-1<(p.length:Int)) (h13:((p.length:Int)-1).toNat<p.length) (h14:p.getD ((p.length:Int)-1).toNat 0=1) (h15:zcx p) (h16:red p=true):FC tP 32 [.agg [.sq p,lI a,lI b,lI d]] (aI 3):=dZ zky 60 [0,0,1,0,1,0,1,0,0,1] (.f h1<|.f h2<|.v [1,3,4] [] hL1<|.t h4<|.x h5<|.t h6<|.x h7<|.t h8<|.x h9<|.i h10<|.t h11<|.t h12<|.t h13<|.c (bne_eq_false_iff_eq.2 h14)<|.c h15<|.c h16<|.e) [1,2,0,3,4,5,6,7,8,9,10,11,12,13,14,15,16]
theorem rck_8 (p:List Int) (a b d g:Int) (h1:¬((p.length:Int)<2)) (h2:¬((p.length:Int) > 5)) (hL1:zax (EZ ((p.length:Int)) p a b d (0)) (Ex.exit 0,(SZ ((p.length:Int)) p a b d g))) (h4:d≥1) (h5:d≤1000000) (h6:a≥-1000000) (h7:a≤1000000) (h8:b≥-1000000) (h9:b≤1000000) (h10:r64 ((p.length:Int)-1)) (h11:0≤(p.length:Int)-1) (h12:(p.length:Int)-1<(p.length:Int)) (h13:((p.length:Int)-1).toNat<p.length) (h14:p.getD ((p.length:Int)-1).toNat 0=1) (h15:zcx p) (h16:red p=false) (h17:a > b):FC tP 32 [.agg [.sq p,lI a,lI b,lI d]] (aI 9):=dZ zky 60 [0,0,1,0,1,0,1,0,0,0,1] (.f h1<|.f h2<|.v [1,3,4] [] hL1<|.t h4<|.x h5<|.t h6<|.x h7<|.t h8<|.x h9<|.i h10<|.t h11<|.t h12<|.t h13<|.c (bne_eq_false_iff_eq.2 h14)<|.c h15<|.c h16<|.t h17<|.e) [1,2,0,3,4,5,6,7,8,9,10,11,12,13,14,15,16,17]
theorem rck_9 (p:List Int) (a b d g:Int) (h1:¬((p.length:Int)<2)) (h2:¬((p.length:Int) > 5)) (hL1:zax (EZ ((p.length:Int)) p a b d (0)) (Ex.exit 0,(SZ ((p.length:Int)) p a b d g))) (h4:d≥1) (h5:d≤1000000) (h6:a≥-1000000) (h7:a≤1000000) (h8:b≥-1000000) (h9:b≤1000000) (h10:r64 ((p.length:Int)-1)) (h11:0≤(p.length:Int)-1) (h12:(p.length:Int)-1<(p.length:Int)) (h13:((p.length:Int)-1).toNat<p.length) (h14:p.getD ((p.length:Int)-1).toNat 0=1) (h15:zcx p) (h16:red p=false) (h17:¬(a > b)) (h18:zjZ p a b d) (h19:zhV p a b d≠1):FC tP 32 [.agg [.sq p,lI a,lI b,lI d]] (aI 11):=dZ zky 60 [0,0,1,0,1,0,1,0,0,0,0,1] (.f h1<|.f h2<|.v [1,3,4] [] hL1<|.t h4<|.x h5<|.t h6<|.x h7<|.t h8<|.x h9<|.i h10<|.t h11<|.t h12<|.t h13<|.c (bne_eq_false_iff_eq.2 h14)<|.c h15<|.c h16<|.f h17<|.c h18<|.c (bne_iff_ne.2 h19)<|.e) [1,2,0,3,4,5,6,7,8,9,10,11,12,13,14,15,16,17,18,19]
theorem rck_10 (p:List Int) (a b d g:Int) (h1:¬((p.length:Int)<2)) (h2:¬((p.length:Int) > 5)) (hL1:zax (EZ ((p.length:Int)) p a b d (0)) (Ex.exit 0,(SZ ((p.length:Int)) p a b d g))) (h4:d≥1) (h5:d≤1000000) (h6:a≥-1000000) (h7:a≤1000000) (h8:b≥-1000000) (h9:b≤1000000) (h10:r64 ((p.length:Int)-1)) (h11:0≤(p.length:Int)-1) (h12:(p.length:Int)-1<(p.length:Int)) (h13:((p.length:Int)-1).toNat<p.length) (h14:p.getD ((p.length:Int)-1).toNat 0=1) (h15:zcx p) (h16:red p=false) (h17:¬(a > b)) (h18:zjZ p a b d) (h19:zhV p a b d=1):FC tP 32 [.agg [.sq p,lI a,lI b,lI d]] (aI 0):=dZ zky 60 [0,0,1,0,1,0,1,0,0,0,0,0] (.f h1<|.f h2<|.v [1,3,4] [] hL1<|.t h4<|.x h5<|.t h6<|.x h7<|.t h8<|.x h9<|.i h10<|.t h11<|.t h12<|.t h13<|.c (bne_eq_false_iff_eq.2 h14)<|.c h15<|.c h16<|.f h17<|.c h18<|.c (bne_eq_false_iff_eq.2 h19)<|.e) [1,2,0,3,4,5,6,7,8,9,10,11,12,13,14,15,16,17,18,19]
theorem rck_11 (p:List Int) (a b d c:Int) (h1:¬((p.length:Int)<2)) (h2:¬((p.length:Int) > 5)) (hL1:zax (EZ ((p.length:Int)) p a b d (0)) (Ex.exit 0,(SZ ((p.length:Int)) p a b d c))) (h4:d≥1) (h5:d≤1000000) (h6:a≥-1000000) (h7:a≤1000000) (h8:¬(b≥-1000000)):FC tP 32 [.agg [.sq p,lI a,lI b,lI d]] (aI 2):=dZ zky 60 [0,0,1,0,1,0,0] (.f h1<|.f h2<|.v [1,3,4] [] hL1<|.t h4<|.x h5<|.t h6<|.x h7<|.f h8<|.e) [1,2,0,3,4,5,6,7,8]
theorem rck_12 (p:List Int) (a b d c:Int) (h1:¬((p.length:Int)<2)) (h2:¬((p.length:Int) > 5)) (hL1:zax (EZ ((p.length:Int)) p a b d (0)) (Ex.exit 0,(SZ ((p.length:Int)) p a b d c))) (h4:d≥1) (h5:d≤1000000) (h6:¬(a≥-1000000)):FC tP 32 [.agg [.sq p,lI a,lI b,lI d]] (aI 2):=dZ zky 60 [0,0,1,0,0] (.f h1<|.f h2<|.v [1,3,4] [] hL1<|.t h4<|.x h5<|.f h6<|.e) [1,2,0,3,4,5,6]
theorem rck_13 (p:List Int) (a b d c:Int) (h1:¬((p.length:Int)<2)) (h2:¬((p.length:Int) > 5)) (hL1:zax (EZ ((p.length:Int)) p a b d (0)) (Ex.exit 0,(SZ ((p.length:Int)) p a b d c))) (h4:¬(d≥1)):FC tP 32 [.agg [.sq p,lI a,lI b,lI d]] (aI 2):=dZ zky 60 [0,0,0] (.f h1<|.f h2<|.v [1,3,4] [] hL1<|.f h4<|.e) [1,2,0,3,4]
end
open Go.Kf
theorem one_roots {p:List Int} {a b d:Int}:zhV p a b d=1↔zmb p a b d=true:=by
 unfold zhV zmb
 by_cases h2:p.length=2
 ·rw [if_pos h2,if_pos h2,Bool.and_eq_true,decide_eq_true_eq,decide_eq_true_eq]
  by_cases h:a≤-(p.getD 0 0)*d∧-(p.getD 0 0)*d≤b
  ·rw [if_pos h];exact ⟨fun _=>h,fun _=>rfl⟩
  ·rw [if_neg h];exact ⟨fun k=>by omega,fun k=>absurd k h⟩
 ·rw [if_neg h2,if_neg h2,beq_iff_eq]
theorem zoa {p:List Int} (hl:p.length≤1000) (a b d:Int):∀(m i:Nat),i+m=p.length →
 (zd1 (p.drop i)=true∧zax (EZ p.length p a b d i) (Ex.ret,zc9 p.length p a b d))∨(zd1 (p.drop i)=false∧∃t,zax (EZ p.length p a b d i) (Ex.exit 0,SZ p.length p a b d t))
 | 0,i,hi=>by
  obtain rfl:i=p.length:=by omega
  exact .inr ⟨by rw [List.drop_length];rfl,p.length,zp0 p.length p a b d p.length (by omega)⟩
 | m + 1,i,hi=>by
  have hlt:i<p.length:=by omega
  have e1:Int.toNat (i:Int)=i:=rfl
  rw [zkF hlt]
  by_cases h1:p.getD i 0≥-1000
  ·by_cases h2:p.getD i 0≤1000
   ·have go:=fun r=>@zpY p.length p a b d i (by omega) (by omega) (by omega) (by omega) h1 h2 (by omega) r
    rw [decide_eq_false (show ¬p.getD i 0 < -1000 by omega),decide_eq_false (show ¬1000<p.getD i 0 by omega),Bool.false_or,Bool.false_or]
    rcases zoa hl a b d m (i+1) (by omega) with ⟨x,k⟩ | ⟨x,t,k⟩
    ·exact .inl ⟨x,go _ k⟩
    ·exact .inr ⟨x,t,go _ k⟩
   ·exact .inl ⟨by rw [decide_eq_true (show 1000<p.getD i 0 by omega)];simp,zpX p.length p a b d i (by omega) (by omega) (by omega) (by omega) h1 h2⟩
  ·exact .inl ⟨by rw [decide_eq_true (show p.getD i 0 < -1000 by omega)];simp,zpZ p.length p a b d i (by omega) (by omega) (by omega) (by omega) h1⟩
theorem rcheck_fc (p:List Int) (a b d:Int):FC tP 32 [.agg [.sq p,lI a,lI b,lI d]] (lI (zbw p a b d)):=by
 have loops:2≤p.length→p.length≤5→(zd1 p=true→zax (EZ p.length p a b d 0) (Ex.ret,zc9 p.length p a b d))∧(zd1 p=false→∃t,zax (EZ p.length p a b d 0) (Ex.exit 0,SZ p.length p a b d t)):=fun l2 l5=>by
  have:=zoa (p:=p) (by omega) a b d p.length 0 (by omega)
  rw [List.drop_zero] at this
  rcases this with ⟨x,k⟩ | ⟨x,t,k⟩
  ·exact ⟨fun _=>k,fun y=>by rw [x] at y;cases y⟩
  ·exact ⟨fun y=>(by rw [x] at y;cases y),fun _=>⟨t,k⟩⟩
 rcases zg1 p a b d with h | h | ⟨l2,l5,bg⟩ | ⟨l2,l5,bg,h⟩
 ·have hrd:=h.rd
  have hro:=h.ro
  rw [h.eq]
  obtain ⟨l2,l5,bg,d1,d2,a1,a2,b1,b2⟩:=h
  obtain ⟨t,K⟩:=(loops l2 l5).2 bg
  have e1:Int.toNat ((p.length:Int)-1)=p.length-1:=by omega
  by_cases c1:p.getD (p.length-1) 0=1
  ·cases c2:red p with
   | true=>
    rw [if_pos (.inr rfl)]
    exact rck_7 p a b d t (by omega) (by omega) K (by omega) (by omega) (by omega) (by omega) (by omega) (by omega) (by omega) (by omega) (by omega) (by omega) (by rw [e1];exact c1) hrd c2
   | false=>
    rw [if_neg (by simp only [c1,ne_eq,not_true_eq_false,false_or,Bool.false_eq_true,not_false_eq_true])]
    by_cases c3:b<a
    ·rw [if_pos c3]
     exact rck_8 p a b d t (by omega) (by omega) K (by omega) (by omega) (by omega) (by omega) (by omega) (by omega) (by omega) (by omega) (by omega) (by omega) (by rw [e1];exact c1) hrd c2 c3
    ·rw [if_neg c3]
     cases c4:zmb p a b d with
     | false=>
      rw [if_pos rfl]
      exact rck_9 p a b d t (by omega) (by omega) K (by omega) (by omega) (by omega) (by omega) (by omega) (by omega) (by omega) (by omega) (by omega) (by omega) (by rw [e1];exact c1) hrd c2 c3 hro (fun e=>by rw [one_roots.1 e] at c4;cases c4)
     | true=>
      rw [if_neg (by decide)]
      exact rck_10 p a b d t (by omega) (by omega) K (by omega) (by omega) (by omega) (by omega) (by omega) (by omega) (by omega) (by omega) (by omega) (by omega) (by rw [e1];exact c1) hrd c2 c3 hro (one_roots.2 c4)
  ·rw [if_pos (.inl c1)]
   exact rck_6 p a b d t (by omega) (by omega) K (by omega) (by omega) (by omega) (by omega) (by omega) (by omega) (by omega) (by omega) (by omega) (by omega) (by rw [e1];exact c1)
 ·rw [zmo h]
  by_cases l2:p.length<2
  ·exact rck_0 p a b d (by omega)
  ·exact rck_1 p a b d (by omega) (by omega)
 ·rw [zmn ⟨l2,l5⟩ bg]
  exact rck_2 p a b d (by omega) (by omega) ((loops l2 l5).1 bg)
 ·rw [zmp ⟨l2,l5⟩ h]
  obtain ⟨t,K⟩:=(loops l2 l5).2 bg
  by_cases d1:1≤d
  ·by_cases d2:d≤1000000
   ·by_cases a1:-1000000≤a
    ·by_cases a2:a≤1000000
     ·by_cases b1:-1000000≤b
      ·exact rck_5 p a b d t (by omega) (by omega) K d1 d2 a1 a2 b1 (by omega)
      ·exact rck_11 p a b d t (by omega) (by omega) K d1 d2 a1 a2 b1
     ·exact rck_4 p a b d t (by omega) (by omega) K d1 d2 a1 a2
    ·exact rck_12 p a b d t (by omega) (by omega) K d1 d2 a1
   ·exact rck_3 p a b d t (by omega) (by omega) K d1 d2
  ·exact rck_13 p a b d t (by omega) (by omega) K d1
noncomputable section
end
open Go.Kf
theorem LeL.six {a b c d e f e' f':AV} {l:List AV} (h1:Le e e') (h2:Le f f'):LeL (a :: b :: c :: d :: e :: f :: l) (a :: b :: c :: d :: e' :: f' :: l):=
 .cons (Le.refl _) (.cons (Le.refl _) (.cons (Le.refl _) (.cons (Le.refl _) (.cons h1 (.cons h2 (LeL.refl _))))))
theorem open_err (p:List Int) (a b d:Int) (h1:zbw p a b d≠0):FC tP 33 [.agg [.sq p,lI a,lI b,lI d]] (.tup [.lit (.pointer none),lI (zbw p a b d)]):=
 dZ okP5 60 [1] (.c (bne_iff_ne.2 h1)<|.e) [0,1]
noncomputable def cOpen (args:List AV):M AV:=match args with
 | [x]=>do
  let f ← asK fieldK x
  match f with
  | (l,a,b,d)=>do
   let z ← dec (decide (zbw l a b d=0))
   match z with
   | true=>M.pure (.tup [zso l a b d,.lit (.int .i64 0)])
   | false=>M.pure (.tup [.lit (.pointer none),.lit (.int .i64 (zbw l a b d))])
 | _=>fail 313
theorem cOpen_ok:jZ tP 33 cOpen:=by
 intro args _
 unfold cOpen
 split
 ·refine Spec.bind (asK_spec.mono fun f hf=>?_)
  obtain ⟨l,a,b,d⟩:=f
  refine Spec.bind (Spec.dec ?_)
  by_cases h:zbw l a b d=0
  ·rw [decide_eq_true h]
   exact Spec.pure' ((open_fc l a b d h).le (.cons hf .nil) (Le.refl _))
  ·rw [decide_eq_false h]
   exact Spec.pure' ((open_err l a b d h).le (.cons hf .nil) (Le.refl _))
 ·exact Spec.fail
noncomputable section
end
open Go.Kf
abbrev F2:AV:=.agg [.sq [-2,0,1],lI 1,lI 2,lI 1]
abbrev R2:AV:=.pd [.sq [-2,0,1],lI 1,lI 2,lI 1,.sl [.lit (.bool true),.wd (-2),.lit (.bool false),.wd 0,.lit (.bool false),.wd 1] 3,.sl [.lit (.bool false),.wd 2,.lit (.bool false),.wd 0] 2,
 .lit (.bool false),.wd 26087635650665564424,.lit (.bool false),.wd 26087635650665564425,.lit (.bool false),.wd 18446744073709551616] 0
theorem red2:red [-2,0,1]=false:=Value.bool.inj (AV.lit.inj (ziI fun h=>by
 rcases h.2 with ⟨x,hx⟩ | ⟨h5,_⟩
 ·have e:pv [-2,0,1] x=(((0*x+1)*x+0)*x + -2:Int):=rfl
  rw [e] at hx
  have h2:x*x=2:=by grind
  have h3:x.natAbs*x.natAbs=2:=by rw [← Int.natAbs_mul,h2];rfl
  have:x.natAbs=0∨x.natAbs=1∨2≤x.natAbs:=by omega
  rcases this with h | h | h
  ·rw [h] at h3;cases h3
  ·rw [h] at h3;cases h3
  ·have:=Nat.mul_le_mul h h;omega
 ·cases h5))
theorem chk2:zbw [-2,0,1] 1 2 1=0:=by
 have hr:ChkR [-2,0,1] 1 2 1:=⟨by decide,by decide,by decide,by decide,by decide,by decide,by decide,by decide,by decide⟩
 rw [hr.eq,red2,if_neg (by decide),if_neg (by decide),show zmb [-2,0,1] 1 2 1=true by kernel_rfl];rfl
theorem hv64:hvG [-2,0,1] 64 1 2 1=(26087635650665564424,26087635650665564425,18446744073709551616):=by kernel_rfl
theorem Le.lst_sl {l:List Int} {cells:List AV} {n:Nat} (h:cells=uZ .W l) (hn:n=l.length):Le (.lst .whole l) (.sl cells n):=by
 subst h;subst hn;exact Le.lst_slW l
theorem open2:FC tP 33 [F2] (.tup [R2,lI 0]):=by
 have:=open_fc [-2,0,1] 1 2 1 chk2
 refine this.le (LeL.refl _) ?_
 unfold zso oA
 rw [show hvC [-2,0,1]=64 from rfl,hv64]
 exact Le.tup (.cons (Le.pd (LeL.six (Le.lst_sl rfl rfl) (Le.lst_sl rfl rfl))) (LeL.refl _))
abbrev nW:AV:=.agg [.sl [.lit (.slice none 0 0),.sq [1]] 2,.lit (.slice none 0 0)]
abbrev nA1 (a d:Int):AV:=.agg [.sl [.ni a] 1,.ni d]
abbrev nA2 (a b d:Int):AV:=.agg [.sl [.ni a,.ni b] 2,.ni d]
noncomputable section
theorem cRoot:zl9 (eZ tP zet bw) 300 65 [lI 2]=some (.tup [.agg [.sq [-2,0,1],aI 1,aI 2,aI 1],aI 0],[3≤3]):=by kernel_rfl
theorem cWhole1:zl9 (eZ tP zet bw) 300 29 [lI 1]=some (.agg [.sl [.ni 1] 1,.ni 1],[]):=by kernel_rfl
theorem cWhole3:zl9 (eZ tP zet bw) 300 29 [lI 3]=some (.agg [.sl [.ni 3] 1,.ni 1],[]):=by kernel_rfl
theorem cWhole100:zl9 (eZ tP zet bw) 300 29 [lI 100]=some (.agg [.sl [.ni 100] 1,.ni 1],[]):=by kernel_rfl
theorem cAdd1:zl9 (eZ tP zet bw) 300 22 [R2,nA1 1 1,nW]=some (.agg [.sl [.ni 1,.ni 1] 2,.ni 1],[]):=by kernel_rfl
theorem cAdd2:zl9 (eZ tP zet bw) 300 22 [R2,nW,nW]=some (.agg [.sl [.ni 0,.ni 2] 2,.ni 1],[]):=by kernel_rfl
theorem cSub:zl9 (eZ tP zet bw) 300 24 [R2,nA1 3 1,nA2 0 2 1]=some (.agg [.sl [.ni 3,.ni (-2)] 2,.ni 1],[]):=by kernel_rfl
theorem cMul:zl9 (eZ tP zet bw) 300 26 [R2,nA1 100 1,nW]=some (.agg [.sl [.ni 0,.ni 100] 2,.ni 1],[]):=by kernel_rfl
theorem cSign:zl9 (eZ tP zet bw) 300 28 [R2,nA2 3 (-2) 1]=some (aI 1,[]):=by kernel_rfl
theorem cFloor:zl9 (eZ tP zet bw) 300 31 [R2,nA2 0 100 1]=some (.ni 141,[]):=by kernel_rfl
theorem cQuo:zl9 (eZ tP zet bw) 300 17 [R2,nA1 1 1,nA2 1 1 1]=some (.tup [.agg [.sl [.ni (-1),.ni 1] 2,.ni 1],aI 0],[]):=by kernel_rfl
end
theorem cFmt:zl9 (eZ tP ctrT2 bw) 300 75 [R2,nA2 (-1) 1 1]=some (.lit (.string ⟨#[45,49,44,49]⟩),[]):=by kernel_rfl
theorem root2:FC tP 65 [lI 2] (.tup [F2,lI 0]):=zbK okAw cRoot (.cons (Nat.le_refl _) .nil)
theorem whole1:FC tP 29 [lI 1] (nA1 1 1):=zbK okAw cWhole1 .nil
theorem whole3:FC tP 29 [lI 3] (nA1 3 1):=zbK okAw cWhole3 .nil
theorem whole100:FC tP 29 [lI 100] (nA1 100 1):=zbK okAw cWhole100 .nil
theorem add1:FC tP 22 [R2,nA1 1 1,nW] (nA2 1 1 1):=zbK okAw cAdd1 .nil
theorem add2:FC tP 22 [R2,nW,nW] (nA2 0 2 1):=zbK okAw cAdd2 .nil
theorem sub1:FC tP 24 [R2,nA1 3 1,nA2 0 2 1] (nA2 3 (-2) 1):=zbK okAw cSub .nil
theorem mul1:FC tP 26 [R2,nA1 100 1,nW] (nA2 0 100 1):=zbK okAw cMul .nil
theorem sign1:FC tP 28 [R2,nA2 3 (-2) 1] (lI 1):=zbK okAw cSign .nil
theorem floor1:FC tP 31 [R2,nA2 0 100 1] (.ni 141):=zbK okAw cFloor .nil
theorem fmt1:FC tP 75 [R2,nA2 (-1) 1 1] (.lit (.string ⟨#[45,49,44,49]⟩)):=zbK okT2 cFmt .nil
theorem quo1:FC tP 17 [R2,nA1 1 1,nA2 1 1 1] (.tup [nA2 (-1) 1 1,lI 0]):=zbK okAw cQuo .nil
def ctrW:Ctr:=(33,cK [F2] (.tup [R2,lI 0])) :: (65,cK [lI 2] (.tup [F2,lI 0])) ::
 (29,orC (cK [lI 1] (nA1 1 1)) (orC (cK [lI 3] (nA1 3 1)) (cK [lI 100] (nA1 100 1)))) ::
 (22,orC (cK [R2,nA1 1 1,nW] (nA2 1 1 1)) (cK [R2,nW,nW] (nA2 0 2 1))) ::
 (24,cK [R2,nA1 3 1,nA2 0 2 1] (nA2 3 (-2) 1)) ::
 (26,cK [R2,nA1 100 1,nW] (nA2 0 100 1)) ::
 (28,cK [R2,nA2 3 (-2) 1] (lI 1)) ::
 (31,cK [R2,nA2 0 100 1] (.ni 141)) ::
 (75,cK [R2,nA2 (-1) 1 1] (.lit (.string ⟨#[45,49,44,49]⟩))) ::
 (17,cK [R2,nA1 1 1,nA2 1 1 1] (.tup [nA2 (-1) 1 1,lI 0])) :: ctrT2
theorem ctrW_all:∀p∈ctrW,jZ tP p.1 p.2:=
 CAll.cons (zd2 open2)<|CAll.cons (zd2 root2)<|CAll.cons (orC_ok (zd2 whole1) (orC_ok (zd2 whole3) (zd2 whole100)))<|CAll.cons (orC_ok (zd2 add1) (zd2 add2))<|CAll.cons (zd2 sub1) <|
 CAll.cons (zd2 mul1)<|CAll.cons (zd2 sign1)<|CAll.cons (zd2 floor1)<|CAll.cons (zd2 fmt1)<|CAll.cons (zd2 quo1) zk5
theorem okW:(eZ tP ctrW bw).OK:=JZ ctrW_all
noncomputable section
theorem cAwake:zl9 (eZ tP ctrW bw) 300 16 []=some (aT,[1≤1,1≤1,1≤1,1≤1,1≤1,1≤1,1≤1,1≤1,1≤1,1≤1,1≤1,1≤1,1≤1,1≤1,1≤1,1≤1,1≤1,1≤1,1≤1,1≤1,1≤1]):=by kernel_rfl
end
theorem awake_fc:FC tP 16 [] (.lit (.bool true)):=zbK okW cAwake (by(repeat' (first | exact AllC.nil | refine AllC.cons ?_ ?_));all_goals (first | (with_reducible rfl) | exact Nat.le_refl _ | trivial | decide))
end Go.Proofs.YtagbldogmjhdpaaGreatDoor
end
