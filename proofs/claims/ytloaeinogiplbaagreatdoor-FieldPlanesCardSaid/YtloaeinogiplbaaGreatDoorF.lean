/- Part of a proof about a given program: see the last module of the claim. -/
import Derived.Test.YtloaeinogiplbaaGreatDoorE
import Derived.Shelf.Strings.Builder1
import Derived.Shelf.Strings.Builder2
import Derived.Shelf.Strings.OnBuilder
import Derived.Shelf.Small.Utf8
import Derived.Shelf.Small.Strs
import Derived.Shelf.Strings.BuilderF
import Derived.Shelf.Strings.BuilderK
import Derived.Shelf.Strconv.Itoa0
import Derived.Shelf.Strconv.Itoa1
import Derived.Shelf.LaysM
import Derived.Shelf.Strconv.Itoa2
import Derived.Shelf.Strconv.Itoa3
import Derived.Shelf.Strings.Search1
import Derived.Shelf.Strings.Search2
import Derived.Shelf.Strings.Search3
import Derived.Shelf.Strings.Cut
import Derived.Shelf.Strings.Count
import Derived.Shelf.Strings.Shaped
import Derived.Shelf.Strings.Prefix
import Derived.Shelf.Strings.Runes
import Derived.Shelf.Strings.AsciiSet
import Derived.Shelf.Bits.Mul64
import Derived.Shelf.Strings.Repeat
import Derived.Shelf.Unicode.DecodeSlow
import Derived.Shelf.Unicode.DecodeAny
import Derived.Ground.Names2Prog
import Derived.Shelf.Slices.Clone
import Derived.Shelf.Slices.SearchI
import Derived.Ground.SlgnProg
import Derived.Shelf.SlicesE.Clone
import Derived.Test.YtloaeinogiplbaaGreatDoorProg
import Derived.WalkKit
import Derived.BigCall
import Derived.Test.YtloaeinogiplbaaGreatDoorC
import Derived.Test.YtloaeinogiplbaaGreatDoorD
section
namespace Go.Kf
set_option linter.unusedVariables false
set_option linter.unusedSimpArgs false
open V
abbrev NZ:=List Int × Int
def zdG (c:List Int) (d:Int):NZ:=([loC c d 0,loC c d 1,loC c d 2,loC c d 3],loD c d)
theorem ev_get {n:Nat} {p:V}:∀c c':List Int,(∀i,c.getD i 0=c'.getD i 0)→ev n p (qL c)=ev n p (qL c')
  | [],c',h=>by
    have:∀x∈qL c',x=0:=by
      intro x hx
      obtain ⟨z,hz,rfl⟩:=List.mem_map.1 hx
      obtain ⟨i,hi,rfl⟩:=List.getElem_of_mem hz
      have:=h i
      simp only [List.getD_nil,List.getD_eq_getElem?_getD,List.getElem?_eq_getElem hi,Option.getD_some] at this
      rw [← this];rfl
    rw [zgD _ this];rfl
  | a :: c,[],h=>by
    have:∀x∈qL (a :: c),x=0:=by
      intro x hx
      obtain ⟨z,hz,rfl⟩:=List.mem_map.1 hx
      obtain ⟨i,hi,rfl⟩:=List.getElem_of_mem hz
      have:=h i
      simp only [List.getD_nil,List.getD_eq_getElem?_getD,List.getElem?_eq_getElem hi,Option.getD_some] at this
      rw [this];rfl
    rw [zgD _ this];rfl
  | a :: c,b :: c',h=>by
    have h0:a=b:=h 0
    rw [qL_cons,qL_cons,zmm,zmm,h0,ev_get c c' (fun i=>h (i+1))]
section
variable {q:List Int}
theorem zkj {c c':List Int} {d:Int} (h:∀i,c.getD i 0=c'.getD i 0):val q c d=val q c' d:=by
  unfold val;rw [ev_get c c' h]
theorem zdl (k:Int):∀(c:List Int) (i:Nat),(smZ k c).getD i 0=k*c.getD i 0
  | [],i=>by simp [smZ]
  | a :: c,0=>rfl
  | a :: c,i+1=>zdl k c i
theorem zno {c:List Int} {d:Int} (h4:∀i,4≤i→c.getD i 0=0) (i:Nat):(zdG c d).1.getD i 0=loC c d i:=by
  match i with
  | 0=>rfl
  | 1=>rfl
  | 2=>rfl
  | 3=>rfl
  | k+4=>
    have:loC c d (k+4)=0:=by unfold loC;rw [h4 _ (by omega)];exact Int.zero_ediv _
    rw [this];rfl
structure Nrm (q:List Int) (u:NZ):Prop where
  pos:0<u.2
  sh:zn4 q u.1
  low:zdG u.1 u.2=u
def nv (q:List Int) (u:NZ):V:=val q u.1 u.2
theorem zjD (h4:q.length≤4) {c:List Int} {d:Int} (hd:d≠0) (hc:zn4 q c):nv q (zdG c d)=val q c d:=by
  have hz:=ziI (c:=c) hd
  have hp:=zhs (c:=c) hd
  have h0:∀i,4≤i→c.getD i 0=0:=fun i hi=>hc i (by omega)
  have e:=val_scale (q:=q) (c:=(zdG c d).1) (d:=(zdG c d).2) (k:=dvs c d) (by show loD c d≠0;omega) hz
  unfold nv
  rw [← e,show dvs c d*(zdG c d).2=d by rw [Int.mul_comm];exact zbC c d]
  exact zkj fun i=>by rw [zdl,zno h0,Int.mul_comm,zbB]
theorem zjC (h4:q.length≤4) {c:List Int} {d:Int} (hd:d≠0) (hc:zn4 q c):Nrm q (zdG c d):=by
  have h0:∀i,4≤i→c.getD i 0=0:=fun i hi=>hc i (by omega)
  have hp:0<(zdG c d).2:=zhs hd
  have hs:zn4 q (zdG c d).1:=fun i hi=>by
    rw [zno h0];unfold loC;rw [hc i hi];exact Int.zero_ediv _
  refine ⟨hp,hs,?_⟩
  have ⟨e1,e2⟩:=lo_val2 (q:=q) (c:=(zdG c d).1) (d:=(zdG c d).2) (c':=c) (d':=d) (by omega) hd hs hc (zjD h4 hd hc)
  show([loC (zdG c d).1 (zdG c d).2 0,loC (zdG c d).1 (zdG c d).2 1,loC (zdG c d).1 (zdG c d).2 2,loC (zdG c d).1 (zdG c d).2 3],loD (zdG c d).1 (zdG c d).2)=zdG c d
  rw [e1,e2,e2,e2,e2];rfl
theorem nv_inj {u v:NZ} (hu:Nrm q u) (hv:Nrm q v) (h:nv q u=nv q v):u=v:=by
  have hp:=hu.pos
  have hr:=hv.pos
  have ⟨e1,e2⟩:=lo_val2 (by omega) (by omega) hu.sh hv.sh h
  rw [← hu.low,← hv.low]
  unfold zdG
  rw [e1,e2,e2,e2,e2]
theorem low_get {c c':List Int} {d:Int} (hd:d≠0) (h:∀i,c.getD i 0=c'.getD i 0):zdG c d=zdG c' d:=by
  have ⟨e1,e2⟩:=lo_eq (c:=c) (c':=c') hd hd (fun i=>by rw [h i])
  unfold zdG
  rw [e1,e2,e2,e2,e2]
theorem zja:∀(x y:List Int) (i:Nat),(zmQ x y).getD i 0=x.getD i 0+y.getD i 0
  | [],y,i=>by simp [zmQ]
  | a :: x,[],i=>by simp [zmQ]
  | a :: x,b :: y,0=>rfl
  | a :: x,b :: y,i+1=>zja x y i
def plN (u v:NZ):NZ:=zdG [u.1.getD 0 0*v.2+v.1.getD 0 0*u.2,u.1.getD 1 0*v.2+v.1.getD 1 0*u.2,u.1.getD 2 0*v.2+v.1.getD 2 0*u.2,u.1.getD 3 0*v.2+v.1.getD 3 0*u.2] (u.2*v.2)
theorem pl_ok (h4:q.length≤4) {u v:NZ} (hu:Nrm q u) (hv:Nrm q v):Nrm q (plN u v)∧nv q (plN u v)=vAdd (nv q u) (nv q v):=by
  have hp:=hu.pos
  have hr:=hv.pos
  have hd:u.2*v.2≠0:=by have:=Int.mul_pos hp hr;omega
  have g:∀i,[u.1.getD 0 0*v.2+v.1.getD 0 0*u.2,u.1.getD 1 0*v.2+v.1.getD 1 0*u.2,u.1.getD 2 0*v.2+v.1.getD 2 0*u.2,u.1.getD 3 0*v.2+v.1.getD 3 0*u.2].getD i 0=(zmQ (smZ v.2 u.1) (smZ u.2 v.1)).getD i 0:=by
    intro i
    rw [zja,zdl,zdl,Int.mul_comm v.2,Int.mul_comm u.2]
    match i with
    | 0=>rfl
    | 1=>rfl
    | 2=>rfl
    | 3=>rfl
    | k+4=>rw [hu.sh (k+4) (by omega),hv.sh (k+4) (by omega),Int.zero_mul,Int.zero_mul];rfl
  have hs:zn4 q [u.1.getD 0 0*v.2+v.1.getD 0 0*u.2,u.1.getD 1 0*v.2+v.1.getD 1 0*u.2,u.1.getD 2 0*v.2+v.1.getD 2 0*u.2,u.1.getD 3 0*v.2+v.1.getD 3 0*u.2]:=fun i hi=>by
    rw [g,zja,zdl,zdl,hu.sh i hi,hv.sh i hi,Int.mul_zero,Int.mul_zero];rfl
  refine ⟨zjC h4 hd hs,?_⟩
  unfold plN
  rw [zjD h4 hd hs,zkj g]
  exact val_add (by omega) (by omega)
def ngN (u:NZ):NZ:=([-u.1.getD 0 0,-u.1.getD 1 0,-u.1.getD 2 0,-u.1.getD 3 0],u.2)
theorem ng_ok (h4:q.length≤4) {u:NZ} (hu:Nrm q u):Nrm q (ngN u)∧nv q (ngN u)=sm (-1) (nv q u):=by
  have hp:=hu.pos
  have g:∀i,(ngN u).1.getD i 0=(smZ (-1) u.1).getD i 0:=by
    intro i
    rw [zdl]
    match i with
    | 0=>show -u.1.getD 0 0=_;omega
    | 1=>show -u.1.getD 1 0=_;omega
    | 2=>show -u.1.getD 2 0=_;omega
    | 3=>show -u.1.getD 3 0=_;omega
    | k+4=>rw [hu.sh (k+4) (by omega)];rfl
  have hs:zn4 q (ngN u).1:=fun i hi=>by rw [g,zdl,hu.sh i hi];rfl
  have hv:nv q (ngN u)=sm (-1) (nv q u):=by
    unfold nv
    rw [zkj g];exact val_neg
  refine ⟨⟨hp,hs,?_⟩,hv⟩
  have hN:=zjC h4 (c:=(ngN u).1) (d:=u.2) (by omega) hs
  have gl:∀(i:Nat),dvs (ngN u).1 u.2=dvs u.1 u.2→u.1.getD i 0 % dvs u.1 u.2=0:=fun i _=>Int.emod_eq_zero_of_dvd ((zfR u.1 u.2).2 i)
  have hd1:dvs u.1 u.2=1:=by
    have h1:loD u.1 u.2=u.2:=congrArg Prod.snd hu.low
    have h2:=zbC u.1 u.2
    rw [h1] at h2
    exact Int.eq_of_mul_eq_mul_left (a:=u.2) (by omega) (by rw [h2,Int.mul_one])
  have hd2:dvs (ngN u).1 u.2=1:=by
    have ⟨a,b⟩:=zfR (ngN u).1 u.2
    have hz:=ziI (c:=(ngN u).1) (d:=u.2) (by omega)
    have hlp:=zhs (c:=(ngN u).1) (d:=u.2) (by omega)
    have hlm:=zbC (ngN u).1 u.2
    have hk:0<dvs (ngN u).1 u.2:=by
      rcases Int.lt_trichotomy (dvs (ngN u).1 u.2) 0 with h | h | h
      · have:=Int.mul_neg_of_pos_of_neg hlp h;omega
      · omega
      · exact h
    have hpr:=znn (c:=u.1) (d:=u.2) (by omega) (k:=(dvs (ngN u).1 u.2).toNat) (by
      rw [Int.toNat_of_nonneg (by omega),show loD u.1 u.2=u.2 from congrArg Prod.snd hu.low];exact a) (fun i=>by
      rw [Int.toNat_of_nonneg (by omega)]
      have:loC u.1 u.2 i=u.1.getD i 0:=by unfold loC;rw [hd1,Int.ediv_one]
      rw [this]
      have:=b i
      rw [g,zdl] at this
      rw [show u.1.getD i 0 = -(-1*u.1.getD i 0) by omega]
      exact Int.dvd_neg.2 this)
    omega
  show([loC (ngN u).1 u.2 0,loC (ngN u).1 u.2 1,loC (ngN u).1 u.2 2,loC (ngN u).1 u.2 3],loD (ngN u).1 u.2)=ngN u
  unfold loC loD
  rw [hd2]
  simp only [Int.ediv_one]
  rfl
end
end Go.Kf
end
section
open Go Go.Ev Go.RowKit
namespace Go.Proofs.YtloaeinogiplbaaGreatDoor
open Go.Proofs
set_option maxRecDepth 100000
set_option maxHeartbeats 1000000
set_option linter.unusedVariables false
set_option linter.unusedSimpArgs false
open Go.Kf
abbrev nuV (u:NZ):AV:=nuA (u.1.getD 0 0) (u.1.getD 1 0) (u.1.getD 2 0) (u.1.getD 3 0) u.2
def tkN (p:List Int) (x:numK.ty):NZ:=zdG (zaq p (p.length-1) (vlL x.1)) (zol x.2)
def tmN (p:List Int) (u v:NZ):NZ:=zdG (zaq p (p.length-1) (tmS (p.length-1) (u.1.getD 0 0) (u.1.getD 1 0) (u.1.getD 2 0) (u.1.getD 3 0) (v.1.getD 0 0) (v.1.getD 1 0) (v.1.getD 2 0) (v.1.getD 3 0))) (u.2*v.2)
def gvN (u:NZ):numK.ty:=((zaX u.1).map aZ,aZ u.2)
def zls (p:List Int):Prop:=2≤p.length∧p.length≤5∧∀x∈p,x.natAbs≤1000
def cTk (args:List AV):M AV:=match args with
  | [r,y]=>do
    let p ← zqo r
    let x ← asK numK y
    tell (pTk p x.1 x.2)
    M.pure (nuV (tkN p x))
  | _=>fail 320
def cGv (args:List AV):M AV:=match args with
  | [y]=>do
    let q ← zqn y
    match q with
    | (a,b,c,e,d)=>do
      tell (pGv a b c e d)
      M.pure (.agg [.lst (.sl (.int .i64)) (gvN ([a,b,c,e],d)).1,.sq (gvN ([a,b,c,e],d)).2])
  | _=>fail 321
def pPl (a b c e d f g h i j:Int):Prop:=pNs a b c e d∧pNs f g h i j∧0<d∧0<j
def cPl (args:List AV):M AV:=match args with
  | [y,z]=>do
    let q ← zqn y
    let q2 ← zqn z
    match q,q2 with
    | (a,b,c,e,d),(f,g,h,i,j)=>do
      tell (pPl a b c e d f g h i j)
      M.pure (nuV (plN ([a,b,c,e],d) ([f,g,h,i],j)))
  | _=>fail 322
def cTm (args:List AV):M AV:=match args with
  | [r,y,z]=>do
    let p ← zqo r
    let q ← zqn y
    let q2 ← zqn z
    match q,q2 with
    | (a,b,c,e,d),(f,g,h,i,j)=>do
      tell (zls p∧pPl a b c e d f g h i j)
      M.pure (nuV (tmN p ([a,b,c,e],d) ([f,g,h,i],j)))
  | _=>fail 323
noncomputable def ctrQ2:Ctr:=(80,cTk) :: (86,cGv) :: (92,cPl) :: (84,cTm) :: ctrQ1
theorem cTk_ok:lZ Tryz.prog 80 cTk:=by
  intro args _
  unfold cTk
  split
  · exact Spec.bind (asRL_spec.mono fun p hp=>Spec.bind (asK_spec.mono fun x hx=>Spec.bind (Spec.tell fun h=>Spec.pure' ((take_fc p x.1 x.2 h).le (.cons hp (.cons hx .nil)) (Le.refl _)))))
  · exact Spec.fail
theorem cGv_ok:lZ Tryz.prog 86 cGv:=by
  intro args _
  unfold cGv
  split
  · refine Spec.bind (asNu_spec.mono fun q hq=>?_)
    obtain ⟨a,b,c,e,d⟩:=q
    exact Spec.bind (Spec.tell fun h=>Spec.pure' ((give_fc a b c e d h).le (.cons hq .nil) (Le.refl _)))
  · exact Spec.fail
theorem plus_nz {a b c e d f g h i j:Int} (hp:pPl a b c e d f g h i j):FC Tryz.prog 92 [nuA a b c e d,nuA f g h i j] (nuV (plN ([a,b,c,e],d) ([f,g,h,i],j))):=by
  obtain ⟨hx,hy,hd,hj⟩:=hp
  have hm:0<d*j:=Int.mul_pos hd hj
  have s:∀x,sgD (d*j) x=x:=fun x=>if_neg (by omega)
  have:=znt a b c e d f g h i j hx hy
  have e1:=zc5 (a:=a*j+f*d) (b:=b*j+g*d) (c:=c*j+h*d) (e:=e*j+i*d) (d:=d*j)
  simp only [s] at e1
  rw [e1] at this
  exact this
theorem cPl_ok:lZ Tryz.prog 92 cPl:=by
  intro args _
  unfold cPl
  split
  · refine Spec.bind (asNu_spec.mono fun q hq=>Spec.bind (asNu_spec.mono fun q2 hq2=>?_))
    obtain ⟨a,b,c,e,d⟩:=q
    obtain ⟨f,g,h,i,j⟩:=q2
    exact Spec.bind (Spec.tell fun hp=>Spec.pure' ((plus_nz hp).le (.cons hq (.cons hq2 .nil)) (Le.refl _)))
  · exact Spec.fail
theorem cTm_ok:lZ Tryz.prog 84 cTm:=by
  intro args _
  unfold cTm
  split
  · refine Spec.bind (asRL_spec.mono fun p hr=>Spec.bind (asNu_spec.mono fun q hq=>Spec.bind (asNu_spec.mono fun q2 hq2=>?_)))
    obtain ⟨a,b,c,e,d⟩:=q
    obtain ⟨f,g,h,i,j⟩:=q2
    exact Spec.bind (Spec.tell fun hp=>Spec.pure' ((ntm_fc p a b c e d f g h i j hp.1.1 hp.1.2.1 hp.1.2.2 hp.2.1 hp.2.2.1).le (.cons hr (.cons hq (.cons hq2 .nil))) (Le.refl _)))
  · exact Spec.fail
theorem zkQ:∀p∈ctrQ2,lZ Tryz.prog p.1 p.2:=CAll.cons cTk_ok<|CAll.cons cGv_ok<|CAll.cons cPl_ok<|CAll.cons cTm_ok zkP
theorem okQ2:(dZ Tryz.prog ctrQ2 bw [] kdQ2).OK:=OZ zcM mixed zkQ zcF
noncomputable section
theorem oA_0 (p:List Int) (x y:numK.ty) (h1:pTk p x.fst x.snd) (h2:pTk p y.fst y.snd) (h3:pPl ((tkN p x).fst.getD 0 0) ((tkN p x).fst.getD 1 0) ((tkN p x).fst.getD 2 0) ((tkN p x).fst.getD 3 0) (tkN p x).snd ((tkN p y).fst.getD 0 0) ((tkN p y).fst.getD 1 0) ((tkN p y).fst.getD 2 0) ((tkN p y).fst.getD 3 0) (tkN p y).snd) (h4:pGv ((plN ([(tkN p x).fst.getD 0 0,(tkN p x).fst.getD 1 0,(tkN p x).fst.getD 2 0,(tkN p x).fst.getD 3 0],(tkN p x).snd) ([(tkN p y).fst.getD 0 0,(tkN p y).fst.getD 1 0,(tkN p y).fst.getD 2 0,(tkN p y).fst.getD 3 0],(tkN p y).snd)).fst.getD 0 0) ((plN ([(tkN p x).fst.getD 0 0,(tkN p x).fst.getD 1 0,(tkN p x).fst.getD 2 0,(tkN p x).fst.getD 3 0],(tkN p x).snd) ([(tkN p y).fst.getD 0 0,(tkN p y).fst.getD 1 0,(tkN p y).fst.getD 2 0,(tkN p y).fst.getD 3 0],(tkN p y).snd)).fst.getD 1 0) ((plN ([(tkN p x).fst.getD 0 0,(tkN p x).fst.getD 1 0,(tkN p x).fst.getD 2 0,(tkN p x).fst.getD 3 0],(tkN p x).snd) ([(tkN p y).fst.getD 0 0,(tkN p y).fst.getD 1 0,(tkN p y).fst.getD 2 0,(tkN p y).fst.getD 3 0],(tkN p y).snd)).fst.getD 2 0) ((plN ([(tkN p x).fst.getD 0 0,(tkN p x).fst.getD 1 0,(tkN p x).fst.getD 2 0,(tkN p x).fst.getD 3 0],(tkN p x).snd) ([(tkN p y).fst.getD 0 0,(tkN p y).fst.getD 1 0,(tkN p y).fst.getD 2 0,(tkN p y).fst.getD 3 0],(tkN p y).snd)).fst.getD 3 0) (plN ([(tkN p x).fst.getD 0 0,(tkN p x).fst.getD 1 0,(tkN p x).fst.getD 2 0,(tkN p x).fst.getD 3 0],(tkN p x).snd) ([(tkN p y).fst.getD 0 0,(tkN p y).fst.getD 1 0,(tkN p y).fst.getD 2 0,(tkN p y).fst.getD 3 0],(tkN p y).snd)).snd):FC Tryz.prog 24 [reA (.lst .whole p),numK.val x,numK.val y] (.agg [.lst (EK.sl (.int .i64)) (gvN ([(plN ([(tkN p x).fst.getD 0 0,(tkN p x).fst.getD 1 0,(tkN p x).fst.getD 2 0,(tkN p x).fst.getD 3 0],(tkN p x).snd) ([(tkN p y).fst.getD 0 0,(tkN p y).fst.getD 1 0,(tkN p y).fst.getD 2 0,(tkN p y).fst.getD 3 0],(tkN p y).snd)).fst.getD 0 0,(plN ([(tkN p x).fst.getD 0 0,(tkN p x).fst.getD 1 0,(tkN p x).fst.getD 2 0,(tkN p x).fst.getD 3 0],(tkN p x).snd) ([(tkN p y).fst.getD 0 0,(tkN p y).fst.getD 1 0,(tkN p y).fst.getD 2 0,(tkN p y).fst.getD 3 0],(tkN p y).snd)).fst.getD 1 0,(plN ([(tkN p x).fst.getD 0 0,(tkN p x).fst.getD 1 0,(tkN p x).fst.getD 2 0,(tkN p x).fst.getD 3 0],(tkN p x).snd) ([(tkN p y).fst.getD 0 0,(tkN p y).fst.getD 1 0,(tkN p y).fst.getD 2 0,(tkN p y).fst.getD 3 0],(tkN p y).snd)).fst.getD 2 0,(plN ([(tkN p x).fst.getD 0 0,(tkN p x).fst.getD 1 0,(tkN p x).fst.getD 2 0,(tkN p x).fst.getD 3 0],(tkN p x).snd) ([(tkN p y).fst.getD 0 0,(tkN p y).fst.getD 1 0,(tkN p y).fst.getD 2 0,(tkN p y).fst.getD 3 0],(tkN p y).snd)).fst.getD 3 0],(plN ([(tkN p x).fst.getD 0 0,(tkN p x).fst.getD 1 0,(tkN p x).fst.getD 2 0,(tkN p x).fst.getD 3 0],(tkN p x).snd) ([(tkN p y).fst.getD 0 0,(tkN p y).fst.getD 1 0,(tkN p y).fst.getD 2 0,(tkN p y).fst.getD 3 0],(tkN p y).snd)).snd)).fst,.sq (gvN ([(plN ([(tkN p x).fst.getD 0 0,(tkN p x).fst.getD 1 0,(tkN p x).fst.getD 2 0,(tkN p x).fst.getD 3 0],(tkN p x).snd) ([(tkN p y).fst.getD 0 0,(tkN p y).fst.getD 1 0,(tkN p y).fst.getD 2 0,(tkN p y).fst.getD 3 0],(tkN p y).snd)).fst.getD 0 0,(plN ([(tkN p x).fst.getD 0 0,(tkN p x).fst.getD 1 0,(tkN p x).fst.getD 2 0,(tkN p x).fst.getD 3 0],(tkN p x).snd) ([(tkN p y).fst.getD 0 0,(tkN p y).fst.getD 1 0,(tkN p y).fst.getD 2 0,(tkN p y).fst.getD 3 0],(tkN p y).snd)).fst.getD 1 0,(plN ([(tkN p x).fst.getD 0 0,(tkN p x).fst.getD 1 0,(tkN p x).fst.getD 2 0,(tkN p x).fst.getD 3 0],(tkN p x).snd) ([(tkN p y).fst.getD 0 0,(tkN p y).fst.getD 1 0,(tkN p y).fst.getD 2 0,(tkN p y).fst.getD 3 0],(tkN p y).snd)).fst.getD 2 0,(plN ([(tkN p x).fst.getD 0 0,(tkN p x).fst.getD 1 0,(tkN p x).fst.getD 2 0,(tkN p x).fst.getD 3 0],(tkN p x).snd) ([(tkN p y).fst.getD 0 0,(tkN p y).fst.getD 1 0,(tkN p y).fst.getD 2 0,(tkN p y).fst.getD 3 0],(tkN p y).snd)).fst.getD 3 0],(plN ([(tkN p x).fst.getD 0 0,(tkN p x).fst.getD 1 0,(tkN p x).fst.getD 2 0,(tkN p x).fst.getD 3 0],(tkN p x).snd) ([(tkN p y).fst.getD 0 0,(tkN p y).fst.getD 1 0,(tkN p y).fst.getD 2 0,(tkN p y).fst.getD 3 0],(tkN p y).snd)).snd)).snd]):=fZ okQ2 60 [] (.c h1<|.c h2<|.c h3<|.c h4<|.e) [1,2,0,0,0,0,0,0,0,0,0,0,3,0,0,0,0,0,4]
theorem oS_0 (p:List Int) (x y:numK.ty) (h1:pTk p x.fst x.snd) (h2:pTk p y.fst y.snd) (h3:pPl ((tkN p x).fst.getD 0 0) ((tkN p x).fst.getD 1 0) ((tkN p x).fst.getD 2 0) ((tkN p x).fst.getD 3 0) (tkN p x).snd (-(tkN p y).fst.getD 0 0) (-(tkN p y).fst.getD 1 0) (-(tkN p y).fst.getD 2 0) (-(tkN p y).fst.getD 3 0) (tkN p y).snd) (h4:pGv ((plN ([(tkN p x).fst.getD 0 0,(tkN p x).fst.getD 1 0,(tkN p x).fst.getD 2 0,(tkN p x).fst.getD 3 0],(tkN p x).snd) ([-(tkN p y).fst.getD 0 0,-(tkN p y).fst.getD 1 0,-(tkN p y).fst.getD 2 0,-(tkN p y).fst.getD 3 0],(tkN p y).snd)).fst.getD 0 0) ((plN ([(tkN p x).fst.getD 0 0,(tkN p x).fst.getD 1 0,(tkN p x).fst.getD 2 0,(tkN p x).fst.getD 3 0],(tkN p x).snd) ([-(tkN p y).fst.getD 0 0,-(tkN p y).fst.getD 1 0,-(tkN p y).fst.getD 2 0,-(tkN p y).fst.getD 3 0],(tkN p y).snd)).fst.getD 1 0) ((plN ([(tkN p x).fst.getD 0 0,(tkN p x).fst.getD 1 0,(tkN p x).fst.getD 2 0,(tkN p x).fst.getD 3 0],(tkN p x).snd) ([-(tkN p y).fst.getD 0 0,-(tkN p y).fst.getD 1 0,-(tkN p y).fst.getD 2 0,-(tkN p y).fst.getD 3 0],(tkN p y).snd)).fst.getD 2 0) ((plN ([(tkN p x).fst.getD 0 0,(tkN p x).fst.getD 1 0,(tkN p x).fst.getD 2 0,(tkN p x).fst.getD 3 0],(tkN p x).snd) ([-(tkN p y).fst.getD 0 0,-(tkN p y).fst.getD 1 0,-(tkN p y).fst.getD 2 0,-(tkN p y).fst.getD 3 0],(tkN p y).snd)).fst.getD 3 0) (plN ([(tkN p x).fst.getD 0 0,(tkN p x).fst.getD 1 0,(tkN p x).fst.getD 2 0,(tkN p x).fst.getD 3 0],(tkN p x).snd) ([-(tkN p y).fst.getD 0 0,-(tkN p y).fst.getD 1 0,-(tkN p y).fst.getD 2 0,-(tkN p y).fst.getD 3 0],(tkN p y).snd)).snd):FC Tryz.prog 26 [reA (.lst .whole p),numK.val x,numK.val y] (.agg [.lst (EK.sl (.int .i64)) (gvN ([(plN ([(tkN p x).fst.getD 0 0,(tkN p x).fst.getD 1 0,(tkN p x).fst.getD 2 0,(tkN p x).fst.getD 3 0],(tkN p x).snd) ([-(tkN p y).fst.getD 0 0,-(tkN p y).fst.getD 1 0,-(tkN p y).fst.getD 2 0,-(tkN p y).fst.getD 3 0],(tkN p y).snd)).fst.getD 0 0,(plN ([(tkN p x).fst.getD 0 0,(tkN p x).fst.getD 1 0,(tkN p x).fst.getD 2 0,(tkN p x).fst.getD 3 0],(tkN p x).snd) ([-(tkN p y).fst.getD 0 0,-(tkN p y).fst.getD 1 0,-(tkN p y).fst.getD 2 0,-(tkN p y).fst.getD 3 0],(tkN p y).snd)).fst.getD 1 0,(plN ([(tkN p x).fst.getD 0 0,(tkN p x).fst.getD 1 0,(tkN p x).fst.getD 2 0,(tkN p x).fst.getD 3 0],(tkN p x).snd) ([-(tkN p y).fst.getD 0 0,-(tkN p y).fst.getD 1 0,-(tkN p y).fst.getD 2 0,-(tkN p y).fst.getD 3 0],(tkN p y).snd)).fst.getD 2 0,(plN ([(tkN p x).fst.getD 0 0,(tkN p x).fst.getD 1 0,(tkN p x).fst.getD 2 0,(tkN p x).fst.getD 3 0],(tkN p x).snd) ([-(tkN p y).fst.getD 0 0,-(tkN p y).fst.getD 1 0,-(tkN p y).fst.getD 2 0,-(tkN p y).fst.getD 3 0],(tkN p y).snd)).fst.getD 3 0],(plN ([(tkN p x).fst.getD 0 0,(tkN p x).fst.getD 1 0,(tkN p x).fst.getD 2 0,(tkN p x).fst.getD 3 0],(tkN p x).snd) ([-(tkN p y).fst.getD 0 0,-(tkN p y).fst.getD 1 0,-(tkN p y).fst.getD 2 0,-(tkN p y).fst.getD 3 0],(tkN p y).snd)).snd)).fst,.sq (gvN ([(plN ([(tkN p x).fst.getD 0 0,(tkN p x).fst.getD 1 0,(tkN p x).fst.getD 2 0,(tkN p x).fst.getD 3 0],(tkN p x).snd) ([-(tkN p y).fst.getD 0 0,-(tkN p y).fst.getD 1 0,-(tkN p y).fst.getD 2 0,-(tkN p y).fst.getD 3 0],(tkN p y).snd)).fst.getD 0 0,(plN ([(tkN p x).fst.getD 0 0,(tkN p x).fst.getD 1 0,(tkN p x).fst.getD 2 0,(tkN p x).fst.getD 3 0],(tkN p x).snd) ([-(tkN p y).fst.getD 0 0,-(tkN p y).fst.getD 1 0,-(tkN p y).fst.getD 2 0,-(tkN p y).fst.getD 3 0],(tkN p y).snd)).fst.getD 1 0,(plN ([(tkN p x).fst.getD 0 0,(tkN p x).fst.getD 1 0,(tkN p x).fst.getD 2 0,(tkN p x).fst.getD 3 0],(tkN p x).snd) ([-(tkN p y).fst.getD 0 0,-(tkN p y).fst.getD 1 0,-(tkN p y).fst.getD 2 0,-(tkN p y).fst.getD 3 0],(tkN p y).snd)).fst.getD 2 0,(plN ([(tkN p x).fst.getD 0 0,(tkN p x).fst.getD 1 0,(tkN p x).fst.getD 2 0,(tkN p x).fst.getD 3 0],(tkN p x).snd) ([-(tkN p y).fst.getD 0 0,-(tkN p y).fst.getD 1 0,-(tkN p y).fst.getD 2 0,-(tkN p y).fst.getD 3 0],(tkN p y).snd)).fst.getD 3 0],(plN ([(tkN p x).fst.getD 0 0,(tkN p x).fst.getD 1 0,(tkN p x).fst.getD 2 0,(tkN p x).fst.getD 3 0],(tkN p x).snd) ([-(tkN p y).fst.getD 0 0,-(tkN p y).fst.getD 1 0,-(tkN p y).fst.getD 2 0,-(tkN p y).fst.getD 3 0],(tkN p y).snd)).snd)).snd]):=fZ okQ2 60 [] (.c h1<|.c h2<|.c h3<|.c h4<|.o<|.e) [1,2,0,0,0,0,0,0,0,0,0,0,0,0,0,0,0,0,0,0,0,0,0,0,0,0,0,0,0,0,0,0,0,0,0,0,0,0,0,0,3,0,0,0,0,0,4]
theorem oM_0 (p:List Int) (x y:numK.ty) (h1:pTk p x.fst x.snd) (h2:pTk p y.fst y.snd) (h3:zls p∧pPl ((tkN p x).fst.getD 0 0) ((tkN p x).fst.getD 1 0) ((tkN p x).fst.getD 2 0) ((tkN p x).fst.getD 3 0) (tkN p x).snd ((tkN p y).fst.getD 0 0) ((tkN p y).fst.getD 1 0) ((tkN p y).fst.getD 2 0) ((tkN p y).fst.getD 3 0) (tkN p y).snd) (h4:pGv ((tmN p ([(tkN p x).fst.getD 0 0,(tkN p x).fst.getD 1 0,(tkN p x).fst.getD 2 0,(tkN p x).fst.getD 3 0],(tkN p x).snd) ([(tkN p y).fst.getD 0 0,(tkN p y).fst.getD 1 0,(tkN p y).fst.getD 2 0,(tkN p y).fst.getD 3 0],(tkN p y).snd)).fst.getD 0 0) ((tmN p ([(tkN p x).fst.getD 0 0,(tkN p x).fst.getD 1 0,(tkN p x).fst.getD 2 0,(tkN p x).fst.getD 3 0],(tkN p x).snd) ([(tkN p y).fst.getD 0 0,(tkN p y).fst.getD 1 0,(tkN p y).fst.getD 2 0,(tkN p y).fst.getD 3 0],(tkN p y).snd)).fst.getD 1 0) ((tmN p ([(tkN p x).fst.getD 0 0,(tkN p x).fst.getD 1 0,(tkN p x).fst.getD 2 0,(tkN p x).fst.getD 3 0],(tkN p x).snd) ([(tkN p y).fst.getD 0 0,(tkN p y).fst.getD 1 0,(tkN p y).fst.getD 2 0,(tkN p y).fst.getD 3 0],(tkN p y).snd)).fst.getD 2 0) ((tmN p ([(tkN p x).fst.getD 0 0,(tkN p x).fst.getD 1 0,(tkN p x).fst.getD 2 0,(tkN p x).fst.getD 3 0],(tkN p x).snd) ([(tkN p y).fst.getD 0 0,(tkN p y).fst.getD 1 0,(tkN p y).fst.getD 2 0,(tkN p y).fst.getD 3 0],(tkN p y).snd)).fst.getD 3 0) (tmN p ([(tkN p x).fst.getD 0 0,(tkN p x).fst.getD 1 0,(tkN p x).fst.getD 2 0,(tkN p x).fst.getD 3 0],(tkN p x).snd) ([(tkN p y).fst.getD 0 0,(tkN p y).fst.getD 1 0,(tkN p y).fst.getD 2 0,(tkN p y).fst.getD 3 0],(tkN p y).snd)).snd):FC Tryz.prog 28 [reA (.lst .whole p),numK.val x,numK.val y] (.agg [.lst (EK.sl (.int .i64)) (gvN ([(tmN p ([(tkN p x).fst.getD 0 0,(tkN p x).fst.getD 1 0,(tkN p x).fst.getD 2 0,(tkN p x).fst.getD 3 0],(tkN p x).snd) ([(tkN p y).fst.getD 0 0,(tkN p y).fst.getD 1 0,(tkN p y).fst.getD 2 0,(tkN p y).fst.getD 3 0],(tkN p y).snd)).fst.getD 0 0,(tmN p ([(tkN p x).fst.getD 0 0,(tkN p x).fst.getD 1 0,(tkN p x).fst.getD 2 0,(tkN p x).fst.getD 3 0],(tkN p x).snd) ([(tkN p y).fst.getD 0 0,(tkN p y).fst.getD 1 0,(tkN p y).fst.getD 2 0,(tkN p y).fst.getD 3 0],(tkN p y).snd)).fst.getD 1 0,(tmN p ([(tkN p x).fst.getD 0 0,(tkN p x).fst.getD 1 0,(tkN p x).fst.getD 2 0,(tkN p x).fst.getD 3 0],(tkN p x).snd) ([(tkN p y).fst.getD 0 0,(tkN p y).fst.getD 1 0,(tkN p y).fst.getD 2 0,(tkN p y).fst.getD 3 0],(tkN p y).snd)).fst.getD 2 0,(tmN p ([(tkN p x).fst.getD 0 0,(tkN p x).fst.getD 1 0,(tkN p x).fst.getD 2 0,(tkN p x).fst.getD 3 0],(tkN p x).snd) ([(tkN p y).fst.getD 0 0,(tkN p y).fst.getD 1 0,(tkN p y).fst.getD 2 0,(tkN p y).fst.getD 3 0],(tkN p y).snd)).fst.getD 3 0],(tmN p ([(tkN p x).fst.getD 0 0,(tkN p x).fst.getD 1 0,(tkN p x).fst.getD 2 0,(tkN p x).fst.getD 3 0],(tkN p x).snd) ([(tkN p y).fst.getD 0 0,(tkN p y).fst.getD 1 0,(tkN p y).fst.getD 2 0,(tkN p y).fst.getD 3 0],(tkN p y).snd)).snd)).fst,.sq (gvN ([(tmN p ([(tkN p x).fst.getD 0 0,(tkN p x).fst.getD 1 0,(tkN p x).fst.getD 2 0,(tkN p x).fst.getD 3 0],(tkN p x).snd) ([(tkN p y).fst.getD 0 0,(tkN p y).fst.getD 1 0,(tkN p y).fst.getD 2 0,(tkN p y).fst.getD 3 0],(tkN p y).snd)).fst.getD 0 0,(tmN p ([(tkN p x).fst.getD 0 0,(tkN p x).fst.getD 1 0,(tkN p x).fst.getD 2 0,(tkN p x).fst.getD 3 0],(tkN p x).snd) ([(tkN p y).fst.getD 0 0,(tkN p y).fst.getD 1 0,(tkN p y).fst.getD 2 0,(tkN p y).fst.getD 3 0],(tkN p y).snd)).fst.getD 1 0,(tmN p ([(tkN p x).fst.getD 0 0,(tkN p x).fst.getD 1 0,(tkN p x).fst.getD 2 0,(tkN p x).fst.getD 3 0],(tkN p x).snd) ([(tkN p y).fst.getD 0 0,(tkN p y).fst.getD 1 0,(tkN p y).fst.getD 2 0,(tkN p y).fst.getD 3 0],(tkN p y).snd)).fst.getD 2 0,(tmN p ([(tkN p x).fst.getD 0 0,(tkN p x).fst.getD 1 0,(tkN p x).fst.getD 2 0,(tkN p x).fst.getD 3 0],(tkN p x).snd) ([(tkN p y).fst.getD 0 0,(tkN p y).fst.getD 1 0,(tkN p y).fst.getD 2 0,(tkN p y).fst.getD 3 0],(tkN p y).snd)).fst.getD 3 0],(tmN p ([(tkN p x).fst.getD 0 0,(tkN p x).fst.getD 1 0,(tkN p x).fst.getD 2 0,(tkN p x).fst.getD 3 0],(tkN p x).snd) ([(tkN p y).fst.getD 0 0,(tkN p y).fst.getD 1 0,(tkN p y).fst.getD 2 0,(tkN p y).fst.getD 3 0],(tkN p y).snd)).snd)).snd]):=fZ okQ2 60 [] (.c h1<|.c h2<|.c h3<|.c h4<|.e) [1,2,0,0,0,0,0,0,0,0,0,0,3,0,0,0,0,0,4]
end
def pPlN (u v:NZ):Prop:=pPl (u.1.getD 0 0) (u.1.getD 1 0) (u.1.getD 2 0) (u.1.getD 3 0) u.2 (v.1.getD 0 0) (v.1.getD 1 0) (v.1.getD 2 0) (v.1.getD 3 0) v.2
def pGvN (u:NZ):Prop:=pGv (u.1.getD 0 0) (u.1.getD 1 0) (u.1.getD 2 0) (u.1.getD 3 0) u.2
theorem RAdd_fc (p:List Int) (x y:numK.ty) (hx:pTk p x.1 x.2) (hy:pTk p y.1 y.2) (h:pPlN (tkN p x) (tkN p y)) (hg:pGvN (plN (tkN p x) (tkN p y))):FC Tryz.prog 24 [reA (.lst .whole p),numK.val x,numK.val y] (numK.val (gvN (plN (tkN p x) (tkN p y)))):=oA_0 p x y hx hy h hg
theorem RSub_fc (p:List Int) (x y:numK.ty) (hx:pTk p x.1 x.2) (hy:pTk p y.1 y.2) (h:pPlN (tkN p x) (ngN (tkN p y))) (hg:pGvN (plN (tkN p x) (ngN (tkN p y)))):FC Tryz.prog 26 [reA (.lst .whole p),numK.val x,numK.val y] (numK.val (gvN (plN (tkN p x) (ngN (tkN p y))))):=oS_0 p x y hx hy h hg
theorem RMul_fc (p:List Int) (x y:numK.ty) (hx:pTk p x.1 x.2) (hy:pTk p y.1 y.2) (hp:zls p) (h:pPlN (tkN p x) (tkN p y)) (hg:pGvN (tmN p (tkN p x) (tkN p y))):FC Tryz.prog 28 [reA (.lst .whole p),numK.val x,numK.val y] (numK.val (gvN (tmN p (tkN p x) (tkN p y)))):=oM_0 p x y hx hy ⟨hp,h⟩ hg
end Go.Proofs.YtloaeinogiplbaaGreatDoor
end
section
open Go Go.Ev Go.RowKit
namespace Go.Proofs.YtloaeinogiplbaaGreatDoor
open Go.Proofs
set_option maxRecDepth 100000
set_option maxHeartbeats 1000000
set_option linter.unusedVariables false
set_option linter.unusedSimpArgs false
noncomputable section
end
open Go.Kf
abbrev qO (p:List Int):List Int:=p.take (p.length-1)
theorem ziV {p:List Int} (h:zls p):(qO p).length=p.length-1:=by rw [List.length_take];omega
theorem qO_4 {p:List Int} (h:zls p):(qO p).length≤4:=by rw [ziV h];have:=h.2.1;omega
theorem qO_1 {p:List Int} (h:zls p):1≤(qO p).length:=by rw [ziV h];have:=h.1;omega
theorem pPol_sz {p:List Int} (h:zls p) (j:Nat):Sz 1 (p.getD j 0):=by
  by_cases hj:j<p.length
  · have:=h.2.2 (p.getD j 0) (by rw [List.getD_eq_getElem?_getD,List.getElem?_eq_getElem hj];exact List.getElem_mem hj)
    exact Sz.lit (by omega) (by decide)
  · rw [List.getD_eq_getElem?_getD,List.getElem?_eq_none (by omega)];exact Sz.zero
def Bd (m:Nat) (u:NZ):Prop:=Sz m u.2∧∀i,Sz m (u.1.getD i 0)
theorem Bd.mono {m k:Nat} {u:NZ} (h:Bd m u) (hk:m≤k):Bd k u:=⟨h.1.mono hk,fun i=>(h.2 i).mono hk⟩
theorem zlx {m:Nat} {a b c:Int} (h:a*b=c) (hb:b≠0) (hc:Sz m c):Sz m a:=by
  refine Sz.le hc ?_
  rw [← h,Int.natAbs_mul]
  exact Nat.le_mul_of_pos_right _ (by omega)
theorem low_bd {m:Nat} {c:List Int} {d:Int} (hd:d≠0) (hD:Sz m d) (hc:∀i,Sz m (c.getD i 0)):Bd m (zdG c d):=by
  have hz:=ziI (c:=c) hd
  refine ⟨zlx (zbC c d) hz hD,fun i=>?_⟩
  match i with
  | 0=>exact zlx (zbB c d 0) hz (hc 0)
  | 1=>exact zlx (zbB c d 1) hz (hc 1)
  | 2=>exact zlx (zbB c d 2) hz (hc 2)
  | 3=>exact zlx (zbB c d 3) hz (hc 3)
  | k+4=>exact Sz.zero
theorem pl_bd {m k:Nat} {u v:NZ} (hu:Bd m u) (hv:Bd k v) (h1:0<u.2) (h2:0<v.2):Bd (m+k+1) (plN u v):=by
  have hd:=Int.mul_pos h1 h2
  have s:∀i,Sz (m+k+1) (u.1.getD i 0*v.2+v.1.getD i 0*u.2):=fun i=>Sz.add ((hu.2 i).mul hv.1) ((hv.2 i).mul hu.1) (by omega) (by omega)
  refine low_bd (by omega) ((hu.1.mul hv.1).mono (by omega)) fun i=>?_
  match i with
  | 0=>exact s 0
  | 1=>exact s 1
  | 2=>exact s 2
  | 3=>exact s 3
  | k+4=>exact Sz.zero
theorem ng_bd {m:Nat} {u:NZ} (hu:Bd m u):Bd m (ngN u):=by
  refine ⟨hu.1,fun i=>?_⟩
  match i with
  | 0=>exact(hu.2 0).neg
  | 1=>exact(hu.2 1).neg
  | 2=>exact(hu.2 2).neg
  | 3=>exact(hu.2 3).neg
  | k+4=>exact Sz.zero
theorem redP_sz {p c:List Int} {n A:Nat} (hp:∀j,Sz 1 (p.getD j 0)) (hc:∀j,Sz A (c.getD j 0)) (j:Nat):Sz (A+2*(c.length-n)) ((zaq p n c).getD j 0):=by
  unfold zaq
  rw [zby]
  by_cases h:n≤c.length
  · split
    · exact zhA hp hc _ (by omega) j
    · exact Sz.zero
  · rw [show c.length-n=0 by omega]
    split
    · exact(hc j).mono (by omega)
    · exact Sz.zero
theorem znG {p c:List Int} {d:Int} (h:zls p):val (qO p) (zaq p (p.length-1) c) d=val (qO p) c d:=by
  unfold val
  have:=redP_ev (q:=p) (c:=c) (n:=p.length-1) (by have:=h.1;omega) (by omega)
  rw [ziV h,this]
theorem zj4 {p c:List Int} (h:zls p):zn4 (qO p) (zaq p (p.length-1) c):=by
  refine shrt_of ?_
  have:=zff p (p.length-1) c
  rw [ziV h];exact this
theorem tms_get {n:Nat} {a b c e f g h i:Int} (h1:1≤n) (h4:n≤4) (hx:∀j,n≤j→[a,b,c,e].getD j 0=0) (hy:∀j,n≤j→[f,g,h,i].getD j 0=0) (j:Nat):(tmS n a b c e f g h i).getD j 0=(cvZ [a,b,c,e] [f,g,h,i]).getD j 0:=by
  have x3:=hx 3;have x2:=hx 2;have x1:=hx 1
  have y3:=hy 3;have y2:=hy 2;have y1:=hy 1
  simp only [List.getD_cons_succ,List.getD_cons_zero] at x1 x2 x3 y1 y2 y3
  obtain rfl | rfl | rfl | rfl:n=1∨n=2∨n=3∨n=4:=by omega
  · have:=x1 (by omega);have:=x2 (by omega);have:=x3 (by omega);have:=y1 (by omega);have:=y2 (by omega);have:=y3 (by omega)
    subst_vars
    rcases j with _|_|_|_|_|_|_|j<;>simp [tmS,cvZ,zmQ,smZ]
  · have:=x2 (by omega);have:=x3 (by omega);have:=y2 (by omega);have:=y3 (by omega)
    subst_vars
    rcases j with _|_|_|_|_|_|_|j<;>simp [tmS,cvZ,zmQ,smZ]
  · have:=x3 (by omega);have:=y3 (by omega)
    subst_vars
    rcases j with _|_|_|_|_|_|_|j<;>simp [tmS,cvZ,zmQ,smZ]<;>try omega
  · rcases j with _|_|_|_|_|_|_|j<;>simp [tmS,cvZ,zmQ,smZ]<;>try omega
theorem tms_len {n:Nat} (h1:1≤n) (h4:n≤4) (a b c e f g h i:Int):(tmS n a b c e f g h i).length-n≤3:=by
  obtain rfl | rfl | rfl | rfl:n=1∨n=2∨n=3∨n=4:=by omega
  all_goals (simp [tmS])
theorem cv_sz {m k:Nat} {a b c e f g h i:Int} (ha:Sz m a) (hb:Sz m b) (hc:Sz m c) (he:Sz m e) (hf:Sz k f) (hg:Sz k g) (hh:Sz k h) (hi:Sz k i) {n:Nat} (h1:1≤n) (h4:n≤4) (j:Nat):Sz (m+k+4) ((tmS n a b c e f g h i).getD j 0):=by
  have z:∀ {k:Nat},Sz k 0:=Sz.zero
  have A:∀ {r:Nat} {x y:Int},Sz (m+k+r) x→Sz (m+k) y→Sz (m+k+(r+1)) (x+y):=fun hx hy=>hx.add hy (by omega) (by omega)
  have M:∀ {r:Nat} {x:Int},Sz (m+k+r) x→r≤4→Sz (m+k+4) x:=fun h hr=>h.mono (by omega)
  obtain rfl | rfl | rfl | rfl:n=1∨n=2∨n=3∨n=4:=by omega
  · rcases j with _|j
    · exact M (A (r:=0) z (ha.mul hf)) (by omega)
    · exact z
  · rcases j with _|_|_|j
    · exact M (A (r:=0) z (ha.mul hf)) (by omega)
    · exact M (A (A (r:=0) z (ha.mul hg)) (hb.mul hf)) (by omega)
    · exact M (A (r:=0) z (hb.mul hg)) (by omega)
    · exact z
  · rcases j with _|_|_|_|_|j
    · exact M (A (r:=0) z (ha.mul hf)) (by omega)
    · exact M (A (A (r:=0) z (ha.mul hg)) (hb.mul hf)) (by omega)
    · exact M (A (A (A (r:=0) z (ha.mul hh)) (hb.mul hg)) (hc.mul hf)) (by omega)
    · exact M (A (A (r:=0) z (hb.mul hh)) (hc.mul hg)) (by omega)
    · exact M (A (r:=0) z (hc.mul hh)) (by omega)
    · exact z
  · rcases j with _|_|_|_|_|_|_|j
    · exact M (A (r:=0) z (ha.mul hf)) (by omega)
    · exact M (A (A (r:=0) z (ha.mul hg)) (hb.mul hf)) (by omega)
    · exact M (A (A (A (r:=0) z (ha.mul hh)) (hb.mul hg)) (hc.mul hf)) (by omega)
    · exact M (A (A (A (A (r:=0) z (ha.mul hi)) (hb.mul hh)) (hc.mul hg)) (he.mul hf)) (by omega)
    · exact M (A (A (A (r:=0) z (hb.mul hi)) (hc.mul hh)) (he.mul hg)) (by omega)
    · exact M (A (A (r:=0) z (hc.mul hi)) (he.mul hh)) (by omega)
    · exact M (A (r:=0) z (he.mul hi)) (by omega)
    · exact z
theorem tm_ok {p:List Int} (h:zls p) {u v:NZ} (hu:Nrm (qO p) u) (hv:Nrm (qO p) v) {m k:Nat} (bu:Bd m u) (bv:Bd k v):Nrm (qO p) (tmN p u v)∧nv (qO p) (tmN p u v)=Go.Kf.mul (qO p).length (pV (qO p)) (nv (qO p) u) (nv (qO p) v)∧Bd (m+k+10) (tmN p u v):=by
  have h4:=qO_4 h
  have h1:=qO_1 h
  have hl:=ziV h
  have hn1:1≤p.length-1:=by omega
  have hn4:p.length-1≤4:=by omega
  have hd:=Int.mul_pos hu.pos hv.pos
  have hd0:u.2*v.2≠0:=by omega
  obtain ⟨x,d⟩:=u
  obtain ⟨y,j⟩:=v
  have ex:[x.getD 0 0,x.getD 1 0,x.getD 2 0,x.getD 3 0]=x:=by
    have:=congrArg Prod.fst hu.low
    simp only [zdG] at this
    rw [← this];rfl
  have ey:[y.getD 0 0,y.getD 1 0,y.getD 2 0,y.getD 3 0]=y:=by
    have:=congrArg Prod.fst hv.low
    simp only [zdG] at this
    rw [← this];rfl
  have hg:=tms_get (n:=p.length-1) (a:=x.getD 0 0) (b:=x.getD 1 0) (c:=x.getD 2 0) (e:=x.getD 3 0) (f:=y.getD 0 0) (g:=y.getD 1 0) (h:=y.getD 2 0) (i:=y.getD 3 0) hn1 hn4 (by rw [ex];intro i hi;exact hu.sh i (by omega)) (by rw [ey];intro i hi;exact hv.sh i (by omega))
  rw [ex,ey] at hg
  refine ⟨zjC h4 hd0 (zj4 h),?_,?_⟩
  · show nv (qO p) (zdG _ _)=_
    rw [zjD h4 hd0 (zj4 h),znG h,zkj hg]
    have p1:=hu.pos
    have p2:=hv.pos
    exact val_mul h1 (by simp only at p1;omega) (by simp only at p2;omega)
  · refine low_bd hd0 ((bu.1.mul bv.1).mono (by omega)) fun i=>?_
    have hs:∀j,Sz (m+k+4) ((tmS (p.length-1) (x.getD 0 0) (x.getD 1 0) (x.getD 2 0) (x.getD 3 0) (y.getD 0 0) (y.getD 1 0) (y.getD 2 0) (y.getD 3 0)).getD j 0):=cv_sz (bu.2 0) (bu.2 1) (bu.2 2) (bu.2 3) (bv.2 0) (bv.2 1) (bv.2 2) (bv.2 3) hn1 hn4
    have hL:=tms_len hn1 hn4 (x.getD 0 0) (x.getD 1 0) (x.getD 2 0) (x.getD 3 0) (y.getD 0 0) (y.getD 1 0) (y.getD 2 0) (y.getD 3 0)
    exact(redP_sz (pPol_sz h) hs i).mono (by omega)
theorem tk_ok {p:List Int} {x:numK.ty} {A:Nat} (h:pTk p x.1 x.2) (h0:1≤A) (hc:∀l∈x.1,Sz A (vl l)) (hD:Sz A (vl x.2)):Nrm (qO p) (tkN p x)∧nv (qO p) (tkN p x)=val (qO p) (vlL x.1) (zol x.2)∧Bd (A+2*x.1.length) (tkN p x):=by
  have hP:zls p:=h.1
  have h4:=qO_4 hP
  have hd0:=denZ_ne x.2
  have hz:∀j,Sz A ((vlL x.1).getD j 0):=fun j=>by
    by_cases hj:j<(vlL x.1).length
    · rw [List.getD_eq_getElem?_getD,List.getElem?_eq_getElem hj]
      obtain ⟨l,hl,e⟩:=List.mem_map.1 (List.getElem_mem hj)
      show Sz A _
      rw [Option.getD_some]
      have:=hc l hl
      rwa [e] at this
    · rw [List.getD_eq_getElem?_getD,List.getElem?_eq_none (by omega)];exact Sz.zero
  refine ⟨zjC h4 hd0 (zj4 hP),?_,?_⟩
  · show nv (qO p) (zdG _ _)=_
    rw [zjD h4 hd0 (zj4 hP),znG hP]
  · refine low_bd hd0 ?_ fun i=>?_
    · unfold zol
      split
      · exact Sz.lit (by decide) (by omega)
      · exact hD.mono (by omega)
    · have:=redP_sz (p:=p) (n:=p.length-1) (pPol_sz hP) hz i
      rw [zkk] at this
      exact this.mono (by omega)
theorem tk_gv {p:List Int} (h:zls p) {u:NZ} (hu:Nrm (qO p) u):tkN p (gvN u)=u:=by
  have hp:=hu.pos
  have hl:=ziV h
  have e1:vlL (gvN u).1=zaX u.1:=by
    show((zaX u.1).map aZ).map vl=_
    rw [List.map_map]
    conv=>rhs;rw [← List.map_id (zaX u.1)]
    exact List.map_congr_left fun z _=>cZ z
  have e2:zol (gvN u).2=u.2:=by
    show zol (aZ u.2)=_
    unfold zol
    rw [cZ,if_neg (by omega)]
  have hlen:(zaX u.1).length≤p.length-1:=by
    rcases zf2 u.1 with h0 | h0
    · rw [h0];exact Nat.zero_le _
    · apply Nat.le_of_not_lt
      intro hlt
      apply h0
      rw [List.getLastD_eq_getLast?,List.getLast?_eq_getElem?]
      have:=zbZ u.1 ((zaX u.1).length-1)
      rw [hu.sh _ (by omega),List.getD_eq_getElem?_getD] at this
      exact this
  have e3:zaq p (p.length-1) (zaX u.1)=zaX u.1:=by
    unfold zaq
    rw [show(zaX u.1).length-(p.length-1)=0 by omega]
    exact List.take_of_length_le hlen
  show zdG _ _=_
  rw [e1,e2,e3,low_get (by omega) (zbZ u.1)]
  exact hu.low
noncomputable section
end
open Go.Kf
instance tstRdc {p c:List Int} {d:Int}:Tst (zmC p c d):=
  have:Tst (∀j,Sz 20000 (c.getD j 0)):=⟨Tst.b (SzL 20000 c),fun h=>szLg (Tst.ok h)⟩
  inferInstanceAs (Tst ((2≤p.length∧p.length≤5∧∀x∈p,x.natAbs≤1000)∧c≠[]∧c.length≤100∧(∀j,Sz 20000 (c.getD j 0))∧d≠0∧Sz 20000 d))
def cRdK (args:List AV):M AV:=match args with
  | [x,c,y]=>do
    let p ← zqo x
    let l ← asWL c
    let d ← asW y
    tellD (zmC p l d) (Tst.b (zmC p l d))
    gives (nuF (zaq p (p.length-1) l) d)
  | _=>fail 312
theorem cRdK_ok:lZ Tryz.prog 134 cRdK:=by
  intro args _
  unfold cRdK
  split
  · exact Spec.bind (asRL_spec.mono fun p hp=>Spec.bind (asWL_spec.mono fun l hl=>Spec.bind (asW_spec.mono fun d hd=>Spec.bind (Spec.tellD Tst.ok fun h=>Spec.gives ((zhM p l d h).le (.cons hp (.cons hl (.cons hd .nil))) (Le.refl _))))))
  · exact Spec.fail
def pTmK (p:List Int):Prop:=2≤p.length∧p.length≤5∧∀x∈p,x.natAbs≤1000
instance tstTmK {p:List Int}:Tst (pTmK p):=inferInstanceAs (Tst (2≤p.length∧p.length≤5∧∀x∈p,x.natAbs≤1000))
def cTmK (args:List AV):M AV:=match args with
  | [r,x,y]=>do
    let p ← zqo r
    let q ← zqn x
    let q2 ← zqn y
    match q,q2 with
    | (a,b,c,e,d),(f,g,h,i,j)=>do
      tellD (pTmK p∧pNs a b c e d∧pNs f g h i j) (Tst.b (pTmK p∧pNs a b c e d∧pNs f g h i j))
      gives (nuF (zaq p (p.length-1) (tmS (p.length-1) a b c e f g h i)) (d*j))
  | _=>fail 263
theorem cTmK_ok:lZ Tryz.prog 84 cTmK:=by
  intro args _
  unfold cTmK
  split
  · exact Spec.bind (asRL_spec.mono fun p hp=>Spec.bind (asNu_spec.mono fun q hq=>Spec.bind (asNu_spec.mono fun q2 hq2=>Spec.bind (Spec.tellD Tst.ok fun h=>Spec.gives ((ntm_fc p _ _ _ _ _ _ _ _ _ _ h.1.1 h.1.2.1 h.1.2.2 h.2.1 h.2.2).le (.cons hp (.cons hq (.cons hq2 .nil))) (Le.refl _))))))
  · exact Spec.fail
def zeO:Ctr:=(84,cTmK) :: (92,cNp) :: (134,cRdK) :: ctrL
theorem zkz:∀p∈zeO,lZ Tryz.prog p.1 p.2:=CAll.cons cTmK_ok<|CAll.cons cNp_ok<|CAll.cons cRdK_ok zm8
theorem okAw:(dZ Tryz.prog zeO bw).OK:=QZ zkz
end Go.Proofs.YtloaeinogiplbaaGreatDoor
end
section
namespace Go.Proofs
open Go.Shelf
def Tryz.lays169_ren:Go.Shelf.Ren:=⟨fun | 169=>174 | n=>n,fun | 70=>189 | 9=>9 | 0=>0 | 72=>192 | 37=>190 | 127=>226 | 3=>3 | 5=>5 | n=>n,fun | n=>n⟩
theorem Tryz.lays169:Go.Proofs.Lays.n169 Tryz.prog Tryz.lays169_ren:={
  mixed:=by kernel_rfl
  f169:=Tryz.func174.trans (congrArg some (by kernel_rfl))
  t0:=Tryz.underlying0
  a0:=Tryz.isAgg0
  z0:=Tryz.sizeOf0
  v0:=Tryz.zeroValue0
  t3:=Tryz.underlying3
  a3:=Tryz.isAgg3
  z3:=Tryz.sizeOf3
  v3:=Tryz.zeroValue3
  t9:=Tryz.underlying9
  a9:=Tryz.isAgg9
  z9:=Tryz.sizeOf9
  v9:=Tryz.zeroValue9
  t37:=Tryz.underlying190
  a37:=Tryz.isAgg190
  z37:=Tryz.sizeOf190
  v37:=Tryz.zeroValue190
  t70:=Tryz.underlying189
  a70:=Tryz.isAgg189
  z70:=Tryz.sizeOf189
  v70:=Tryz.zeroValue189
  t72:=Tryz.underlying192
  a72:=Tryz.isAgg192
  z72:=Tryz.sizeOf192
  v72:=Tryz.zeroValue192
  t127:=Tryz.underlying226
  a127:=Tryz.isAgg226
  z127:=Tryz.sizeOf226
  v127:=Tryz.zeroValue226 }
theorem Tryz.Builder_Extra_169:Builder.Extra Tryz.prog Tryz.lays169_ren:={
  sizeBuilder:=by kernel_rfl
  liesBuilder:=by kernel_rfl
  t5:=Tryz.underlying5
  a5:=Tryz.isAgg5
  z5:=Tryz.sizeOf5
  v5:=Tryz.zeroValue5
  infoByte:=by kernel_rfl
  cellsByte:=by kernel_rfl
  sizeByte:=by kernel_rfl
  neB5:=by decide }
def Tryz.lays156_ren:Go.Shelf.Ren:=⟨fun | 156=>131 | 165=>172 | 166=>173 | 169=>174 | 240=>211 | 241=>212 | 276=>240 | 277=>241 | n=>n,fun | 31=>150 | 9=>9 | 3=>3 | 4=>4 | 0=>0 | 20=>20 | 72=>192 | 76=>185 | 70=>189 | 37=>190 | 75=>184 | 127=>226 | 164=>245 | 5=>5 | 80=>187 | n=>n,fun | n=>n⟩
theorem Tryz.lays156:Go.Proofs.Lays.n156 Tryz.prog Tryz.lays156_ren:={
  mixed:=by kernel_rfl
  f156:=Tryz.func131.trans (congrArg some (by kernel_rfl))
  f165:=Tryz.func172.trans (congrArg some (by kernel_rfl))
  f166:=Tryz.func173.trans (congrArg some (by kernel_rfl))
  f169:=Tryz.func174.trans (congrArg some (by kernel_rfl))
  f240:=Tryz.func211.trans (congrArg some (by kernel_rfl))
  f241:=Tryz.func212.trans (congrArg some (by kernel_rfl))
  f276:=Tryz.func240.trans (congrArg some (by kernel_rfl))
  f277:=Tryz.func241.trans (congrArg some (by kernel_rfl))
  t0:=Tryz.underlying0
  a0:=Tryz.isAgg0
  z0:=Tryz.sizeOf0
  v0:=Tryz.zeroValue0
  t3:=Tryz.underlying3
  a3:=Tryz.isAgg3
  z3:=Tryz.sizeOf3
  v3:=Tryz.zeroValue3
  t4:=Tryz.underlying4
  a4:=Tryz.isAgg4
  z4:=Tryz.sizeOf4
  v4:=Tryz.zeroValue4
  t9:=Tryz.underlying9
  a9:=Tryz.isAgg9
  z9:=Tryz.sizeOf9
  v9:=Tryz.zeroValue9
  t20:=Tryz.underlying20
  a20:=Tryz.isAgg20
  z20:=Tryz.sizeOf20
  v20:=Tryz.zeroValue20
  t31:=Tryz.underlying150
  a31:=Tryz.isAgg150
  z31:=Tryz.sizeOf150
  v31:=Tryz.zeroValue150
  t37:=Tryz.underlying190
  a37:=Tryz.isAgg190
  z37:=Tryz.sizeOf190
  v37:=Tryz.zeroValue190
  t70:=Tryz.underlying189
  a70:=Tryz.isAgg189
  z70:=Tryz.sizeOf189
  v70:=Tryz.zeroValue189
  t72:=Tryz.underlying192
  a72:=Tryz.isAgg192
  z72:=Tryz.sizeOf192
  v72:=Tryz.zeroValue192
  t75:=Tryz.underlying184
  a75:=Tryz.isAgg184
  z75:=Tryz.sizeOf184
  v75:=Tryz.zeroValue184
  t76:=Tryz.underlying185
  a76:=Tryz.isAgg185
  z76:=Tryz.sizeOf185
  v76:=Tryz.zeroValue185
  t127:=Tryz.underlying226
  a127:=Tryz.isAgg226
  z127:=Tryz.sizeOf226
  v127:=Tryz.zeroValue226
  t164:=Tryz.underlying245
  a164:=Tryz.isAgg245
  z164:=Tryz.sizeOf245
  v164:=Tryz.zeroValue245 }
theorem Tryz.Builder_Extra_156:Builder.Extra Tryz.prog Tryz.lays156_ren:={
  sizeBuilder:=by kernel_rfl
  liesBuilder:=by kernel_rfl
  t5:=Tryz.underlying5
  a5:=Tryz.isAgg5
  z5:=Tryz.sizeOf5
  v5:=Tryz.zeroValue5
  infoByte:=by kernel_rfl
  cellsByte:=by kernel_rfl
  sizeByte:=by kernel_rfl
  neB5:=by decide }
open Go.RowKit in
theorem Tryz.strings_Join (bk o c:Nat) (xs:List ByteArray) (sep:ByteArray) (w:World) (hcells:∀(j:Nat) x,xs[j]? = some x→w.cell? ⟨bk,o+j,none⟩=some (.string x)) (hbk:bk<w.heap.size) (hN:xs.length≤140737488355328) (hcap:xs.length≤c) (hlen:(Lib.join (xs.map (·.data.toList)) sep.data.toList).length≤140737488355328) :
    Calls Tryz.prog 131 #[.slice (some ⟨bk,o,none⟩) xs.length c,.string sep] w fun e w'=>e=.returned (.string ⟨(Lib.join (xs.map (·.data.toList)) sep.data.toList).toArray⟩)∧Below w.heap.size w w':=Any.strings_Join Tryz.lays156 Tryz.Builder_Extra_156 bk o c xs sep w hcells hbk hN hcap hlen
open Go.RowKit in
theorem Tryz.Builder_String_any_k (B b:Nat) (l:List UInt8) (w:World) (h:Lib.IsBuilderF 192 5 B b (Lib.byteCells l) w) (hBw:B≤w.heap.size) :
    Calls Tryz.prog 174 #[.pointer (some ⟨b,0,none⟩)] w fun e w'=>e=.returned (.string ⟨l.toArray⟩)∧(Lib.IsBuilderF 192 5 B b (Lib.byteCells l) w'∧Below B w w'∧Lib.OthersKept 5 (some b) w w'):=Any.Builder_String_any_k Tryz.lays169 Tryz.Builder_Extra_169 B b l w h hBw
def Tryz.lays171_ren:Go.Shelf.Ren:=⟨fun | 171=>206 | 243=>234 | 246=>250 | 283=>257 | 284=>258 | 285=>259 | 286=>260 | 129=>262 | 317=>261 | 318=>263 | 319=>264 | 320=>265 | 337=>266 | 338=>267 | n=>n,fun | 3=>3 | 9=>9 | 2=>2 | 4=>4 | 171=>273 | 0=>0 | 53=>252 | 37=>190 | 5=>5 | 173=>276 | 212=>279 | 51=>248 | 20=>20 | 213=>280 | 46=>230 | 232=>283 | 233=>284 | n=>n,fun | 17=>5 | 18=>6 | 19=>7 | n=>n⟩
theorem Tryz.lays171:Go.Proofs.Lays.n171 Tryz.prog Tryz.lays171_ren:={
  mixed:=by kernel_rfl
  f129:=Tryz.func262.trans (congrArg some (by kernel_rfl))
  f171:=Tryz.func206.trans (congrArg some (by kernel_rfl))
  f243:=Tryz.func234.trans (congrArg some (by kernel_rfl))
  f246:=Tryz.func250.trans (congrArg some (by kernel_rfl))
  f283:=Tryz.func257.trans (congrArg some (by kernel_rfl))
  f284:=Tryz.func258.trans (congrArg some (by kernel_rfl))
  f285:=Tryz.func259.trans (congrArg some (by kernel_rfl))
  f286:=Tryz.func260.trans (congrArg some (by kernel_rfl))
  f317:=Tryz.func261.trans (congrArg some (by kernel_rfl))
  f318:=Tryz.func263.trans (congrArg some (by kernel_rfl))
  f319:=Tryz.func264.trans (congrArg some (by kernel_rfl))
  f320:=Tryz.func265.trans (congrArg some (by kernel_rfl))
  f337:=Tryz.func266.trans (congrArg some (by kernel_rfl))
  f338:=Tryz.func267.trans (congrArg some (by kernel_rfl))
  t0:=Tryz.underlying0
  a0:=Tryz.isAgg0
  z0:=Tryz.sizeOf0
  v0:=Tryz.zeroValue0
  t2:=Tryz.underlying2
  a2:=Tryz.isAgg2
  z2:=Tryz.sizeOf2
  v2:=Tryz.zeroValue2
  t3:=Tryz.underlying3
  a3:=Tryz.isAgg3
  z3:=Tryz.sizeOf3
  v3:=Tryz.zeroValue3
  t4:=Tryz.underlying4
  a4:=Tryz.isAgg4
  z4:=Tryz.sizeOf4
  v4:=Tryz.zeroValue4
  t5:=Tryz.underlying5
  a5:=Tryz.isAgg5
  z5:=Tryz.sizeOf5
  v5:=Tryz.zeroValue5
  t9:=Tryz.underlying9
  a9:=Tryz.isAgg9
  z9:=Tryz.sizeOf9
  v9:=Tryz.zeroValue9
  t20:=Tryz.underlying20
  a20:=Tryz.isAgg20
  z20:=Tryz.sizeOf20
  v20:=Tryz.zeroValue20
  t37:=Tryz.underlying190
  a37:=Tryz.isAgg190
  z37:=Tryz.sizeOf190
  v37:=Tryz.zeroValue190
  t46:=Tryz.underlying230
  a46:=Tryz.isAgg230
  z46:=Tryz.sizeOf230
  v46:=Tryz.zeroValue230
  t51:=Tryz.underlying248
  a51:=Tryz.isAgg248
  z51:=Tryz.sizeOf248
  v51:=Tryz.zeroValue248
  t53:=Tryz.underlying252
  a53:=Tryz.isAgg252
  z53:=Tryz.sizeOf252
  v53:=Tryz.zeroValue252
  t171:=Tryz.underlying273
  a171:=Tryz.isAgg273
  z171:=Tryz.sizeOf273
  v171:=Tryz.zeroValue273
  t173:=Tryz.underlying276
  a173:=Tryz.isAgg276
  z173:=Tryz.sizeOf276
  v173:=Tryz.zeroValue276
  t212:=Tryz.underlying279
  a212:=Tryz.isAgg279
  z212:=Tryz.sizeOf279
  v212:=Tryz.zeroValue279
  t213:=Tryz.underlying280
  a213:=Tryz.isAgg280
  z213:=Tryz.sizeOf280
  t232:=Tryz.underlying283
  a232:=Tryz.isAgg283
  z232:=Tryz.sizeOf283
  v232:=Tryz.zeroValue283
  t233:=Tryz.underlying284
  a233:=Tryz.isAgg284
  z233:=Tryz.sizeOf284
  v233:=Tryz.zeroValue284
  g17:=by kernel_rfl
  g18:=by kernel_rfl
  g19:=by kernel_rfl }
open Go.RowKit Go.Sort Go.Lib in
theorem Tryz.strconv_Itoa_small (i:Nat) (hi:i<100) (w:World) :
    Calls Tryz.prog 206 #[.int .i64 i] w fun e w'=>e=.returned (.string ⟨(Lib.decDigits i).toArray⟩)∧w'=w:=Any.strconv_Itoa_small Tryz.lays171 i hi w
end Go.Proofs
end
section
open Go Go.RowKit
namespace Go.Proofs
set_option maxRecDepth 100000
set_option maxHeartbeats 4000000
set_option linter.unusedVariables false
set_option linter.unusedSimpArgs false
theorem Tryz.write_k (B b:Nat) (bs:List Value) (s:ByteArray) (w:World) (h:Lib.IsBuilderF 192 5 B b bs w) (hlen:bs.length+s.size≤140737488355328) (hBw:B≤w.heap.size) :
    Calls Tryz.prog 173 #[.pointer (some ⟨b,0,none⟩),.string s] w fun e w'=>e=.returned (.tuple #[.int .i64 s.size,.nilIface])∧(Lib.BuilderAtF 192 5 B b (.pointer (some ⟨b,0,none⟩)) (bs++Lib.strCells s) w'∧Below B w w'∧Lib.OthersKept 5 (some b) w w'):=
  Any.Builder_WriteString_k { Tryz.lays156 with } Tryz.Builder_Extra_156 B b bs s w h hlen hBw
def TxtIs (w:World) (l:List UInt8) (e:Ending) (w':World):Prop:=e=.returned (.string ⟨l.toArray⟩)∧Below w.heap.size w w'
theorem text_zero (neg:Bool) (a:Option Addr) (cap:Nat) (w:World) :
    Calls Tryz.prog 170 #[.agg #[.bool neg,.slice a 0 cap]] w (TxtIs w [48]):=by
  go_enter Tryz.func170,Tryz.ntmps170
  go_wp2
  go_ret
  exact ⟨rfl,(Below.refl _ _).alloc (Nat.le_refl _) _⟩
def TR (B:Nat) (W1:World) (l0 l1:List UInt8) (i:Value) (wr:World):Prop:=
  (i=.int .i64 0∧Lib.IsBuilderF 192 5 B B (Lib.byteCells l0) wr∧Below B W1 wr)∨(i=.int .i64 (-1)∧Lib.IsBuilderF 192 5 B B (Lib.byteCells l1) wr∧Below B W1 wr)
theorem zeP (d:Nat) (hd:d<100):(Lib.decDigits d).length≤2:=by
  by_cases h:d<10
  · rw [Lib.decDigits_one h];simp
  · rw [Lib.decDigits_two h hd];simp
theorem text_one (neg:Bool) (b o cap d:Nat) (w:World) (hd:d<100) (hcap:1≤cap) (hc:w.cell? ⟨b,o,none⟩=some (.int .i64 d)) :
    Calls Tryz.prog 170 #[.agg #[.bool neg,.slice (some ⟨b,o,none⟩) 1 cap]] w (TxtIs w ((if neg then [45] else [])++Lib.decDigits d)):=by
  have hbw:b<w.heap.size:=by
    rcases Nat.lt_or_ge b w.heap.size with h | h
    · exact h
    · have:w.heap[b]? = none:=by simp;omega
      simp [World.cell?,this] at hc
  go_enter Tryz.func170,Tryz.ntmps170
  cases neg with
  | false =>
    go_wp2
    go_loopw [4] (fun i wr=>TR (w.heap.size+1) ((w.alloc (.cells #[.bool false,.slice (some ⟨b,o,none⟩) 1 cap] 100)).alloc (.cells #[.pointer none,.slice none 0 0] 192)) [] (Lib.decDigits d) i wr) (fun i _=>(intOf i+1).toNat)
    case atStart=>
      exact .inl ⟨rfl,Lib.IsBuilderF.of (by have:=Lib.fresh_isBuilder 192 5 (w.alloc (.cells #[.bool false,.slice (some ⟨b,o,none⟩) 1 cap] 100));simpa [Lib.byteCells] using this),Below.refl _ _⟩
    case round=>
      have hsz:w.heap.size+2≤wr.heap.size:=by
        rcases hrel with ⟨_,_,hB⟩ | ⟨_,_,hB⟩<;>(have:=hB.size;simp at this;omega)
      have hcells:wr.cell? ⟨w.heap.size,1,none⟩=some (.slice (some ⟨b,o,none⟩) 1 cap)∧wr.cell? ⟨b,o,none⟩=some (.int .i64 d):=by
        rcases hrel with ⟨_,_,hB⟩ | ⟨_,_,hB⟩ <;>
        · refine ⟨(hB.cell (p:=⟨w.heap.size,1,none⟩) (by simp)).trans ?_,(hB.cell (p:=⟨b,o,none⟩) (by simp;omega)).trans ?_⟩
          · exact World.cell?_alloc2_first ..
          · exact(World.cell?_alloc_past _ _ _ (by simp;omega)).trans ((World.cell?_alloc_past _ _ _ hbw).trans hc)
      obtain ⟨c1,cd⟩:=hcells
      obtain ⟨rfl,hI,hB⟩ | ⟨rfl,hI,hB⟩:=hrel
      · go_wp2_with (go_at_call 206;refine (Tryz.strconv_Itoa_small d hd _).mono ?_)
        rintro e W2 ⟨rfl,rfl⟩
        go_wp2_with (go_at_call 173;refine (Tryz.write_k (w.heap.size+1) (w.heap.size+1) _ _ _ hI (by have:=zeP d hd;simp [Lib.byteCells,ByteArray.size];omega) (by omega)).mono ?_)
        rintro e W3 ⟨rfl,h1,b1,k1⟩
        go_wp2
        go_roundw
        case rel=>exact .inr ⟨rfl,.inr (by simpa [Lib.byteCells,Lib.strCells] using h1),hB.trans b1⟩
        case measure=>simp [intOf]
      · go_wp2_with (go_at_call 174;refine (Tryz.Builder_String_any_k (w.heap.size+1) (w.heap.size+1) _ _ hI (by omega)).mono ?_)
        rintro e W2 ⟨rfl,h1,b1,k1⟩
        go_wp2
        go_ret
        exact ⟨by simp,(((Below.refl _ w).alloc (Nat.le_refl _) _).alloc (by simp) _).trans ((hB.mono (by omega)).trans (b1.mono (by omega)))⟩
  | true=>
    have hI0:Lib.IsBuilderF 192 5 (w.heap.size+1) (w.heap.size+1) (Lib.byteCells []) ((w.alloc (.cells #[.bool true,.slice (some ⟨b,o,none⟩) 1 cap] 100)).alloc (.cells #[.pointer none,.slice none 0 0] 192)):=
      Lib.IsBuilderF.of (by have:=Lib.fresh_isBuilder 192 5 (w.alloc (.cells #[.bool true,.slice (some ⟨b,o,none⟩) 1 cap] 100));simpa [Lib.byteCells] using this)
    go_wp2_with (go_at_call 173;refine (Tryz.write_k (w.heap.size+1) (w.heap.size+1) _ _ _ hI0 (by simp [Lib.byteCells,ByteArray.size]) (by simp)).mono ?_)
    rintro e W0 rfl h0 b0 k0
    have hz0:w.heap.size+2≤W0.heap.size:=by have:=b0.size;simp at this;omega
    have cc:∀W:World,Below (w.heap.size+1) W0 W→W.cell? ⟨w.heap.size,0,none⟩=some (.bool true)∧W.cell? ⟨w.heap.size,1,none⟩=some (.slice (some ⟨b,o,none⟩) 1 cap)∧W.cell? ⟨b,o,none⟩=some (.int .i64 d):=by
      intro W hB
      have hB2:=b0.trans hB
      exact ⟨(hB2.cell (p:=⟨w.heap.size,0,none⟩) (by simp)).trans (World.cell?_alloc2_first ..),(hB2.cell (p:=⟨w.heap.size,1,none⟩) (by simp)).trans (World.cell?_alloc2_first ..),
        (hB2.cell (p:=⟨b,o,none⟩) (by simp;omega)).trans ((World.cell?_alloc_past _ _ _ (by simp;omega)).trans ((World.cell?_alloc_past _ _ _ hbw).trans hc))⟩
    have cw0:=cc W0 (Below.refl _ _)
    obtain ⟨k0a,k0b,k0c⟩:=cw0
    go_wp2
    go_loopw [4] (fun i wr=>TR (w.heap.size+1) W0 [45] ([45]++Lib.decDigits d) i wr) (fun i _=>(intOf i+1).toNat)
    case atStart=>
      exact .inl ⟨rfl,.inr (by simpa [Lib.byteCells,Lib.strCells] using h0),Below.refl _ _⟩
    case round=>
      have hB:Below (w.heap.size+1) W0 wr:=by
        rcases hrel with ⟨_,_,hB⟩ | ⟨_,_,hB⟩<;>exact hB
      have hsz:w.heap.size+2≤wr.heap.size:=Nat.le_trans hz0 hB.size
      obtain ⟨c0,c1,cd⟩:=cc wr hB
      obtain ⟨rfl,hI,_⟩ | ⟨rfl,hI,_⟩:=hrel
      · go_wp2_with (go_at_call 206;refine (Tryz.strconv_Itoa_small d hd _).mono ?_)
        rintro e W2 ⟨rfl,rfl⟩
        go_wp2_with (go_at_call 173;refine (Tryz.write_k (w.heap.size+1) (w.heap.size+1) _ _ _ hI (by have:=zeP d hd;simp [Lib.byteCells,ByteArray.size];omega) (by omega)).mono ?_)
        rintro e W3 ⟨rfl,h1,b1,k1⟩
        go_wp2
        go_roundw
        case rel=>exact .inr ⟨rfl,.inr (by simpa [Lib.byteCells,Lib.strCells] using h1),hB.trans b1⟩
        case measure=>simp [intOf]
      · go_wp2_with (go_at_call 174;refine (Tryz.Builder_String_any_k (w.heap.size+1) (w.heap.size+1) _ _ hI (by omega)).mono ?_)
        rintro e W2 ⟨rfl,h1,b1,k1⟩
        go_wp2
        go_ret
        exact ⟨by simp,(((Below.refl _ w).alloc (Nat.le_refl _) _).alloc (by simp) _).trans ((b0.mono (by omega)).trans ((hB.mono (by omega)).trans (b1.mono (by omega))))⟩
end Go.Proofs
end
section
open Go Go.Ev Go.RowKit
namespace Go.Proofs.YtloaeinogiplbaaGreatDoor
open Go.Proofs
set_option maxRecDepth 100000
set_option maxHeartbeats 4000000
set_option linter.unusedVariables false
set_option linter.unusedSimpArgs false
def txtL (z:Int):List UInt8:=if z=0 then [48] else(if decide (z<0)=true then [45] else [])++Lib.decDigits z.natAbs
def txtB (z:Int):ByteArray:=⟨(txtL z).toArray⟩
theorem wd_inv {E:Env} {z:Int} {v:Value} (h:Rd E (.wd z) v):∃a cap,v=.slice a (digs z.natAbs).length cap∧(digs z.natAbs).length≤cap∧IntsAt E (digs z.natAbs) a:=by
  cases h with
  | wd hi hc=>exact ⟨_,_,rfl,hc,hi⟩
theorem text_fc (z : Int) (hz : z.natAbs<100):FC Tryz.prog 170 [W z] (.lit (.string (txtB z))):=by
  intro M w vs _ hl ha
  have h0:Rd ⟨w.heap,M,[]⟩ (W z) (vs.getD 0 undef):=ha 0 (by simp)
  obtain ⟨v0, rfl⟩ : ∃v0,vs = #[v0]:=by
    have h1:vs.size=1:=by simpa using hl.symm
    exact ⟨vs[0], by apply Array.ext (by simp [h1]);intro i h2 h3;have:i=0:=by omega
                     subst this;simp⟩
  have h0':Rd ⟨w.heap,M,[]⟩ (W z) v0:=h0
  unfold W at h0'
  cases h0' with
  | @agg _ us hlen hr=>
    obtain ⟨u0, u1, rfl⟩ : ∃ u0 u1,us = #[u0,u1]:=by
      have h1:us.size=2:=by simpa using hlen.symm
      exact ⟨us[0], us[1], by apply Array.ext (by simp [h1]);intro i h2 h3;have:i=0∨i=1:=by omega
                              rcases this with rfl | rfl<;>simp⟩
    have e0:u0=.bool (decide (z<0)):=Rd.lit_inv (hr 0 (by simp))
    obtain ⟨a,cap,e1,hcap,hi⟩:=wd_inv (hr 1 (by simp))
    have e1':u1=.slice a (digs z.natAbs).length cap:=e1
    subst e0;subst e1'
    by_cases h:z=0
    · subst h
      refine (text_zero _ a cap w).mono ?_
      rintro e w' ⟨rfl,hb⟩
      exact ⟨_,rfl,hb,.lit _⟩
    · have hd:digs z.natAbs=[((z.natAbs:Nat):Int)]:=by
        rw [zb2 _ (by omega)]
        rw [Nat.mod_eq_of_lt (by omega),Nat.div_eq_of_lt (by omega)];rfl
      rw [hd] at hi hcap
      rcases hi with hi | ⟨b,o,rfl,_,hc⟩
      · cases hi
      · have hc0:=hc 0 (by simp)
        have hcell:w.cell? ⟨b,o,none⟩=some (.int .i64 ((z.natAbs:Nat):Int)):=by rw [cell?_eq];simpa using hc0
        rw [hd]
        refine (text_one (decide (z<0)) b o cap z.natAbs w hz (by simpa using hcap) hcell).mono ?_
        rintro e w' ⟨rfl,hb⟩
        refine ⟨_,rfl,hb,?_⟩
        have:(⟨((if decide (z<0)=true then [45] else [])++Lib.decDigits z.natAbs).toArray⟩:ByteArray)=txtB z:=by unfold txtB txtL;rw [if_neg h]
        rw [this];exact .lit _
def znQ:List AV→Option (List ByteArray)
  | []=>some []
  | .lit (.string s) :: l=>match znQ l with | some r=>some (s :: r) | none=>none
  | _=>none
theorem zlT:∀ {cs:List AV} {l:List ByteArray},znQ cs=some l→cs=l.map fun s=>AV.lit (.string s)
  | [],l,h=>by cases h;rfl
  | c :: cs,l,h=>by
    unfold znQ at h
    split at h
    · rename_i heq;cases heq
    · rename_i s q heq
      cases heq
      split at h
      · rename_i r hr
        cases h
        rw [zlT hr];rfl
      · cases h
    · cases h
def joinB (xs:List ByteArray) (sep:ByteArray):ByteArray:=⟨(Lib.join (xs.map (·.data.toList)) sep.data.toList).toArray⟩
def cJoin (args:List AV):M AV:=match args with
  | [.sl cs n,.lit (.string sep)]=>do
    let xs ← ofOpt 240 (znQ cs)
    tellD (xs.length=n∧n≠0∧n≤1000∧(joinB xs sep).size≤1000000) (Tst.b (xs.length=n∧n≠0∧n≤1000∧(joinB xs sep).size≤1000000))
    M.pure (.lit (.string (joinB xs sep)))
  | _=>fail 241
theorem join_ok : lZ Tryz.prog 131 cJoin:=by
  intro args _
  unfold cJoin
  split
  · rename_i cs n sep _
    refine Spec.bind (Spec.ofOpt fun xs hxs=>Spec.bind (Spec.tellD Tst.ok fun hp=>Spec.pure' ?_))
    obtain ⟨h1,h2,h3,h4⟩:=hp
    have hcs:=zlT hxs
    intro M w vs _ hl ha
    have h0:Rd ⟨w.heap,M,[]⟩ (.sl cs n) (vs.getD 0 undef):=ha 0 (by simp)
    have h5:Rd ⟨w.heap,M,[]⟩ (.lit (.string sep)) (vs.getD 1 undef):=ha 1 (by simp)
    obtain ⟨v0, v1, rfl⟩ : ∃ v0 v1,vs = #[v0,v1]:=by
      have h1:vs.size=2:=by simpa using hl.symm
      exact ⟨vs[0], vs[1], by apply Array.ext (by simp [h1]);intro i h2 h3;have:i=0∨i=1:=by omega
                              rcases this with rfl | rfl<;>simp⟩
    have e1:v1=.string sep:=Rd.lit_inv h5
    subst e1
    have h0':Rd ⟨w.heap,M,[]⟩ (.sl cs n) v0:=h0
    cases h0' with
    | sl0=>exact absurd rfl h2
    | @sl _ _ b o cap vals hs hM hc hv hr=>
      have hlen:cs.length=xs.length:=by rw [hcs];simp
      subst h1
      refine (Tryz.strings_Join b o cap xs sep w ?_ hs (by omega) hc ?_).mono ?_
      · intro j x hj
        have hjl:j<xs.length:=(List.getElem?_eq_some_iff.1 hj).1
        have k1:=hv j (by omega)
        have k2:=hr j (by omega)
        have k3:cs.getD j .junk=.lit (.string x):=by rw [hcs];simp [List.getD,hj]
        rw [k3] at k2
        rw [cell?_eq,k1,Rd.lit_inv k2]
      · have:(joinB xs sep).size=(Lib.join (xs.map (·.data.toList)) sep.data.toList).length:=by unfold joinB;simp [ByteArray.size]
        omega
      · rintro e w' ⟨rfl,hb⟩
        exact ⟨_,rfl,hb,.lit _⟩
  · exact Spec.fail
end Go.Proofs.YtloaeinogiplbaaGreatDoor
end
section
open Go Go.Ev Go.RowKit
namespace Go.Proofs.YtloaeinogiplbaaGreatDoor
open Go.Proofs
set_option maxRecDepth 100000
set_option maxHeartbeats 1000000
set_option linter.unusedVariables false
set_option linter.unusedSimpArgs false
noncomputable section
end
def ctrT2:Ctr:=(170,c1 (fun z=>z.natAbs<100) (fun z=>.lit (.string (txtB z)))) :: (131,cJoin) :: zeO
theorem zkR:∀p∈ctrT2,lZ Tryz.prog p.1 p.2:=CAll.cons (c1_ok text_fc)<|CAll.cons join_ok zkz
theorem okT2:(dZ Tryz.prog ctrT2 bw).OK:=QZ zkR
abbrev RT (l:List Int) (n:Int):St:=⟨sp 23 [(0,.sq l),(3,.lit (.int .i64 n))],[],[]⟩
noncomputable section
theorem rsp_0 (n:Int):FunI (dZ Tryz.prog zbc bw) 60 182 [.lit (.int .i64 n)] [1] [] [0,1,0,2,3,4] (.tup [aI (Int.tdiv n 100000000-1),aI (Int.tmod n 100000000+100000000)]) [inR .i64 (Int.tdiv n 100000000)=true,decide (Int.tmod n 100000000<0)=true,inR .i64 (Int.tdiv n 100000000-1)=true,inR .i64 (Int.tmod n 100000000+100000000)=true]:={}
theorem rsp_1 (n:Int):FunI (dZ Tryz.prog zbc bw) 60 182 [.lit (.int .i64 n)] [0] [] [0,1,0,2] (.tup [aI (Int.tdiv n 100000000),aI (Int.tmod n 100000000)]) [inR .i64 (Int.tdiv n 100000000)=true,decide (Int.tmod n 100000000<0)=false]:={}
theorem rtl_0 (l:List Int) (n:Int):RndI (dZ Tryz.prog zbc bw) 60 (pZ Tryz.prog 183 0) 0 [] [0,3] [] (RT l n) [1,1] [] [1,2,3,4,5,6,2] (Ex.normal) (⟨sp 23 [(0,.sq l),(3,aI (n-1))],[],[]⟩) [decide (n > 0)=true,inR .i64 (n-1)=true,decide (0≤n-1)=true,decide (n-1<(l.length:Int))=true,decide ((n-1).toNat<l.length)=true,(l.getD (n-1).toNat 0==0)=true]:={}
theorem rtl_1 (l:List Int) (n:Int):RndI (dZ Tryz.prog zbc bw) 60 (pZ Tryz.prog 183 0) 0 [] [0,3] [] (RT l n) [1,0] [] [1,2,3,4,5,6] (Ex.exit 0) (⟨sp 23 [(0,.sq l),(3,aI n)],[],[]⟩) [decide (n > 0)=true,inR .i64 (n-1)=true,decide (0≤n-1)=true,decide (n-1<(l.length:Int))=true,decide ((n-1).toNat<l.length)=true,(l.getD (n-1).toNat 0==0)=false]:={}
theorem rtl_2 (l:List Int) (n:Int):RndI (dZ Tryz.prog zbc bw) 60 (pZ Tryz.prog 183 0) 0 [] [0,3] [] (RT l n) [0] [] [1] (Ex.exit 0) (⟨sp 23 [(0,.sq l),(3,aI n)],[],[]⟩) [decide (n > 0)=false]:={}
theorem rtf_0 (l:List Int) (n:Int):FunI (dZ Tryz.prog zbc bw) 60 183 [.sq l] [] [some (zev Tryz.prog (pZ Tryz.prog 183 0) [] [0,3] [] (RT l (l.length:Int)) (.exit 0,RT l n))] [0,1,0,2,3,4,5,0,6,7] (.sq ((List.take 0 []++(l.take n.toNat).drop 0).take (0+((l.take n.toNat).drop 0).length))) [Loops 0 Tryz.prog (pZ Tryz.prog 183 0) ⟨sp 23 [(0,.sq l),(3,aI (l.length:Int))],[],[]⟩ (Ex.exit 0,⟨sp 23 [(0,.sq l),(3,aI n)],[],[]⟩),decide (0≤n)=true,decide (n≤(l.length:Int))=true,decide ((0+((l.take n.toNat).drop 0).length)*8≤140737488355328)=true,decide (0+((l.take n.toNat).drop 0).length≤4611686018427387904)=true,decide (((l.take n.toNat).drop 0).length=((l.take n.toNat).drop 0).length)=true,0+((l.take n.toNat).drop 0).length≤(List.take 0 []++(l.take n.toNat).drop 0).length]:={}
end
theorem rsplit_fc (n:Int) (h:bZ n):FC Tryz.prog 182 [.lit (.int .i64 n)] (zgJ n):=by
  obtain ⟨h1,h2⟩:=h
  have ht:=Int.mul_tdiv_add_tmod n 100000000
  by_cases hn:Int.tmod n 100000000<0
  · have hp:n<0:=by
      rcases Int.lt_or_le n 0 with h | h
      · exact h
      · have:=Int.tmod_nonneg 100000000 h;omega
    have hb:-100000000<Int.tmod n 100000000:=by
      have:=Int.lt_tmod_of_pos n (show(0:Int)<100000000 by decide);omega
    have e1:Int.tdiv n 100000000-1=n / 100000000:=by omega
    have e2:Int.tmod n 100000000+100000000=n % 100000000:=by omega
    have:=mZ zhx (rsp_0 n) (.cons (inR64.2 (by omega)) (.cons (by simpa using hn) (.cons (inR64.2 (by omega)) (.cons (inR64.2 (by omega)) .nil))))
    rw [e1,e2] at this
    exact this
  · have hb:Int.tmod n 100000000<100000000:=Int.tmod_lt_of_pos n (by decide)
    have e1:Int.tdiv n 100000000=n / 100000000:=by omega
    have e2:Int.tmod n 100000000=n % 100000000:=by omega
    have:=mZ zhx (rsp_1 n) (.cons (inR64.2 (by omega)) (.cons (by simpa using hn) .nil))
    rw [e1,e2] at this
    exact this
theorem zeF (l:List Int) (hs:l.length≤1048576):∀(n:Nat),n≤l.length→∃m:Nat,m≤n∧l.take m=trm (l.take n)∧Loops 0 Tryz.prog (pZ Tryz.prog 183 0) (RT l n) (.exit 0,RT l m)
  | 0,_=>⟨0,Nat.le_refl _,by simp [trm],Loops.fin (LS.of zhx (rtl_2 l 0) (.cons (by simp) .nil)) (by simp [Ex.toExit])⟩
  | n + 1,hn=>by
    have hnat:Int.toNat (((n+1:Nat):Int)-1)=n:=by omega
    have hc:((n+1:Nat):Int)-1=(n:Int):=by omega
    have hlt:n<l.length:=by omega
    have hg:l.getD n 0=l[n]:=by simp [List.getD,hlt]
    by_cases hd:l.getD n 0=0
    · have hx:(l.getD n 0==0)=true:=by rw [hd];rfl
      obtain ⟨m,h1,h2,h3⟩:=zeF l hs n (by omega)
      have h:=LS.of zhx (rtl_0 l (n+1:Nat)) (by rw [hnat];(repeat' (first | exact AllC.nil | refine AllC.cons ?_ ?_));all_goals (first | (with_reducible exact hx) | (with_reducible exact inR64.2 (by omega)) | (refine decide_eq_true ?_;omega)))
      rw [hc] at h
      refine ⟨m,by omega,?_,Loops.go h h3⟩
      rw [List.take_succ_eq_append_getElem hlt,← hg,hd,zgZ,h2]
    · have hx:(l.getD n 0==0)=false:=by simpa using hd
      have h:=LS.of zhx (rtl_1 l (n+1:Nat)) (by rw [hnat];(repeat' (first | exact AllC.nil | refine AllC.cons ?_ ?_));all_goals (first | (with_reducible exact hx) | (with_reducible exact inR64.2 (by omega)) | (refine decide_eq_true ?_;omega)))
      refine ⟨n+1,Nat.le_refl _,?_,Loops.fin h (by simp [Ex.toExit])⟩
      rw [List.take_succ_eq_append_getElem hlt,← hg,zdp _ _ hd]
def pTr (l:List Int):Prop:=l.length≤1048576
theorem rtrim_fc (l:List Int) (h:pTr l):FC Tryz.prog 183 [.sq l] (.sq (trm l)):=by
  obtain ⟨m,h1,h2,h3⟩:=zeF l h l.length (Nat.le_refl _)
  rw [List.take_length] at h2
  have hn:Int.toNat (m:Int)=m:=by omega
  have e:=rtf_0 l m
  rw [hn] at e
  have:=mZ zhx e (by(repeat' (first | exact AllC.nil | refine AllC.cons ?_ ?_));all_goals (first | (with_reducible exact viaL_ok) | (with_reducible exact h3) | (with_reducible rfl) | (unfold pTr at h;refine decide_eq_true ?_;simp<;>omega) | (unfold pTr at h;simp<;>omega) | (simp;done)))
  have e2:List.take (0+List.length (List.drop 0 (List.take m l))) (List.take 0 []++List.drop 0 (List.take m l))=trm l:=by simp [h2]
  rw [e2] at this
  exact this
def zmg:Ctr:=(183,cL pTr (fun x=>.sq (trm x))) :: (182,cI bZ zgJ) :: zbc
theorem zkA:∀p∈zmg,lZ Tryz.prog p.1 p.2:=CAll.cons (zjf rtrim_fc)<|CAll.cons (cI_ok rsplit_fc) zeN
theorem okF1o:(dZ Tryz.prog zmg bw [183]).OK:=QZ zkA
abbrev RG (b:Bool) (n:Nat) (q:List Int) (i:Int):St:=⟨sp 27 [(1,.lit (.bool b)),(5,.own 1 0 n 1),(6,.lit (.int .i64 i))],[.dead,.ints q true],[1,0]⟩
noncomputable section
theorem rsl_0 (b:Bool) (n:Nat) (q:List Int) (i:Int):RndI (dZ Tryz.prog zmg bw [183]) 60 (pZ Tryz.prog 179 0) 2 [] [1,5,6] [1,0] (RG b n q i) [1,1] [] [1,2,3,1,4,5,3,1,4,6] (Ex.normal) (⟨sp 27 [(1,.lit (.bool b)),(5,.own 1 0 n 1),(6,aI (i+1))],[.dead,.ints (q.set (0+i.toNat*1) (0-q.getD (0+i.toNat*1) 0)) true],[1,0]⟩) [decide (i<(n:Int))=true,b=true,decide (0≤i)=true,decide (0+i.toNat*1<q.length)=true,inR .i64 (0-q.getD (0+i.toNat*1) 0)=true,inR .i64 (i+1)=true]:={}
theorem rsl_1 (b:Bool) (n:Nat) (q:List Int) (i:Int):RndI (dZ Tryz.prog zmg bw [183]) 60 (pZ Tryz.prog 179 0) 2 [] [1,5,6] [1,0] (RG b n q i) [1,0] [] [1,2] (Ex.exit 0) (⟨sp 27 [(1,.lit (.bool b)),(5,.own 1 0 n 1),(6,aI i)],[.dead,.ints q true],[1,0]⟩) [decide (i<(n:Int))=true,b=false]:={}
theorem rsl_2 (b:Bool) (n:Nat) (q:List Int) (i:Int):RndI (dZ Tryz.prog zmg bw [183]) 60 (pZ Tryz.prog 179 0) 2 [] [1,5,6] [1,0] (RG b n q i) [0] [] [1] (Ex.exit 0) (⟨sp 27 [(1,.lit (.bool b)),(5,.own 1 0 n 1),(6,aI i)],[.dead,.ints q true],[1,0]⟩) [decide (i<(n:Int))=false]:={}
theorem rsf_0 (l:List Int) (n N:Nat) (b:Bool) (q:List Int) (i:Int):FunI (dZ Tryz.prog zmg bw [183]) 60 179 [.sq l,.lit (.bool b)] [] [none,some (zev Tryz.prog (pZ Tryz.prog 183 0) [] [0,3] [] (RT l (l.length:Int)) (.exit 0,RT l n)),some (zev Tryz.prog (pZ Tryz.prog 179 0) [] [1,5,6] [1,0] (RG b N (l.take n) 0) (.exit 0,RG b N q i))] [0,1,0,0,2,3,4,0,5,6,7,8] (.sq (q.take N)) [Loops 0 Tryz.prog (pZ Tryz.prog 183 0) ⟨sp 23 [(0,.sq l),(3,aI (l.length:Int))],[],[]⟩ (Ex.exit 0,⟨sp 23 [(0,.sq l),(3,aI (n:Int))],[],[]⟩),decide ((n:Int)≤(l.length:Int))=true,decide ((0+((l.take (n:Int).toNat).drop 0).length)*8≤140737488355328)=true,decide (0+((l.take (n:Int).toNat).drop 0).length≤4611686018427387904)=true,decide (((l.take (n:Int).toNat).drop 0).length=((l.take (n:Int).toNat).drop 0).length)=true,(⟨sp 27 [(1,.lit (.bool b)),(5,.own 1 0 (0+((l.take (n:Int).toNat).drop 0).length) 1),(6,aI 0)],[.dead,.ints (List.take 0 []++(l.take (n:Int).toNat).drop 0) true],[1,0]⟩:St)=⟨sp 27 [(1,.lit (.bool b)),(5,.own 1 0 N 1),(6,aI 0)],[.dead,.ints (l.take n) true],[1,0]⟩,Loops 2 Tryz.prog (pZ Tryz.prog 179 0) ⟨sp 27 [(1,.lit (.bool b)),(5,.own 1 0 N 1),(6,aI 0)],[.dead,.ints (l.take n) true],[1,0]⟩ (Ex.exit 0,⟨sp 27 [(1,.lit (.bool b)),(5,.own 1 0 N 1),(6,aI i)],[.dead,.ints q true],[1,0]⟩),N≤q.length]:={}
end
theorem rs_loop (N:Nat) (hN:N≤1048576):∀(suf pre:List Int),pre.length+suf.length=N→(∀d∈suf,-9223372036854775807≤d∧d≤9223372036854775807) →
    Loops 2 Tryz.prog (pZ Tryz.prog 179 0) (RG true N (pre++suf) pre.length) (.exit 0,RG true N (pre++suf.map fun d=>-d) N)
  | [],pre,hl,_=>by
    have e:pre.length=N:=by simpa using hl
    rw [e]
    exact Loops.fin (LS.of okF1o (rsl_2 true N (pre++[]) N) (.cons (by simp) .nil)) (by simp [Ex.toExit])
  | d :: suf,pre,hl,hd=>by
    have hl':pre.length+(suf.length+1)=N:=by simpa using hl
    have hnat:0+Int.toNat (pre.length:Int)*1=pre.length:=by omega
    have hg:(pre++d :: suf).getD pre.length 0=d:=by simp [List.getD]
    have hs:(pre++d :: suf).set pre.length (0-d)=(pre++[-d])++suf:=by
      rw [List.set_append_right _ _ (Nat.le_refl _),Nat.sub_self,List.set_cons_zero,Int.zero_sub];simp
    have hdd:=hd d (by simp)
    have h:=LS.of okF1o (rsl_0 true N (pre++d :: suf) pre.length) (by rw [hnat,hg];(repeat' (first | exact AllC.nil | refine AllC.cons ?_ ?_));all_goals (first | (with_reducible rfl) | (with_reducible exact inR64.2 (by omega)) | (refine decide_eq_true ?_;first | omega | (simp<;>omega))))
    rw [hnat,hg,hs] at h
    have k:=rs_loop N hN suf (pre++[-d]) (by simp;omega) (fun x hx=>hd x (by simp [hx]))
    have e1:((pre++[-d]).length:Int)=(pre.length:Int)+1:=by simp
    have e2:(pre++[-d])++suf.map (fun d=>-d)=pre++(d :: suf).map fun d=>-d:=by simp
    rw [e1,e2] at k
    exact Loops.go h k
def pSg (l:List Int):Prop:=l.length≤1048576∧∀d∈l,-9223372036854775807≤d∧d≤9223372036854775807
def zlP (b:Bool) (l:List Int):List Int:=match b with | true=>(trm l).map fun d=>-d | false=>trm l
theorem zp9 (l:List Int) (b:Bool) (h:pSg l):FC Tryz.prog 179 [.sq l,.lit (.bool b)] (.sq (zlP b l)):=by
  obtain ⟨h0,hd⟩:=h
  obtain ⟨m,h1,h2,h3⟩:=zeF l h0 l.length (Nat.le_refl _)
  rw [List.take_length] at h2
  have hlen:(l.take m).length=m:=by rw [List.length_take];omega
  have hm:∀d∈l.take m,-9223372036854775807≤d∧d≤9223372036854775807:=fun d hx=>hd d (List.mem_of_mem_take hx)
  have hn:Int.toNat (m:Int)=m:=by omega
  have key:∃(q:List Int) (i:Int),q.take m=zlP b l∧Loops 2 Tryz.prog (pZ Tryz.prog 179 0) (RG b m (l.take m) 0) (.exit 0,RG b m q i)∧q.length=m:=by
    cases b with
    | true=>exact ⟨(l.take m).map fun d=>-d,m,by rw [List.take_of_length_le (by simp;omega),h2];rfl,rs_loop m (by omega) (l.take m) [] (by simpa using hlen) hm,by simp;omega⟩
    | false=>
      refine ⟨l.take m,0,by rw [List.take_of_length_le (by omega),h2];rfl,?_,hlen⟩
      by_cases hz:m=0
      · subst hz;exact Loops.fin (LS.of okF1o (rsl_2 false 0 (l.take 0) 0) (.cons (by simp) .nil)) (by simp [Ex.toExit])
      · exact Loops.fin (LS.of okF1o (rsl_1 false m (l.take m) 0) (.cons (decide_eq_true (by omega)) (.cons rfl .nil))) (by simp [Ex.toExit])
  obtain ⟨q,i,k1,k2,k3⟩:=key
  have e:=rsf_0 l m m b q i
  rw [hn] at e
  have e0:0+List.length (List.drop 0 (List.take m l))=m:=by simp;omega
  have e1:List.take 0 []++List.drop 0 (List.take m l)=l.take m:=by simp
  rw [e0,e1] at e
  have:=mZ okF1o e (by(repeat' (first | exact AllC.nil | refine AllC.cons ?_ ?_));all_goals (first | (with_reducible exact viaL_ok) | (with_reducible exact h3) | (with_reducible exact k2) | (with_reducible rfl) | (refine decide_eq_true ?_;simp<;>omega) | omega | (simp<;>omega) | (simp;done)))
  rw [k1] at this
  exact this
def cLB (p:List Int→Prop) [∀l,Tst (p l)] (r:Bool→List Int→AV) (args:List AV):M AV:=match args with
  | [x,y]=>do
    let l ← ofOpt 280 (ints? x)
    let b ← ofOpt 281 (asB y)
    tellD (p l) (Tst.b (p l))
    gives (r b l)
  | _=>fail 282
theorem cLB_ok {P:Program} {f:FuncId} {p:List Int→Prop} [∀l,Tst (p l)] {r:Bool→List Int→AV} (h:∀l b,p l→FC P f [.sq l,.lit (.bool b)] (r b l)):lZ P f (cLB p r):=by
  intro args _
  unfold cLB
  split
  · exact Spec.bind (Spec.ofOpt fun l hl=>Spec.bind (Spec.ofOpt fun b hb=>Spec.bind (Spec.tellD Tst.ok fun hp=>Spec.gives ((h l b hp).le (.cons (fun E v hv=>hv.toSq hl) (.cons (Le.ofBool hb) .nil)) (Le.refl _)))))
  · exact Spec.fail
def ctrF2:Ctr:=(179,cLB pSg (fun b l=>.sq (zlP b l))) :: zmg
theorem zkB:∀p∈ctrF2,lZ Tryz.prog p.1 p.2:=CAll.cons (cLB_ok zp9) zkA
theorem zeY:(dZ Tryz.prog ctrF2 bw).OK:=QZ zkB
noncomputable section
abbrev zeE (s:St) (r:Ex × St):Prop:=Loops 0 Tryz.prog (pZ Tryz.prog 142 0) s r
abbrev zcE (a:List Int):St:=⟨sp 92 [(0,.sq a),(3,aN),(4,aI 0),(5,aI 0)],[],[]⟩
abbrev zhS (a:List Int) (b:Nat) (c d:Int) (e:List Int):St:=⟨sp 92 [(0,.sq a),(3,.own 0 0 b 1),(4,aI c),(5,aI d)],[.ints e true],[]⟩
abbrev znH (a:List Int):St:=⟨sp 92 [(0,.sq a),(3,aN),(4,aI 0),(5,aI 0)],[],[]⟩
abbrev zbQ (a:List Int) (b:Nat) (c d:Int) (e:List Int):St:=⟨sp 92 [(0,.sq a),(3,.own 0 0 b 1),(4,aI c),(5,aI d)],[.ints e true],[]⟩
theorem rn_L0_0_0 (a:List Int) (h1:0<(a.length:Int)) (h2:0<a.length) (h3:bZ (a.getD 0 0)) (h4:r64 (a.getD 0 0 % 100000000+0)) (h5:bZ (a.getD 0 0 % 100000000+0)) (h6:r64 (a.getD 0 0 / 100000000+(a.getD 0 0 % 100000000+0) / 100000000)) {r:Ex × St} (k:zeE (zhS a (1) (a.getD 0 0 / 100000000+(a.getD 0 0 % 100000000+0) / 100000000) (1) ([(a.getD 0 0 % 100000000+0) % 100000000])) r):zeE (zcE a) r:=Loops.go (LS.at zeY 60 [1] [0,3,4,5] [] [1] (.t h1<|.t h2<|.c h3<|.i h4<|.c h5<|.i h6<|.e) [1,0,1,2,3,4,5,0,0,0,0,6,0]) k
theorem rn_L0_0_1 (a:List Int) (h1:¬(0<(a.length:Int))):zeE (zcE a) (Ex.exit 0,(znH a)):=Loops.fin (LS.at zeY 60 [] [0,3,4,5] [] [0] (.f h1<|.e) [1]) (fun h=>nomatch h)
theorem rn_L0_1_0 (a:List Int) (b:Nat) (d f:Int) (g:List Int) (h1:f<(a.length:Int)) (h2:0≤f) (h3:f.toNat<a.length) (h4:bZ (a.getD f.toNat 0)) (h5:r64 (a.getD f.toNat 0 % 100000000+d)) (h6:bZ (a.getD f.toNat 0 % 100000000+d)) (h7:(b+1)*8≤140737488355328) (h8:b+1≤4611686018427387904) (h9:b≤g.length) (h10:r64 (a.getD f.toNat 0 / 100000000+(a.getD f.toNat 0 % 100000000+d) / 100000000)) (h11:r64 (f+1)) {r:Ex × St} (k:zeE (zhS a (b+1) (a.getD f.toNat 0 / 100000000+(a.getD f.toNat 0 % 100000000+d) / 100000000) (f+1) (g.take b++List.take 1 [(a.getD f.toNat 0 % 100000000+d) % 100000000])) r):zeE (zhS a b d f g) r:=Loops.go (LS.at zeY 60 [2] [0,3,4,5] [] [1] (.t h1<|.t h2<|.t h3<|.c h4<|.i h5<|.c h6<|.t h7<|.t h8<|.t h9<|.i h10<|.i h11<|.e) [1,2,1,3,4,5,6,7,8,9,0,10,11]) k
theorem rn_L0_1_1 (a:List Int) (b:Nat) (c d:Int) (g:List Int) (h1:¬(d<(a.length:Int))):zeE (zhS a b c d g) (Ex.exit 0,(zbQ a b c d g)):=Loops.fin (LS.at zeY 60 [0] [0,3,4,5] [] [0] (.f h1<|.e) [1]) (fun h=>nomatch h)
abbrev rn_L1 (s:St) (r:Ex × St):Prop:=Loops 0 Tryz.prog (pZ Tryz.prog 142 1) s r
abbrev rn_L1_0:St:=⟨sp 92 [(3,aN),(4,aI 0)],[],[]⟩
abbrev znI:St:=⟨sp 92 [(3,aN),(4,aI 0)],[],[]⟩
theorem rn_L1_0_0:rn_L1 rn_L1_0 (Ex.exit 2,znI):=Loops.fin (LS.at zeY 60 [] [3,4] [] [] (.e) []) (fun h=>nomatch h)
theorem rn_0 (x:List Int) (hL1:zeE (zcE x) (Ex.exit 0,(znH x))) (hL2:rn_L1 rn_L1_0 (Ex.exit 2,znI)) (h3:pTr []):FC Tryz.prog 142 [.sq x] (.sq []):=fZ zeY 60 [] (.v [0,3,4,5] [] hL1<|.v [3,4] [] hL2<|.c h3<|.e) [0,1,0,2,3]
abbrev zdv (s:St) (r:Ex × St):Prop:=Loops 1 Tryz.prog (pZ Tryz.prog 142 1) s r
abbrev zbD (a:Nat) (b:Int) (c:List Int):St:=⟨sp 92 [(3,.own 0 0 a 1),(4,aI b)],[.ints c true],[0]⟩
abbrev zfX (a:Nat) (b:Int) (c:List Int) (d:Nat) (e:Int) (f:List Int):St:=⟨sp 92 [(3,.own 1 0 d 1),(4,aI e)],[.dead,.ints f true],[0]⟩
abbrev zdj (a:Nat) (b:Int) (c:List Int):St:=⟨sp 92 [(3,.own 0 0 a 1),(4,aI b)],[.ints c true],[0]⟩
abbrev zdk (a:Nat) (b:Int) (c:List Int) (d:Nat) (e:Int) (f:List Int):St:=⟨sp 92 [(3,.own 1 0 d 1),(4,aI e)],[.dead,.ints f true],[0]⟩
theorem rn_L2_0_0 (a:Nat) (b:Int) (d:List Int) (h1:b≠0) (h2:b≠-1) (h3:bZ b) (h4:(a+1)*8≤140737488355328) (h5:a+1≤4611686018427387904) (h6:a≤d.length) {r:Ex × St} (k:zdv (zfX a b d (a+1) (b / 100000000) (d.take a++List.take 1 [b % 100000000])) r):zdv (zbD a b d) r:=Loops.go (LS.at zeY 60 [2] [3,4] [0] [1,1] (.c (bne_iff_ne.2 h1)<|.c (bne_iff_ne.2 h2)<|.c h3<|.t h4<|.t h5<|.t h6<|.e) [1,2,3,4,5,6,0]) k
theorem rn_L2_0_1 (a:Nat) (b:Int) (d:List Int) (h1:b≠0) (h2:b = -1):zdv (zbD a b d) (Ex.exit 2,(zdj a b d)):=Loops.fin (LS.at zeY 60 [] [3,4] [0] [1,0] (.c (bne_iff_ne.2 h1)<|.c (bne_eq_false_iff_eq.2 h2)<|.e) [1,2]) (fun h=>nomatch h)
theorem rn_L2_0_2 (a:Nat) (b:Int) (d:List Int) (h1:b=0):zdv (zbD a b d) (Ex.exit 2,(zdj a b d)):=Loops.fin (LS.at zeY 60 [] [3,4] [0] [0] (.c (bne_eq_false_iff_eq.2 h1)<|.e) [1]) (fun h=>nomatch h)
theorem rn_L2_1_0 (a:Nat) (b:Int) (d:List Int) (f:Nat) (g:Int) (i:List Int) (h1:g≠0) (h2:g≠-1) (h3:bZ g) (h4:(f+1)*8≤140737488355328) (h5:f+1≤4611686018427387904) (h6:f≤i.length) {r:Ex × St} (k:zdv (zfX a b d (f+1) (g / 100000000) (i.take f++List.take 1 [g % 100000000])) r):zdv (zfX a b d f g i) r:=Loops.go (LS.at zeY 60 [3] [3,4] [0] [1,1] (.c (bne_iff_ne.2 h1)<|.c (bne_iff_ne.2 h2)<|.c h3<|.t h4<|.t h5<|.t h6<|.e) [1,2,3,4,5,6,0]) k
theorem rn_L2_1_1 (a:Nat) (b:Int) (d:List Int) (f:Nat) (g:Int) (i:List Int) (h1:g≠0) (h2:g = -1):zdv (zfX a b d f g i) (Ex.exit 2,(zdk a b d f g i)):=Loops.fin (LS.at zeY 60 [1] [3,4] [0] [1,0] (.c (bne_iff_ne.2 h1)<|.c (bne_eq_false_iff_eq.2 h2)<|.e) [1,2]) (fun h=>nomatch h)
theorem zlI (a:Nat) (b:Int) (d:List Int) (f:Nat) (g:Int) (i:List Int) (h1:g=0):zdv (zfX a b d f g i) (Ex.exit 2,(zdk a b d f g i)):=Loops.fin (LS.at zeY 60 [1] [3,4] [0] [0] (.c (bne_eq_false_iff_eq.2 h1)<|.e) [1]) (fun h=>nomatch h)
theorem rn_1 (x:List Int) (a:Nat) (b d:Int) (f:List Int) (hL1:zeE (zcE x) (Ex.exit 0,(zbQ x a b d f))) (hL2:zdv (zbD a b f) (Ex.exit 2,(zdj a b f))) (h3:b=0) (h4:a≤f.length) (h5:pTr (f.take a)):FC Tryz.prog 142 [.sq x] (.sq (trm (f.take a))):=fZ zeY 60 [1] (.v [0,3,4,5] [] hL1<|.v [3,4] [0] hL2<|.c (beq_iff_eq.2 h3)<|.c h4<|.c h5<|.e) [0,1,0,2,3,4,5]
abbrev zfn (s:St) (r:Ex × St):Prop:=Loops 1 Tryz.prog (pZ Tryz.prog 142 2) s r
abbrev zfY (a:Nat) (b:List Int):St:=⟨sp 92 [(3,.own 0 0 a 1),(12,aN),(13,aI 0),(14,aI 0)],[.ints b true],[0]⟩
abbrev zdU (a:Nat) (b:List Int) (c:Nat) (d e:Int) (f:List Int):St:=⟨sp 92 [(3,.own 0 0 a 1),(12,.own 1 0 c 1),(13,aI d),(14,aI e)],[.ints b true,.ints f true],[0]⟩
abbrev rn_L3_E0 (a:Nat) (b:List Int):St:=⟨sp 92 [(3,.own 0 0 a 1),(12,aN),(13,aI 0),(14,aI 0)],[.ints b true],[0]⟩
abbrev zfo (a:Nat) (b:List Int) (c:Nat) (d e:Int) (f:List Int):St:=⟨sp 92 [(3,.own 0 0 a 1),(12,.own 1 0 c 1),(13,aI d),(14,aI e)],[.ints b true,.ints f true],[0]⟩
theorem rn_L3_0_0 (a:Nat) (b:List Int) (h1:0<(a:Int)) (h2:0<b.length) (h3:r64 (0-b.getD 0 0)) (h4:r64 (0-b.getD 0 0-0)) (h5:0-b.getD 0 0-0<0) (h6:r64 (0-b.getD 0 0-0+100000000)) {r:Ex × St} (k:zfn (zdU a b (1) (1) (1) ([0-b.getD 0 0-0+100000000])) r):zfn (zfY a b) r:=Loops.go (LS.at zeY 60 [2] [3,12,13,14] [0] [1,1] (.t h1<|.t h2<|.i h3<|.i h4<|.t h5<|.i h6<|.e) [1,0,1,2,3,4,5,6,0,0,0,0,0]) k
theorem rn_L3_0_1 (a:Nat) (b:List Int) (h1:0<(a:Int)) (h2:0<b.length) (h3:r64 (0-b.getD 0 0)) (h4:r64 (0-b.getD 0 0-0)) (h5:¬(0-b.getD 0 0-0<0)) {r:Ex × St} (k:zfn (zdU a b (1) (0) (1) ([0-b.getD 0 0-0])) r):zfn (zfY a b) r:=Loops.go (LS.at zeY 60 [2] [3,12,13,14] [0] [1,0] (.t h1<|.t h2<|.i h3<|.i h4<|.f h5<|.e) [1,0,1,2,3,4,5,0,0,0,0,0]) k
theorem rn_L3_0_2 (a:Nat) (b:List Int) (h1:¬(0<(a:Int))):zfn (zfY a b) (Ex.exit 4,(rn_L3_E0 a b)):=Loops.fin (LS.at zeY 60 [] [3,12,13,14] [0] [0] (.f h1<|.e) [1]) (fun h=>nomatch h)
theorem rn_L3_1_0 (a:Nat) (b:List Int) (c:Nat) (d f:Int) (g:List Int) (h1:f<(a:Int)) (h2:0≤f) (h3:0+f.toNat*1<b.length) (h4:r64 (0-b.getD (0+f.toNat*1) 0)) (h5:r64 (0-b.getD (0+f.toNat*1) 0-d)) (h6:0-b.getD (0+f.toNat*1) 0-d<0) (h7:r64 (0-b.getD (0+f.toNat*1) 0-d+100000000)) (h8:(c+1)*8≤140737488355328) (h9:c+1≤4611686018427387904) (h10:c≤g.length) (h11:r64 (f+1)) {r:Ex × St} (k:zfn (zdU a b (c+1) (1) (f+1) (g.take c++List.take 1 [0-b.getD (0+f.toNat*1) 0-d+100000000])) r):zfn (zdU a b c d f g) r:=Loops.go (LS.at zeY 60 [3] [3,12,13,14] [0] [1,1] (.t h1<|.t h2<|.t h3<|.i h4<|.i h5<|.t h6<|.i h7<|.t h8<|.t h9<|.t h10<|.i h11<|.e) [1,2,1,3,4,5,6,7,8,9,10,0,11]) k
theorem rn_L3_1_1 (a:Nat) (b:List Int) (c:Nat) (d g:Int) (j:List Int) (h1:g<(a:Int)) (h2:0≤g) (h3:0+g.toNat*1<b.length) (h4:r64 (0-b.getD (0+g.toNat*1) 0)) (h5:r64 (0-b.getD (0+g.toNat*1) 0-d)) (h6:¬(0-b.getD (0+g.toNat*1) 0-d<0)) (h7:(c+1)*8≤140737488355328) (h8:c+1≤4611686018427387904) (h9:c≤j.length) (h10:r64 (g+1)) {r:Ex × St} (k:zfn (zdU a b (c+1) (0) (g+1) (j.take c++List.take 1 [0-b.getD (0+g.toNat*1) 0-d])) r):zfn (zdU a b c d g j) r:=Loops.go (LS.at zeY 60 [3] [3,12,13,14] [0] [1,0] (.t h1<|.t h2<|.t h3<|.i h4<|.i h5<|.f h6<|.t h7<|.t h8<|.t h9<|.i h10<|.e) [1,2,1,3,4,5,6,7,8,9,0,10]) k
theorem rn_L3_1_2 (a:Nat) (b:List Int) (c:Nat) (d g:Int) (i:List Int) (h1:¬(g<(a:Int))):zfn (zdU a b c d g i) (Ex.exit 4,(zfo a b c d g i)):=Loops.fin (LS.at zeY 60 [1] [3,12,13,14] [0] [0] (.f h1<|.e) [1]) (fun h=>nomatch h)
theorem rn_3 (x:List Int) (a:Nat) (b d:Int) (f:List Int) (g:Nat) (i j:Int) (l:List Int) (hL1:zeE (zcE x) (Ex.exit 0,(zbQ x a b d f))) (hL2:zdv (zbD a b f) (Ex.exit 2,(zdj a b f))) (h3:b≠0) (hL3:zfn (zfY a f) (Ex.exit 4,(zfo a f g i j l))) (h5:i=0) (h6:(g+1)*8≤140737488355328) (h7:g+1≤4611686018427387904) (h8:g≤l.length) (h9:g+1≤(l.take g++List.take 1 [1]).length) (h10:pSg ((l.take g++List.take 1 [1]).take (g+1))):FC Tryz.prog 142 [.sq x] (.sq (zlP true ((l.take g++List.take 1 [1]).take (g+1)))):=fZ zeY 60 [0,1] (.v [0,3,4,5] [] hL1<|.v [3,4] [0] hL2<|.c (beq_false_of_ne h3)<|.v [3,12,13,14] [0] hL3<|.c (beq_iff_eq.2 h5)<|.t h6<|.t h7<|.t h8<|.c h9<|.c h10<|.e) [0,1,0,2,3,0,4,5,6,7,8,0,9,10]
theorem rn_4 (x:List Int) (a:Nat) (b d:Int) (f:List Int) (g:Nat) (i j:Int) (l:List Int) (hL1:zeE (zcE x) (Ex.exit 0,(zbQ x a b d f))) (hL2:zdv (zbD a b f) (Ex.exit 2,(zdj a b f))) (h3:b≠0) (hL3:zfn (zfY a f) (Ex.exit 4,(zfo a f g i j l))) (h5:i≠0) (h6:g≤l.length) (h7:pSg (l.take g)):FC Tryz.prog 142 [.sq x] (.sq (zlP true (l.take g))):=fZ zeY 60 [0,0] (.v [0,3,4,5] [] hL1<|.v [3,4] [0] hL2<|.c (beq_false_of_ne h3)<|.v [3,12,13,14] [0] hL3<|.c (beq_false_of_ne h5)<|.c h6<|.c h7<|.e) [0,1,0,2,3,0,4,5,6,7]
theorem rn_5 (x:List Int) (a:Nat) (b d:Int) (f:List Int) (g:Nat) (i:Int) (j:List Int) (hL1:zeE (zcE x) (Ex.exit 0,(zbQ x a b d f))) (hL2:zdv (zbD a b f) (Ex.exit 2,(zdk a b f g i j))) (h3:i=0) (h4:g≤j.length) (h5:pTr (j.take g)):FC Tryz.prog 142 [.sq x] (.sq (trm (j.take g))):=fZ zeY 60 [1] (.v [0,3,4,5] [] hL1<|.v [3,4] [0] hL2<|.c (beq_iff_eq.2 h3)<|.c h4<|.c h5<|.e) [0,1,0,2,3,4,5]
abbrev zfZ (s:St) (r:Ex × St):Prop:=Loops 2 Tryz.prog (pZ Tryz.prog 142 2) s r
abbrev zhT (a:Nat) (b:List Int):St:=⟨sp 92 [(3,.own 1 0 a 1),(12,aN),(13,aI 0),(14,aI 0)],[.dead,.ints b true],[0]⟩
abbrev zdV (a:Nat) (b:List Int) (c:Nat) (d e:Int) (f:List Int):St:=⟨sp 92 [(3,.own 1 0 a 1),(12,.own 2 0 c 1),(13,aI d),(14,aI e)],[.dead,.ints b true,.ints f true],[0]⟩
abbrev zfp (a:Nat) (b:List Int) (c:Nat) (d e:Int) (f:List Int):St:=⟨sp 92 [(3,.own 1 0 a 1),(12,.own 2 0 c 1),(13,aI d),(14,aI e)],[.dead,.ints b true,.ints f true],[0]⟩
theorem rn_L4_0_0 (a:Nat) (b:List Int) (h1:0<(a:Int)) (h2:0<b.length) (h3:r64 (0-b.getD 0 0)) (h4:r64 (0-b.getD 0 0-0)) (h5:0-b.getD 0 0-0<0) (h6:r64 (0-b.getD 0 0-0+100000000)) {r:Ex × St} (k:zfZ (zdV a b (1) (1) (1) ([0-b.getD 0 0-0+100000000])) r):zfZ (zhT a b) r:=Loops.go (LS.at zeY 60 [3] [3,12,13,14] [0] [1,1] (.t h1<|.t h2<|.i h3<|.i h4<|.t h5<|.i h6<|.e) [1,0,1,2,3,4,5,6,0,0,0,0,0]) k
theorem rn_L4_0_1 (a:Nat) (b:List Int) (h1:0<(a:Int)) (h2:0<b.length) (h3:r64 (0-b.getD 0 0)) (h4:r64 (0-b.getD 0 0-0)) (h5:¬(0-b.getD 0 0-0<0)) {r:Ex × St} (k:zfZ (zdV a b (1) (0) (1) ([0-b.getD 0 0-0])) r):zfZ (zhT a b) r:=Loops.go (LS.at zeY 60 [3] [3,12,13,14] [0] [1,0] (.t h1<|.t h2<|.i h3<|.i h4<|.f h5<|.e) [1,0,1,2,3,4,5,0,0,0,0,0]) k
theorem rn_L4_1_0 (a:Nat) (b:List Int) (c:Nat) (d f:Int) (g:List Int) (h1:f<(a:Int)) (h2:0≤f) (h3:0+f.toNat*1<b.length) (h4:r64 (0-b.getD (0+f.toNat*1) 0)) (h5:r64 (0-b.getD (0+f.toNat*1) 0-d)) (h6:0-b.getD (0+f.toNat*1) 0-d<0) (h7:r64 (0-b.getD (0+f.toNat*1) 0-d+100000000)) (h8:(c+1)*8≤140737488355328) (h9:c+1≤4611686018427387904) (h10:c≤g.length) (h11:r64 (f+1)) {r:Ex × St} (k:zfZ (zdV a b (c+1) (1) (f+1) (g.take c++List.take 1 [0-b.getD (0+f.toNat*1) 0-d+100000000])) r):zfZ (zdV a b c d f g) r:=Loops.go (LS.at zeY 60 [4] [3,12,13,14] [0] [1,1] (.t h1<|.t h2<|.t h3<|.i h4<|.i h5<|.t h6<|.i h7<|.t h8<|.t h9<|.t h10<|.i h11<|.e) [1,2,1,3,4,5,6,7,8,9,10,0,11]) k
theorem rn_L4_1_1 (a:Nat) (b:List Int) (c:Nat) (d g:Int) (j:List Int) (h1:g<(a:Int)) (h2:0≤g) (h3:0+g.toNat*1<b.length) (h4:r64 (0-b.getD (0+g.toNat*1) 0)) (h5:r64 (0-b.getD (0+g.toNat*1) 0-d)) (h6:¬(0-b.getD (0+g.toNat*1) 0-d<0)) (h7:(c+1)*8≤140737488355328) (h8:c+1≤4611686018427387904) (h9:c≤j.length) (h10:r64 (g+1)) {r:Ex × St} (k:zfZ (zdV a b (c+1) (0) (g+1) (j.take c++List.take 1 [0-b.getD (0+g.toNat*1) 0-d])) r):zfZ (zdV a b c d g j) r:=Loops.go (LS.at zeY 60 [4] [3,12,13,14] [0] [1,0] (.t h1<|.t h2<|.t h3<|.i h4<|.i h5<|.f h6<|.t h7<|.t h8<|.t h9<|.i h10<|.e) [1,2,1,3,4,5,6,7,8,9,0,10]) k
theorem rn_L4_1_2 (a:Nat) (b:List Int) (c:Nat) (d g:Int) (i:List Int) (h1:¬(g<(a:Int))):zfZ (zdV a b c d g i) (Ex.exit 4,(zfp a b c d g i)):=Loops.fin (LS.at zeY 60 [2] [3,12,13,14] [0] [0] (.f h1<|.e) [1]) (fun h=>nomatch h)
theorem rn_7 (x:List Int) (a:Nat) (b d:Int) (f:List Int) (g:Nat) (i:Int) (j:List Int) (l:Nat) (m n:Int) (o:List Int) (hL1:zeE (zcE x) (Ex.exit 0,(zbQ x a b d f))) (hL2:zdv (zbD a b f) (Ex.exit 2,(zdk a b f g i j))) (h3:i≠0) (hL3:zfZ (zhT g j) (Ex.exit 4,(zfp g j l m n o))) (h5:m=0) (h6:(l+1)*8≤140737488355328) (h7:l+1≤4611686018427387904) (h8:l≤o.length) (h9:l+1≤(o.take l++List.take 1 [1]).length) (h10:pSg ((o.take l++List.take 1 [1]).take (l+1))):FC Tryz.prog 142 [.sq x] (.sq (zlP true ((o.take l++List.take 1 [1]).take (l+1)))):=fZ zeY 60 [0,1] (.v [0,3,4,5] [] hL1<|.v [3,4] [0] hL2<|.c (beq_false_of_ne h3)<|.v [3,12,13,14] [0] hL3<|.c (beq_iff_eq.2 h5)<|.t h6<|.t h7<|.t h8<|.c h9<|.c h10<|.e) [0,1,0,2,3,0,4,5,6,7,8,0,9,10]
theorem rn_8 (x:List Int) (a:Nat) (b d:Int) (f:List Int) (g:Nat) (i:Int) (j:List Int) (l:Nat) (m n:Int) (o:List Int) (hL1:zeE (zcE x) (Ex.exit 0,(zbQ x a b d f))) (hL2:zdv (zbD a b f) (Ex.exit 2,(zdk a b f g i j))) (h3:i≠0) (hL3:zfZ (zhT g j) (Ex.exit 4,(zfp g j l m n o))) (h5:m≠0) (h6:l≤o.length) (h7:pSg (o.take l)):FC Tryz.prog 142 [.sq x] (.sq (zlP true (o.take l))):=fZ zeY 60 [0,0] (.v [0,3,4,5] [] hL1<|.v [3,4] [0] hL2<|.c (beq_false_of_ne h3)<|.v [3,12,13,14] [0] hL3<|.c (beq_false_of_ne h5)<|.c h6<|.c h7<|.e) [0,1,0,2,3,0,4,5,6,7]
end
theorem zf1 (out:List Int) (d:Int):List.take out.length out++List.take 1 [d]=out++[d]:=by simp
theorem zbg {out:List Int} {d:Int} (h:Digs out) (h0:0≤d) (h1:d<100000000):Digs (out++[d]):=by
  intro e he
  rcases List.mem_append.1 he with h2 | h2
  · exact h e h2
  · simp at h2;subst h2;exact ⟨h0,h1⟩
theorem rnA:∀(m:Nat) (x:List Int) (i:Nat) (c:Int) (out:List Int),i+m=x.length→x.length≤1000000000→(∀d∈x,bZ d)→Digs out→out.length+m≤1000000000→-1000000000000≤c→c≤1000000000000 →
    ∃c' out',Digs out'∧out'.length=out.length+m∧vl out'+100000000 ^ out'.length*c'=vl out+100000000 ^ out.length*(c+vl (x.drop i))∧-1000000000000≤c'∧c'≤1000000000000 ∧
      zeE (zhS x out.length c i out) (.exit 0,zbQ x out'.length c' x.length out'):=by
  intro m
  induction m with
  | zero=>
    intro x i c out hi hxl hx hd hl h1 h2
    have hi':i=x.length:=by omega
    subst hi'
    exact ⟨c,out,hd,rfl,by simp [vl],h1,h2,rn_L0_1_1 x out.length c x.length out (by omega)⟩
  | succ m ih=>
    intro x i c out hi hxl hx hd hl h1 h2
    have hlt:i<x.length:=by omega
    have hxi:=hx (x.getD i 0) (by simp [List.getD,hlt])
    have hdr:x.drop i=x.getD i 0 :: x.drop (i+1):=by rw [List.drop_eq_getElem_cons hlt];simp [List.getD,hlt]
    have hxi':=hxi
    unfold bZ at hxi'
    obtain ⟨c',out',k1,k2,k3,k4,k5,k6⟩:=ih x (i+1) (x.getD i 0 / 100000000+(x.getD i 0 % 100000000+c) / 100000000) (out++[(x.getD i 0 % 100000000+c) % 100000000]) (by omega) hxl hx
      (zbg hd (by omega) (by omega)) (by simp;omega) (by omega) (by omega)
    refine ⟨c',out',k1,by simp at k2;omega,?_,k4,k5,?_⟩
    · rw [k3,hdr]
      exact zf5 _ _ _ _ _ _ (by omega)
    · have hn:Int.toNat (i:Int)=i:=by omega
      refine rn_L0_1_0 x out.length c i out (by omega) (by omega) (by omega) ?_ ?_ ?_ (by omega) (by omega) (by omega) ?_ (by omega) ?_<;>(try rw [hn])
      · exact hxi
      · omega
      · unfold bZ;omega
      · omega
      · rw [zf1]
        simpa using k6
theorem rnB:∀(m:Nat) (p:Nat) (q:Int) (l:List Int) (c:Int) (out:List Int),c.natAbs≤m→-1000000000000≤c→c≤1000000000000→Digs out→out.length+m≤10000000000000 →
    ∃c' out',(c'=0∨c' = -1)∧Digs out'∧(out.length≤out'.length∧out'.length≤out.length+m)∧vl out'+100000000 ^ out'.length*c'=vl out+100000000 ^ out.length*c ∧
      zdv (zfX p q l out.length c out) (.exit 2,zdk p q l out'.length c' out'):=by
  intro m
  induction m with
  | zero=>
    intro p q l c out hm h1 h2 hd hl
    have:c=0:=by omega
    subst this
    exact ⟨0,out,.inl rfl,hd,⟨Nat.le_refl _,by omega⟩,rfl,zlI p q l out.length 0 out rfl⟩
  | succ m ih=>
    intro p q l c out hm h1 h2 hd hl
    by_cases h0:c=0
    · subst h0;exact ⟨0,out,.inl rfl,hd,⟨Nat.le_refl _,by omega⟩,rfl,zlI p q l out.length 0 out rfl⟩
    by_cases h3:c = -1
    · subst h3;exact ⟨-1,out,.inr rfl,hd,⟨Nat.le_refl _,by omega⟩,rfl,rn_L2_1_1 p q l out.length (-1) out (by omega) rfl⟩
    obtain ⟨c',out',k1,k2,k3,k4,k5⟩:=ih p q l (c / 100000000) (out++[c % 100000000]) (by omega) (by omega) (by omega) (zbg hd (by omega) (by omega)) (by simp;omega)
    refine ⟨c',out',k1,k2,⟨by have:=k3.1;simp at this;omega,by have:=k3.2;simp at this;omega⟩,?_,?_⟩
    · rw [k4]
      have:=zf5 out 0 c (c % 100000000) (c / 100000000) 0 (by omega)
      simpa using this
    · refine rn_L2_1_0 p q l out.length c out h0 h3 (by unfold bZ;omega) (by omega) (by omega) (by omega) ?_
      rw [zf1]
      simpa using k5
theorem rnC (LP:St→Ex × St→Prop) (F:Nat→Int→Int→List Int→St) (G:Nat→Int→Int→List Int→Ex × St) (out:List Int)
    (hs0:∀(k:Nat) (b:Int) (sz:List Int) (r:Ex × St),k<out.length→sz.length=k→(b=0∨b=1)→0-out.getD k 0-b<0→LP (F (k+1) 1 (k+1) (sz++[0-out.getD k 0-b+100000000])) r→LP (F k b k sz) r)
    (hs1:∀(k:Nat) (b:Int) (sz:List Int) (r:Ex × St),k<out.length→sz.length=k→(b=0∨b=1)→¬(0-out.getD k 0-b<0)→LP (F (k+1) 0 (k+1) (sz++[0-out.getD k 0-b])) r→LP (F k b k sz) r)
    (hx:∀(b:Int) (sz:List Int),LP (F out.length b out.length sz) (G out.length b out.length sz)) (hd:Digs out) :
    ∀(m k:Nat) (b:Int) (sz:List Int),k+m=out.length→sz.length=k→(b=0∨b=1)→Digs sz→vl sz=100000000 ^ k*b-vl (out.take k) →
      ∃b' sz',(b'=0∨b'=1)∧Digs sz'∧sz'.length=out.length∧vl sz'=100000000 ^ out.length*b'-vl out∧LP (F k b k sz) (G out.length b' out.length sz'):=by
  intro m
  induction m with
  | zero=>
    intro k b sz hk hl hb hs hv
    have:k=out.length:=by omega
    subst this
    rw [List.take_length] at hv
    exact ⟨b,sz,hb,hs,hl,hv,hx b sz⟩
  | succ m ih=>
    intro k b sz hk hl hb hs hv
    have hlt:k<out.length:=by omega
    have hg:out[k]=out.getD k 0:=by simp [List.getD,hlt]
    have hdk:=hd (out.getD k 0) (by simp [List.getD,hlt])
    have htk:out.take (k+1)=out.take k++[out.getD k 0]:=by rw [List.take_succ_eq_append_getElem hlt,hg]
    have hlk:(out.take k).length=k:=by simp;omega
    have a0:=hs0 k b sz
    have a1:=hs1 k b sz
    clear hg
    generalize out.getD k 0=d at *
    have val:∀(e b':Int),0-d-b=e-100000000*b'→vl (sz++[e])=100000000 ^ (k+1)*b'-vl (out.take (k+1)):=by
      intro e b' he
      rw [htk,zca,zca,hl,hlk,hv,Int.pow_succ]
      have:e=100000000*b'-d-b:=by omega
      rw [this,Int.mul_sub,Int.mul_sub,← Int.mul_assoc]
      omega
    by_cases h:0-d-b<0
    · obtain ⟨b',sz',k1,k2,k3,k4,k5⟩:=ih (k+1) 1 (sz++[0-d-b+100000000]) (by omega) (by simp [hl]) (.inr rfl) (zbg hs (by omega) (by omega)) (val _ _ (by omega))
      exact ⟨b',sz',k1,k2,k3,k4,a0 _ hlt hl hb h (by simpa using k5)⟩
    · obtain ⟨b',sz',k1,k2,k3,k4,k5⟩:=ih (k+1) 0 (sz++[0-d-b]) (by omega) (by simp [hl]) (.inl rfl) (zbg hs (by omega) (by omega)) (val _ _ (by omega))
      exact ⟨b',sz',k1,k2,k3,k4,a1 _ hlt hl hb h (by simpa using k5)⟩
theorem rnL3 (out:List Int) (hd:Digs out) (hne:out≠[]) (hl:out.length≤10000000000000) :
    ∃b' sz',(b'=0∨b'=1)∧Digs sz'∧sz'.length=out.length∧vl sz'=100000000 ^ out.length*b'-vl out∧zfn (zfY out.length out) (.exit 4,zfo out.length out out.length b' out.length sz'):=by
  have h0:0<out.length:=List.length_pos_iff.2 hne
  have hd0:=hd (out.getD 0 0) (by simp [List.getD,h0])
  have hg:out[0]=out.getD 0 0:=by simp [List.getD,h0]
  have ht:out.take 1=[out.getD 0 0]:=by rw [List.take_succ_eq_append_getElem h0,hg];rfl
  have key:=rnC zfn (fun n b k sz=>zdU out.length out n b k sz) (fun n b k sz=>(.exit 4,zfo out.length out n b k sz)) out
    (fun k b sz r hk hs hb h kk=>by
      have hdk:=hd (out.getD k 0) (by simp [List.getD,hk])
      have hn:0+Int.toNat (k:Int)*1=k:=by omega
      refine rn_L3_1_0 out.length out k b k sz (by omega) (by omega) ?_ ?_ ?_ ?_ ?_ (by omega) (by omega) (by omega) (by omega) ?_<;>rw [hn]
      · omega
      · omega
      · rcases hb with rfl | rfl<;>omega
      · exact h
      · rcases hb with rfl | rfl<;>omega
      · have:=zf1 sz (0-out.getD k 0-b+100000000)
        rw [hs] at this
        rw [this];exact kk)
    (fun k b sz r hk hs hb h kk=>by
      have hdk:=hd (out.getD k 0) (by simp [List.getD,hk])
      have hn:0+Int.toNat (k:Int)*1=k:=by omega
      refine rn_L3_1_1 out.length out k b k sz (by omega) (by omega) ?_ ?_ ?_ ?_ (by omega) (by omega) (by omega) (by omega) ?_<;>rw [hn]
      · omega
      · omega
      · rcases hb with rfl | rfl<;>omega
      · exact h
      · have:=zf1 sz (0-out.getD k 0-b)
        rw [hs] at this
        rw [this];exact kk)
    (fun b sz=>rn_L3_1_2 out.length out out.length b out.length sz (by omega)) hd
  by_cases h:0-out.getD 0 0-0<0
  · obtain ⟨b',sz',k1,k2,k3,k4,k5⟩:=key (out.length-1) 1 1 [0-out.getD 0 0-0+100000000] (by omega) rfl (.inr rfl) (zbg (out:=[]) (fun d hd=>by cases hd) (by omega) (by omega)) (by rw [ht];simp only [vl];omega)
    exact ⟨b',sz',k1,k2,k3,k4,rn_L3_0_0 out.length out (by omega) (by omega) (by omega) (by omega) h (by omega) k5⟩
  · obtain ⟨b',sz',k1,k2,k3,k4,k5⟩:=key (out.length-1) 1 0 [0-out.getD 0 0-0] (by omega) rfl (.inl rfl) (zbg (out:=[]) (fun d hd=>by cases hd) (by omega) (by omega)) (by rw [ht];simp only [vl];omega)
    exact ⟨b',sz',k1,k2,k3,k4,rn_L3_0_1 out.length out (by omega) (by omega) (by omega) (by omega) h k5⟩
theorem rnL4 (out:List Int) (hd:Digs out) (hne:out≠[]) (hl:out.length≤10000000000000) :
    ∃b' sz',(b'=0∨b'=1)∧Digs sz'∧sz'.length=out.length∧vl sz'=100000000 ^ out.length*b'-vl out∧zfZ (zhT out.length out) (.exit 4,zfp out.length out out.length b' out.length sz'):=by
  have h0:0<out.length:=List.length_pos_iff.2 hne
  have hd0:=hd (out.getD 0 0) (by simp [List.getD,h0])
  have hg:out[0]=out.getD 0 0:=by simp [List.getD,h0]
  have ht:out.take 1=[out.getD 0 0]:=by rw [List.take_succ_eq_append_getElem h0,hg];rfl
  have key:=rnC zfZ (fun n b k sz=>zdV out.length out n b k sz) (fun n b k sz=>(.exit 4,zfp out.length out n b k sz)) out
    (fun k b sz r hk hs hb h kk=>by
      have hdk:=hd (out.getD k 0) (by simp [List.getD,hk])
      have hn:0+Int.toNat (k:Int)*1=k:=by omega
      refine rn_L4_1_0 out.length out k b k sz (by omega) (by omega) ?_ ?_ ?_ ?_ ?_ (by omega) (by omega) (by omega) (by omega) ?_<;>rw [hn]
      · omega
      · omega
      · rcases hb with rfl | rfl<;>omega
      · exact h
      · rcases hb with rfl | rfl<;>omega
      · have:=zf1 sz (0-out.getD k 0-b+100000000)
        rw [hs] at this
        rw [this];exact kk)
    (fun k b sz r hk hs hb h kk=>by
      have hdk:=hd (out.getD k 0) (by simp [List.getD,hk])
      have hn:0+Int.toNat (k:Int)*1=k:=by omega
      refine rn_L4_1_1 out.length out k b k sz (by omega) (by omega) ?_ ?_ ?_ ?_ (by omega) (by omega) (by omega) (by omega) ?_<;>rw [hn]
      · omega
      · omega
      · rcases hb with rfl | rfl<;>omega
      · exact h
      · have:=zf1 sz (0-out.getD k 0-b)
        rw [hs] at this
        rw [this];exact kk)
    (fun b sz=>rn_L4_1_2 out.length out out.length b out.length sz (by omega)) hd
  by_cases h:0-out.getD 0 0-0<0
  · obtain ⟨b',sz',k1,k2,k3,k4,k5⟩:=key (out.length-1) 1 1 [0-out.getD 0 0-0+100000000] (by omega) rfl (.inr rfl) (zbg (out:=[]) (fun d hd=>by cases hd) (by omega) (by omega)) (by rw [ht];simp only [vl];omega)
    exact ⟨b',sz',k1,k2,k3,k4,rn_L4_0_0 out.length out (by omega) (by omega) (by omega) (by omega) h (by omega) k5⟩
  · obtain ⟨b',sz',k1,k2,k3,k4,k5⟩:=key (out.length-1) 1 0 [0-out.getD 0 0-0] (by omega) rfl (.inl rfl) (zbg (out:=[]) (fun d hd=>by cases hd) (by omega) (by omega)) (by rw [ht];simp only [vl];omega)
    exact ⟨b',sz',k1,k2,k3,k4,rn_L4_0_1 out.length out (by omega) (by omega) (by omega) (by omega) h k5⟩
theorem zns {out:List Int} (hd:Digs out):trm out=aZ (vl out):=by
  rw [zaT hd]
  have:=LZ hd
  unfold aZ
  rw [if_neg (by omega)]
  congr 1;omega
theorem nf_neg {sz:List Int} (hd:Digs sz) (h:0<vl sz):zlP true sz=aZ (-vl sz):=by
  unfold zlP aZ
  rw [if_pos (by omega),zaT hd,show(-vl sz).natAbs=(vl sz).toNat by omega]
theorem nf_cpl {out sz:List Int} {b v:Int} (ho:Digs out) (hs:Digs sz) (hl:sz.length=out.length) (hb:b=0∨b=1) (hv:vl out-100000000 ^ out.length=v) (hz:vl sz=100000000 ^ out.length*b-vl out) :
    (b=0→zlP true (sz++[1])=aZ v)∧(b≠0→zlP true sz=aZ v):=by
  have h1:=zf4 ho
  have h2:=LZ hs
  have h3:=LZ ho
  constructor
  · rintro rfl
    have e:vl (sz++[1]) = -v:=by rw [zca,hl];omega
    rw [nf_neg (zbg hs (by decide) (by decide)) (by omega),e,Int.neg_neg]
  · intro h0
    have hb1:b=1:=by omega
    subst hb1
    have e:vl sz = -v:=by omega
    rw [nf_neg hs (by omega),e,Int.neg_neg]
theorem zjs {l:List Int} (hd:Digs l) (hl:l.length≤1048576):pSg l:=⟨hl,fun d h=>by have:=hd d h;omega⟩
def pNm (x:List Int):Prop:=x.length≤1000000∧∀d∈x,bZ d
theorem zoO (x:List Int) (h:pNm x):FC Tryz.prog 142 [.sq x] (.ni (vl x)):=by
  obtain ⟨hx,hp⟩:=h
  have toNi:∀ {l:List Int},l=aZ (vl x)→FC Tryz.prog 142 [.sq x] (.sq l)→FC Tryz.prog 142 [.sq x] (.ni (vl x)):=fun hl hf=>hf.res fun E v hr=>hr.toNi rfl hl
  cases x with
  | nil=>exact toNi rfl (rn_0 [] (rn_L0_0_1 [] (by simp)) rn_L1_0_0 (by unfold pTr;simp))
  | cons d x=>
    have hd:=hp d (by simp)
    have hd':=hd
    unfold bZ at hd'
    obtain ⟨c,out,a1,a2,a3,a4,a5,a6⟩:=rnA x.length (d :: x) 1 (d / 100000000+(d % 100000000+0) / 100000000) [(d % 100000000+0) % 100000000] (by simp;omega) (by simp at hx ⊢;omega) hp
      (zbg (out:=[]) (fun d hd=>by cases hd) (by omega) (by omega)) (by simp at hx ⊢;omega) (by omega) (by omega)
    have hL0:zeE (zcE (d :: x)) (.exit 0,zbQ (d :: x) out.length c (d :: x).length out):=
      rn_L0_0_0 (d :: x) (by simp<;>omega) (by simp) hd (by simp only [List.getD_cons_zero];omega) (by simp only [List.getD_cons_zero];unfold bZ;omega) (by simp only [List.getD_cons_zero];omega) a6
    have hv:vl out+100000000 ^ out.length*c=vl (d :: x):=by
      rw [a3]
      simp only [vl,List.length_singleton,List.drop_succ_cons,List.drop_zero,Int.pow_succ,Int.pow_zero]
      omega
    have hol:out.length≤1000000:=by simp at a2 hx;omega
    have hone:out≠[]:=by intro h;rw [h] at a2;simp at a2;omega
    have take_all2:∀l:List Int,l.take l.length=l:=fun l=>List.take_length
    by_cases c0:c=0
    · have hL2:zdv (zbD out.length c out) (.exit 2,zdj out.length c out):=rn_L2_0_2 _ _ _ c0
      have:=rn_1 (d :: x) out.length c (d :: x).length out hL0 hL2 c0 (Nat.le_refl _) (by rw [take_all2];unfold pTr;omega)
      rw [take_all2] at this
      refine toNi ?_ this
      rw [zns a1,← hv,c0,Int.mul_zero,Int.add_zero]
    by_cases c1:c = -1
    · have hL2:zdv (zbD out.length c out) (.exit 2,zdj out.length c out):=rn_L2_0_1 _ _ _ c0 c1
      obtain ⟨b,sz,k1,k2,k3,k4,k5⟩:=rnL3 out a1 hone (by omega)
      have hcp:=nf_cpl (v:=vl (d :: x)) a1 k2 k3 k1 (by rw [← hv,c1];omega) k4
      by_cases hb:b=0
      · have es:=zf1 sz 1
        rw [k3] at es
        have ea:List.take (out.length+1) (sz++[1])=sz++[1]:=List.take_of_length_le (by simp [k3])
        have hres:=rn_3 (d :: x) out.length c (d :: x).length out out.length b out.length sz hL0 hL2 c0 k5 hb (by omega) (by omega) (by omega) (by rw [es];simp [k3]) (by rw [es,ea];exact zjs (zbg k2 (by decide) (by decide)) (by simp;omega))
        rw [es,ea] at hres
        exact toNi (hcp.1 hb) hres
      · have ea:List.take out.length sz=sz:=by rw [← k3];exact List.take_length
        have hres:=rn_4 (d :: x) out.length c (d :: x).length out out.length b out.length sz hL0 hL2 c0 k5 hb (by omega) (by rw [ea];exact zjs k2 (by omega))
        rw [ea] at hres
        exact toNi (hcp.2 hb) hres
    · obtain ⟨c',out',e1,e2,e3,e4,e5⟩:=rnB (c / 100000000).natAbs out.length c out (c / 100000000) (out++[c % 100000000]) (Nat.le_refl _) (by omega) (by omega) (zbg a1 (by omega) (by omega)) (by simp;omega)
      have hL2:zdv (zbD out.length c out) (.exit 2,zdk out.length c out out'.length c' out'):=by
        refine rn_L2_0_0 _ _ _ c0 c1 (by unfold bZ;omega) (by omega) (by omega) (by omega) ?_
        rw [zf1];simpa using e5
      have hv':vl out'+100000000 ^ out'.length*c'=vl (d :: x):=by
        rw [e4,← hv]
        have:=zf5 out 0 c (c % 100000000) (c / 100000000) 0 (by omega)
        simpa using this
      have hol':out'.length≤1048000:=by have:=e3.2;simp at this;omega
      have hone':out'≠[]:=by intro h;have:=e3.1;rw [h] at this;simp at this
      rcases e1 with rfl | rfl
      · have:=rn_5 (d :: x) out.length c (d :: x).length out out'.length 0 out' hL0 hL2 rfl (Nat.le_refl _) (by rw [take_all2];unfold pTr;omega)
        rw [take_all2] at this
        refine toNi ?_ this
        rw [zns e2,← hv',Int.mul_zero,Int.add_zero]
      · obtain ⟨b,sz,k1,k2,k3,k4,k5⟩:=rnL4 out' e2 hone' (by omega)
        have hcp:=nf_cpl (v:=vl (d :: x)) e2 k2 k3 k1 (by rw [← hv'];omega) k4
        by_cases hb:b=0
        · have es:=zf1 sz 1
          rw [k3] at es
          have ea:List.take (out'.length+1) (sz++[1])=sz++[1]:=List.take_of_length_le (by simp [k3])
          have hres:=rn_7 (d :: x) out.length c (d :: x).length out out'.length (-1) out' out'.length b out'.length sz hL0 hL2 (by decide) k5 hb (by omega) (by omega) (by omega) (by rw [es];simp [k3]) (by rw [es,ea];exact zjs (zbg k2 (by decide) (by decide)) (by simp;omega))
          rw [es,ea] at hres
          exact toNi (hcp.1 hb) hres
        · have ea:List.take out'.length sz=sz:=by rw [← k3];exact List.take_length
          have hres:=rn_8 (d :: x) out.length c (d :: x).length out out'.length (-1) out' out'.length b out'.length sz hL0 hL2 (by decide) k5 hb (by omega) (by rw [ea];exact zjs k2 (by omega))
          rw [ea] at hres
          exact toNi (hcp.2 hb) hres
abbrev IN (a b:List Int) (i:Int):St:=⟨sp 26 [(0,.sq a),(1,.sq b),(4,.ff),(5,.lit (.int .i64 i))],[],[]⟩
noncomputable section
theorem xA_0 (x y:List Int):FunI (dZ Tryz.prog zbc bw) 60 65 [.sq x,.sq y] [] [] [1,2,0,0,3,0,4] (.ni (vl x+vl y)) [zbu x,zbu y,pDD (vl x) (vl y),dl (vl x+vl y)≤1048576]:={}
theorem xS_0 (x y:List Int):FunI (dZ Tryz.prog zbc bw) 60 64 [.sq x,.sq y] [] [] [1,2,0,0,0,0,3,0,4] (.ni (vl x + -vl y)) [zbu x,zbu y,pDD (vl x) (-vl y),dl (vl x + -vl y)≤1048576]:={}
theorem xC_0 (x y:List Int):FunI (dZ Tryz.prog zbc bw) 60 66 [.sq x,.sq y] [] [] [1,2,0,0,3] (aI (vl x-vl y).sign) [zbu x,zbu y,pDD (vl x) (vl y)]:={}
theorem xD_0 (x y:List Int):FunI (dZ Tryz.prog zbc bw) 60 79 [.sq x,.sq y] [1] [] [1,0,0,2] (.tup [aN,aN,aI 12]) [zbu y,((vl y).sign==0)=true]:={}
theorem xD_1 (x y:List Int):FunI (dZ Tryz.prog zbc bw) 60 79 [.sq x,.sq y] [0] [] [1,0,0,2,3,0,0,4,0,0,0,4,0,0,4,0,0,0,4,0,0,4,0,0,0,3,0,0,4,0,0,4,0,3,0,0,4,0,3,0,0,4,0,0,4,0,3,0,0,4,0,0,0,0,5,0,6] (.tup [.ni (vl x / vl y),.ni (vl x % vl y),aI 0]) [zbu y,((vl y).sign==0)=false,zbu x,zfV (vl x) (vl y),dl (vl x / vl y)≤1048576,dl (vl x % vl y)≤1048576]:={}
theorem inL_0 (a b:List Int) (i:Int):RndI (dZ Tryz.prog zbc bw) 60 (pZ Tryz.prog 58 0) 0 [] [0,1,4,5] [] (IN a b i) [1,1] [] [1,2,1,3,2,4,5,6] (Ex.ret) (⟨sp 26 [(0,.sq a),(1,.sq b),(4,.ff),(5,aI i)],[],[]⟩) [decide (i<(a.length:Int))=true,decide (0≤i)=true,decide (i.toNat<a.length)=true,decide (i<(b.length:Int))=true,decide (i.toNat<b.length)=true,(a.getD i.toNat 0 != b.getD i.toNat 0)=true]:={}
theorem inL_1 (a b:List Int) (i:Int):RndI (dZ Tryz.prog zbc bw) 60 (pZ Tryz.prog 58 0) 0 [] [0,1,4,5] [] (IN a b i) [1,0] [] [1,2,1,3,2,4,5,6,7] (Ex.normal) (⟨sp 26 [(0,.sq a),(1,.sq b),(4,.ff),(5,aI (i+1))],[],[]⟩) [decide (i<(a.length:Int))=true,decide (0≤i)=true,decide (i.toNat<a.length)=true,decide (i<(b.length:Int))=true,decide (i.toNat<b.length)=true,(a.getD i.toNat 0 != b.getD i.toNat 0)=false,inR .i64 (i+1)=true]:={}
theorem inL_2 (a b:List Int) (i:Int):RndI (dZ Tryz.prog zbc bw) 60 (pZ Tryz.prog 58 0) 0 [] [0,1,4,5] [] (IN a b i) [0] [] [1] (Ex.exit 0) (⟨sp 26 [(0,.sq a),(1,.sq b),(4,.ff),(5,aI i)],[],[]⟩) [decide (i<(a.length:Int))=false]:={}
theorem inE_1 (a b:List Int) (i:Int):FunI (dZ Tryz.prog zbc bw) 60 58 [.sq a,.sq b] [0] [some (zev Tryz.prog (pZ Tryz.prog 58 0) [] [0,1,4,5] [] (IN a b 0) (.exit 0,IN a b i))] [1,0,2] (.tt) [((a.length:Int) != (b.length:Int))=false,Loops 0 Tryz.prog (pZ Tryz.prog 58 0) ⟨sp 26 [(0,.sq a),(1,.sq b),(4,.ff),(5,aI 0)],[],[]⟩ (Ex.exit 0,⟨sp 26 [(0,.sq a),(1,.sq b),(4,.ff),(5,aI i)],[],[]⟩)]:={}
theorem inR_1 (a b:List Int) (i:Int):FunI (dZ Tryz.prog zbc bw) 60 58 [.sq a,.sq b] [0] [some (zev Tryz.prog (pZ Tryz.prog 58 0) [] [0,1,4,5] [] (IN a b 0) (.ret,IN a b i))] [1,0,2] (.ff) [((a.length:Int) != (b.length:Int))=false,Loops 0 Tryz.prog (pZ Tryz.prog 58 0) ⟨sp 26 [(0,.sq a),(1,.sq b),(4,.ff),(5,aI 0)],[],[]⟩ (Ex.ret,⟨sp 26 [(0,.sq a),(1,.sq b),(4,.ff),(5,aI i)],[],[]⟩)]:={}
theorem inN_0 (a b:List Int):FunI (dZ Tryz.prog zbc bw) 60 58 [.sq a,.sq b] [1] [] [1] (.ff) [((a.length:Int) != (b.length:Int))=true]:={}
end
def pLs (x:List Int):Prop:=x.length≤1000∧∀d∈x,bZ d
theorem vl_le:∀(x:List Int),(∀d∈x,bZ d)→(vl x).natAbs+10000000000000000000≤10000000000000000000*100000000 ^ x.length
  | [],_=>by simp [vl]
  | d :: l,h=>by
    have h1:=h d (by simp)
    have h2:=vl_le l fun e he=>h e (by simp [he])
    unfold bZ at h1
    simp only [vl,List.length_cons,Nat.pow_succ]
    have h3:(d+100000000*vl l).natAbs≤d.natAbs+100000000*(vl l).natAbs:=by
      have:=Int.natAbs_add_le d (100000000*vl l)
      rw [Int.natAbs_mul] at this
      simpa using this
    have h4:d.natAbs≤9223372036854775808:=by omega
    generalize (vl l).natAbs=v at h2 h3
    generalize 100000000 ^ l.length=P at h2 ⊢
    omega
theorem vl_sz {x:List Int} (h:∀d∈x,bZ d):Sz (x.length+3) (vl x):=by
  have h1:=vl_le x h
  unfold Sz
  rw [Nat.pow_add]
  have:(100000000:Nat) ^ 3=1000000000000000000000000:=by decide
  rw [this]
  have h2:0<100000000 ^ x.length:=Nat.pow_pos (by decide)
  generalize 100000000 ^ x.length=P at h1 h2 ⊢
  omega
theorem zgi {x:List Int} (h:pLs x):Sz 1003 (vl x):=(vl_sz h.2).mono (by have:=h.1;omega)
theorem zbP {x:List Int} (h:pLs x):zbu x:=⟨by have:=h.1;omega,h.2⟩
theorem szdl {k:Nat} {z:Int} (h:Sz k z) (hk:k≤1048576):List.length (digs (Int.natAbs z))≤1048576:=Nat.le_trans (TZ z.natAbs k h) hk
def pXY (x y:List Int):Prop:=pLs x∧pLs y
section
variable {x y:List Int}
theorem add_fc (x y:List Int) (h:pXY x y):FC Tryz.prog 65 [.sq x,.sq y] (.ni (vl x+vl y)):=by
  have a:=zgi h.1;have b:=zgi h.2;have rx:=zbP h.1;have ry:=zbP h.2
  have ix:SzC (vl x) 1003:=⟨a⟩
  have iy:SzC (vl y) 1003:=⟨b⟩
  exact mZ zhx (xA_0 x y) (.cons rx (.cons ry (.cons ⟨zd4 (by decide),zd4 (by decide)⟩ (.cons (szdl (SzC.ok (z:=vl x+vl y)) (by decide)) .nil))))
theorem sub_fc (x y:List Int) (h:pXY x y):FC Tryz.prog 64 [.sq x,.sq y] (.ni (vl x-vl y)):=by
  have a:=zgi h.1;have b:=zgi h.2;have rx:=zbP h.1;have ry:=zbP h.2
  have ix:SzC (vl x) 1003:=⟨a⟩
  have iy:SzC (vl y) 1003:=⟨b⟩
  exact mZ zhx (xS_0 x y) (.cons rx (.cons ry (.cons ⟨zd4 (by decide),zd4 (by decide)⟩ (.cons (szdl (SzC.ok (z:=vl x + -vl y)) (by decide)) .nil))))
theorem cmp_fc (x y:List Int) (h:pXY x y):FC Tryz.prog 66 [.sq x,.sq y] (.lit (.int .i64 (vl x-vl y).sign)):=by
  have a:=zgi h.1;have b:=zgi h.2;have rx:=zbP h.1;have ry:=zbP h.2
  exact mZ zhx (xC_0 x y) (.cons rx (.cons ry (.cons ⟨vZ a (by decide),vZ b (by decide)⟩ .nil)))
end
theorem znO (z:Int):(z.sign==0)=decide (z=0):=by
  by_cases h:z=0
  · subst h;rfl
  · have:z.sign≠0:=fun h1=>h (Int.sign_eq_zero_iff_zero.1 h1)
    simp [h,this]
def pD0 (x y:List Int):Prop:=pXY x y∧vl y=0
def pD1 (x y:List Int):Prop:=pXY x y∧vl y≠0
theorem div0_fc (x y:List Int) (h:pD0 x y):FC Tryz.prog 79 [.sq x,.sq y] (.tup [.lit (.slice none 0 0),.lit (.slice none 0 0),.lit (.int .i64 12)]):=
  mZ zhx (xD_0 x y) (.cons (zbP h.1.2) (.cons (by rw [znO];exact decide_eq_true h.2) .nil))
theorem div_sz {x y:Int} {k:Nat} (hx:Sz k x):Sz k (x / y):=hx.le (Int.natAbs_ediv_le_natAbs x y)
theorem mod_sz {x y:Int} {k:Nat} (hy:Sz k y) (h0:y≠0):Sz k (x % y):=by
  refine hy.le ?_
  have h1:=Int.emod_nonneg x h0
  have h2:=Int.emod_lt x h0
  omega
theorem div1_fc (x y:List Int) (h:pD1 x y):FC Tryz.prog 79 [.sq x,.sq y] (.tup [.ni (vl x / vl y),.ni (vl x % vl y),.lit (.int .i64 0)]):=by
  obtain ⟨h,h0⟩:=h
  have a:=zgi h.1;have b:=zgi h.2;have rx:=zbP h.1;have ry:=zbP h.2
  have hov:zfV (vl x) (vl y):=⟨h0,vZ a (by decide),vZ b (by decide)⟩
  have h1:(Int.sign (vl y)==0)=false:=by rw [znO];exact decide_eq_false h0
  have d1:=szdl (div_sz (y:=vl y) a) (by decide)
  have d2:=szdl (mod_sz (x:=vl x) b h0) (by decide)
  exact mZ zhx (xD_1 x y) (by(repeat' (first | exact AllC.nil | refine AllC.cons ?_ ?_));all_goals (first | (with_reducible rfl) | assumption | trivial | rfl))
theorem zk2 (a b:List Int) (hl:a.length=b.length) (hs:a.length≤4611686018427387904):∀(k:Nat) (i:Nat),i+k=a.length →
    (a.drop i=b.drop i∧Loops 0 Tryz.prog (pZ Tryz.prog 58 0) (IN a b i) (.exit 0,IN a b a.length)) ∨
    (a.drop i≠b.drop i∧∃j:Int,Loops 0 Tryz.prog (pZ Tryz.prog 58 0) (IN a b i) (.ret,IN a b j))
  | 0,i,hi=>by
    obtain rfl:i=a.length:=by omega
    refine .inl ⟨?_,Loops.fin (LS.of zhx (inL_2 a b a.length) (.cons (decide_eq_false (by omega)) .nil)) (by simp [Ex.toExit])⟩
    rw [List.drop_length,hl,List.drop_length]
  | k + 1,i,hi=>by
    have hia:i<a.length:=by omega
    have hib:i<b.length:=by omega
    have ea:a.drop i=a.getD i 0 :: a.drop (i+1):=by rw [List.drop_eq_getElem_cons hia];simp [List.getD,hia]
    have eb:b.drop i=b.getD i 0 :: b.drop (i+1):=by rw [List.drop_eq_getElem_cons hib];simp [List.getD,hib]
    have hn:Int.toNat (i:Int)=i:=by omega
    by_cases h:a.getD i 0=b.getD i 0
    · have hx:(a.getD i 0 != b.getD i 0)=false:=by simpa using h
      have hgo:=LS.of zhx (inL_1 a b i) (by rw [hn];(repeat' (first | exact AllC.nil | refine AllC.cons ?_ ?_));all_goals (first | (with_reducible exact hx) | (with_reducible exact inR64.2 (by omega)) | (refine decide_eq_true ?_;omega)))
      rcases zk2 a b hl hs k (i+1) (by omega) with ⟨h1,h2⟩ | ⟨h1,j,h2⟩
      · exact .inl ⟨by rw [ea,eb,h,h1],Loops.go hgo h2⟩
      · exact .inr ⟨by rw [ea,eb];intro hh;exact h1 (List.cons.inj hh).2,j,Loops.go hgo h2⟩
    · have hx:(a.getD i 0 != b.getD i 0)=true:=by simpa using h
      have hgo:=LS.of zhx (inL_0 a b i) (by rw [hn];(repeat' (first | exact AllC.nil | refine AllC.cons ?_ ?_));all_goals (first | (with_reducible exact hx) | (refine decide_eq_true ?_;omega)))
      exact .inr ⟨by rw [ea,eb];intro hh;exact h (List.cons.inj hh).1,i,Loops.fin hgo (by simp [Ex.toExit])⟩
def pIn (a b:List Int):Prop:=a.length≤1048576∧b.length≤1048576
theorem ints_fc (a b:List Int) (h:pIn a b):FC Tryz.prog 58 [.sq a,.sq b] (.lit (.bool (decide (a=b)))):=by
  by_cases hl:a.length=b.length
  · have hne:((a.length:Int) != (b.length:Int))=false:=by rw [hl];simp
    rcases zk2 a b hl (by have:=h.1;omega) a.length 0 (by omega) with ⟨h1,h2⟩ | ⟨h1,j,h2⟩
    · have e:a=b:=by simpa using h1
      have:=mZ zhx (inE_1 a b a.length) (.cons hne (.cons h2 .nil))
      refine this.res fun E v hv=>?_
      cases hv
      rw [decide_eq_true e];exact .lit _
    · have e:a≠b:=by simpa using h1
      have:=mZ zhx (inR_1 a b j) (.cons hne (.cons h2 .nil))
      refine this.res fun E v hv=>?_
      rw [decide_eq_false e]
      first | exact hv | (cases hv;exact .lit _)
  · have hne:((a.length:Int) != (b.length:Int))=true:=by simp;omega
    have:=mZ zhx (inN_0 a b) (.cons hne .nil)
    refine this.res fun E v hv=>?_
    have e:a≠b:=fun h=>hl (by rw [h])
    cases hv
    rw [decide_eq_false e];exact .lit _
def twoC (t:List AV→M Bool) (a b:List AV→M AV) (args:List AV):M AV:=do
  let d ← t args
  match d with
  | true=>a args
  | false=>b args
theorem twoC_ok {P:Program} {f:FuncId} {t:List AV→M Bool} {a b:List AV→M AV} (ha:lZ P f a) (hb:lZ P f b):lZ P f (twoC t a b):=by
  intro args hd
  unfold twoC
  refine Spec.bind ?_
  intro c s x s' cs _ _
  cases x
  · exact hb args hd
  · exact ha args hd
def tZero (args:List AV):M Bool:=match args with
  | [_,y]=>do
    let q ← ofOpt 270 (ints? y)
    dec (decide (vl q=0))
  | _=>fail 271
def ctrX:Ctr:=
  (65,cLL pXY (fun x y=>.ni (vl x+vl y))) :: (64,cLL pXY (fun x y=>.ni (vl x-vl y))) ::
  (66,cLL pXY (fun x y=>.lit (.int .i64 (vl x-vl y).sign))) ::
  (79,twoC tZero (cLL pD0 (fun _ _=>.tup [.lit (.slice none 0 0),.lit (.slice none 0 0),.lit (.int .i64 12)])) (cLL pD1 (fun x y=>.tup [.ni (vl x / vl y),.ni (vl x % vl y),.lit (.int .i64 0)]))) ::
  (58,cLL pIn (fun a b=>.lit (.bool (decide (a=b))))) :: zbc
theorem zna:∀p∈ctrX,lZ Tryz.prog p.1 p.2:=
  CAll.cons (zcd add_fc)<|CAll.cons (zcd sub_fc)<|CAll.cons (zcd cmp_fc) <|
  CAll.cons (twoC_ok (zcd div0_fc) (zcd div1_fc))<|CAll.cons (zcd ints_fc) zeN
def ctrF3:Ctr:=(142,cL pNm (fun x=>.ni (vl x))) :: ctrF2
theorem zkC:∀p∈ctrF3,lZ Tryz.prog p.1 p.2:=CAll.cons (zjf zoO) zkB
theorem zkn:(dZ Tryz.prog ctrF3 bw).OK:=QZ zkC
noncomputable section
theorem rne_0 (z:Int) (h1:(↑((aZ z).length):Int) > 0) (h2:r64 ((↑((aZ z).length):Int)-1)) (h3:0≤(↑((aZ z).length):Int)-1) (h4:(↑((aZ z).length):Int)-1<(↑((aZ z).length):Int)) (h5:((↑((aZ z).length):Int)-1).toNat<(aZ z).length):FC Tryz.prog 161 [.ni z] (.lit (.bool (decide ((aZ z).getD ((↑((aZ z).length):Int)-1).toNat 0<0)))):=fZ zkn 60 [1] (.t h1<|.i h2<|.t h3<|.t h4<|.t h5<|.e) [1,2,3,4,5]
theorem rne_1 (z:Int) (h1:¬((↑((aZ z).length):Int) > 0)):FC Tryz.prog 161 [.ni z] (.ff):=fZ zkn 60 [0] (.f h1<|.e) [1]
theorem rle_0 (a b:Int) (h1:(↑((aZ a).length):Int)≠(↑((aZ b).length):Int)):FC Tryz.prog 213 [.ni a,.ni b] (.lit (.bool (decide ((↑((aZ a).length):Int)<(↑((aZ b).length):Int))))):=fZ zkn 60 [1] (.c (bne_iff_ne.2 h1)<|.e) [1]
abbrev zgm (s:St) (r:Ex × St):Prop:=Loops 0 Tryz.prog (pZ Tryz.prog 213 0) s r
abbrev zcs (a b c:Int):St:=⟨sp 41 [(0,.ni a),(1,.ni b),(5,aI c)],[],[]⟩
abbrev zhP (a b:Int) (c:Bool):St:=⟨sp 41 [(4,.lit (.bool c))],[],[]⟩
abbrev zhQ (a b c:Int):St:=⟨sp 41 [(0,.ni a),(1,.ni b),(5,aI c)],[],[]⟩
theorem zpn (a b d:Int) (h1:d≥0) (h2:0≤d) (h3:d<(↑((aZ a).length):Int)) (h4:d.toNat<(aZ a).length) (h5:d<(↑((aZ b).length):Int)) (h6:d.toNat<(aZ b).length) (h7:(aZ a).getD d.toNat 0≠(aZ b).getD d.toNat 0):zgm (zcs a b d) (Ex.ret,(zhP a b (decide ((aZ a).getD d.toNat 0<(aZ b).getD d.toNat 0)))):=Loops.fin (LS.at zkn 60 [] [4] [] [1,1] (.t h1<|.t h2<|.t h3<|.t h4<|.t h5<|.t h6<|.c (bne_iff_ne.2 h7)<|.e) [1,2,3,4,2,5,6,7,2,3,4,2,5,6]) (fun h=>nomatch h)
theorem ziY (a b d:Int) (h1:d≥0) (h2:0≤d) (h3:d<(↑((aZ a).length):Int)) (h4:d.toNat<(aZ a).length) (h5:d<(↑((aZ b).length):Int)) (h6:d.toNat<(aZ b).length) (h7:(aZ a).getD d.toNat 0=(aZ b).getD d.toNat 0) (h8:r64 (d-1)) {r:Ex × St} (k:zgm (zcs a b (d-1)) r):zgm (zcs a b d) r:=Loops.go (LS.at zkn 60 [] [0,1,5] [] [1,0] (.t h1<|.t h2<|.t h3<|.t h4<|.t h5<|.t h6<|.c (bne_eq_false_iff_eq.2 h7)<|.i h8<|.e) [1,2,3,4,2,5,6,7,8]) k
theorem zpo (a b c:Int) (h1:¬(c≥0)):zgm (zcs a b c) (Ex.exit 0,(zhQ a b c)):=Loops.fin (LS.at zkn 60 [] [0,1,5] [] [0] (.f h1<|.e) [1]) (fun h=>nomatch h)
theorem rle_1 (a b:Int) (d:Bool) (h1:(↑((aZ a).length):Int)=(↑((aZ b).length):Int)) (h2:r64 ((↑((aZ a).length):Int)-1)) (hL1:zgm (zcs a b ((↑((aZ a).length):Int)-1)) (Ex.ret,(zhP a b d))):FC Tryz.prog 213 [.ni a,.ni b] (.lit (.bool d)):=fZ zkn 60 [0] (.c (bne_eq_false_iff_eq.2 h1)<|.i h2<|.v [0,1,5] [] hL1<|.e) [1,2,0,3]
theorem rle_2 (a b d:Int) (h1:(↑((aZ a).length):Int)=(↑((aZ b).length):Int)) (h2:r64 ((↑((aZ a).length):Int)-1)) (hL1:zgm (zcs a b ((↑((aZ a).length):Int)-1)) (Ex.exit 0,(zhQ a b d))):FC Tryz.prog 213 [.ni a,.ni b] (.ff):=fZ zkn 60 [0] (.c (bne_eq_false_iff_eq.2 h1)<|.i h2<|.v [0,1,5] [] hL1<|.e) [1,2,0,3]
abbrev zbf (s:St) (r:Ex × St):Prop:=Loops 0 Tryz.prog (pZ Tryz.prog 93 0) s r
abbrev zdf (a b:Int):St:=⟨sp 48 [(0,.ni a),(1,.ni b),(5,aN),(6,aI 0)],[],[]⟩
abbrev za6 (a b:Int) (c:Nat) (d:Int) (e:List Int):St:=⟨sp 48 [(0,.ni a),(1,.ni b),(5,.own 0 0 c 1),(6,aI d)],[.ints e true],[]⟩
abbrev zlz (a b:Int):St:=⟨sp 48 [(0,.ni a),(1,.ni b),(5,aN),(6,aI 0)],[],[]⟩
abbrev ze2 (a b:Int) (c:Nat) (d:Int) (e:List Int):St:=⟨sp 48 [(0,.ni a),(1,.ni b),(5,.own 0 0 c 1),(6,aI d)],[.ints e true],[]⟩
theorem zoP (a b:Int) (h1:0<(↑((aZ a).length):Int)) (h2:0<(aZ a).length) (h3:0<(↑((aZ b).length):Int)) (h4:0<(aZ b).length) (h5:r64 ((aZ a).getD 0 0+(aZ b).getD 0 0)) {r:Ex × St} (k:zbf (za6 a b (1) (1) ([(aZ a).getD 0 0+(aZ b).getD 0 0])) r):zbf (zdf a b) r:=Loops.go (LS.at zkn 60 [1] [0,1,5,6] [] [1,1,1] (.t h1<|.t h2<|.t h3<|.t h4<|.i h5<|.e) [1,1,0,1,2,3,0,3,4,5,0,0,0,0,0]) k
theorem zoQ (a b:Int) (h1:0<(↑((aZ a).length):Int)) (h2:0<(aZ a).length) (h3:¬(0<(↑((aZ b).length):Int))) {r:Ex × St} (k:zbf (za6 a b (1) (1) ([(aZ a).getD 0 0])) r):zbf (zdf a b) r:=Loops.go (LS.at zkn 60 [1] [0,1,5,6] [] [1,1,0] (.t h1<|.t h2<|.f h3<|.e) [1,1,0,1,2,3,0,0,0,0,0]) k
theorem zoR (a b:Int) (h1:¬(0<(↑((aZ a).length):Int))) (h2:0<(↑((aZ b).length):Int)) (h3:0<(aZ b).length) (h4:r64 (0+(aZ b).getD 0 0)) {r:Ex × St} (k:zbf (za6 a b (1) (1) ([0+(aZ b).getD 0 0])) r):zbf (zdf a b) r:=Loops.go (LS.at zkn 60 [1] [0,1,5,6] [] [0,1,0,1] (.f h1<|.t h2<|.t h3<|.i h4<|.e) [1,2,1,2,0,2,3,4,0,0,0,0,0]) k
theorem zoS (a b:Int) (h1:¬(0<(↑((aZ a).length):Int))) (h2:¬(0<(↑((aZ b).length):Int))):zbf (zdf a b) (Ex.exit 0,(zlz a b)):=Loops.fin (LS.at zkn 60 [] [0,1,5,6] [] [0,0] (.f h1<|.f h2<|.e) [1,2]) (fun h=>nomatch h)
theorem zoT (a b:Int) (c:Nat) (d:Int) (f:List Int) (h1:d<(↑((aZ a).length):Int)) (h2:0≤d) (h3:d.toNat<(aZ a).length) (h4:d<(↑((aZ b).length):Int)) (h5:d.toNat<(aZ b).length) (h6:r64 ((aZ a).getD d.toNat 0+(aZ b).getD d.toNat 0)) (h7:(c+1)*8≤140737488355328) (h8:c+1≤4611686018427387904) (h9:c≤f.length) (h10:r64 (d+1)) {r:Ex × St} (k:zbf (za6 a b (c+1) (d+1) (f.take c++List.take 1 [(aZ a).getD d.toNat 0+(aZ b).getD d.toNat 0])) r):zbf (za6 a b c d f) r:=Loops.go (LS.at zkn 60 [2] [0,1,5,6] [] [1,1,1] (.t h1<|.t h2<|.t h3<|.t h4<|.t h5<|.i h6<|.t h7<|.t h8<|.t h9<|.i h10<|.e) [1,1,2,1,3,4,2,4,5,6,7,8,9,0,10]) k
theorem zoU (a b:Int) (c:Nat) (d:Int) (g:List Int) (h1:d<(↑((aZ a).length):Int)) (h2:0≤d) (h3:d.toNat<(aZ a).length) (h4:¬(d<(↑((aZ b).length):Int))) (h5:(c+1)*8≤140737488355328) (h6:c+1≤4611686018427387904) (h7:c≤g.length) (h8:r64 (d+1)) {r:Ex × St} (k:zbf (za6 a b (c+1) (d+1) (g.take c++List.take 1 [(aZ a).getD d.toNat 0])) r):zbf (za6 a b c d g) r:=Loops.go (LS.at zkn 60 [2] [0,1,5,6] [] [1,1,0] (.t h1<|.t h2<|.t h3<|.f h4<|.t h5<|.t h6<|.t h7<|.i h8<|.e) [1,1,2,1,3,4,5,6,7,0,8]) k
theorem zoV (a b:Int) (c:Nat) (d:Int) (g:List Int) (h1:¬(d<(↑((aZ a).length):Int))) (h2:d<(↑((aZ b).length):Int)) (h3:0≤d) (h4:d.toNat<(aZ b).length) (h5:r64 (0+(aZ b).getD d.toNat 0)) (h6:(c+1)*8≤140737488355328) (h7:c+1≤4611686018427387904) (h8:c≤g.length) (h9:r64 (d+1)) {r:Ex × St} (k:zbf (za6 a b (c+1) (d+1) (g.take c++List.take 1 [0+(aZ b).getD d.toNat 0])) r):zbf (za6 a b c d g) r:=Loops.go (LS.at zkn 60 [2] [0,1,5,6] [] [0,1,0,1] (.f h1<|.t h2<|.t h3<|.t h4<|.i h5<|.t h6<|.t h7<|.t h8<|.i h9<|.e) [1,2,1,2,3,2,4,5,6,7,8,0,9]) k
theorem zoW (a b:Int) (c:Nat) (d:Int) (g:List Int) (h1:¬(d<(↑((aZ a).length):Int))) (h2:¬(d<(↑((aZ b).length):Int))):zbf (za6 a b c d g) (Ex.exit 0,(ze2 a b c d g)):=Loops.fin (LS.at zkn 60 [0] [0,1,5,6] [] [0,0] (.f h1<|.f h2<|.e) [1,2]) (fun h=>nomatch h)
theorem rad_0 (x y:List Int) (h1:pNm x) (h2:pNm y) (hL1:zbf (zdf (vl x) (vl y)) (Ex.exit 0,(zlz (vl x) (vl y)))) (h4:pNm []):FC Tryz.prog 93 [.sq x,.sq y] (.ni 0):=fZ zkn 60 [] (.c h1<|.c h2<|.v [0,1,5,6] [] hL1<|.c h4<|.e) [1,2,0,3,4]
theorem rad_1 (x y:List Int) (a:Nat) (b:Int) (d:List Int) (h1:pNm x) (h2:pNm y) (hL1:zbf (zdf (vl x) (vl y)) (Ex.exit 0,(ze2 (vl x) (vl y) a b d))) (h4:a≤d.length) (h5:pNm (d.take a)):FC Tryz.prog 93 [.sq x,.sq y] (.ni (vl (d.take a))):=fZ zkn 60 [] (.c h1<|.c h2<|.v [0,1,5,6] [] hL1<|.c h4<|.c h5<|.e) [1,2,0,3,4,5]
end
theorem eZ (z:Int):(aZ z).length=dl z:=by
  unfold aZ dl
  split<;>simp
theorem zhj {k:Nat} {z:Int} (h:Sz k z):dl z≤k:=TZ _ _ h
theorem zdH (z:Int):∀d∈aZ z,-100000000<d∧d<100000000:=by
  intro d hd
  have h:=rZ z.natAbs
  unfold aZ at hd
  split at hd
  · obtain ⟨e,he,rfl⟩:=List.mem_map.1 hd
    have:=h e he;omega
  · have:=h d hd;omega
theorem HZ (z:Int) (i:Nat):-100000000<(aZ z).getD i 0∧(aZ z).getD i 0<100000000:=by
  by_cases h:i<(aZ z).length
  · exact zdH z _ (by simp [List.getD,h])
  · have:(aZ z).getD i 0=0:=by simp [List.getD,Nat.le_of_not_lt h]
    rw [this];omega
theorem dl_zero {z:Int}:dl z=0↔z=0:=by
  unfold dl
  rw [List.length_eq_zero_iff,zcf];omega
theorem digs_last {n:Nat} (h:n≠0):0<(digs n).getD ((digs n).length-1) 0:=by
  induction n using Nat.strongRecOn with
  | _ n ih=>
    rw [zb2 n h]
    by_cases h1:n / 100000000=0
    · rw [h1,XZ];simp;omega
    · have:=ih (n / 100000000) (by omega) h1
      have hl:(digs (n / 100000000)).length≠0:=by rw [ne_eq,List.length_eq_zero_iff,zcf];exact h1
      have e:(((n % 100000000:Nat):Int) :: digs (n / 100000000)).length-1=(digs (n / 100000000)).length-1+1:=by simp;omega
      rw [e,List.getD_cons_succ];exact this
theorem zoE {z:Int} (h:z≠0):(decide ((aZ z).getD ((aZ z).length-1) 0<0))=decide (z<0):=by
  have h1:=digs_last (n:=z.natAbs) (by omega)
  unfold aZ
  by_cases hz:z<0
  · rw [if_pos hz,decide_eq_true hz,List.length_map]
    have hlt:(digs z.natAbs).length-1<(digs z.natAbs).length:=by
      have:(digs z.natAbs).length≠0:=by rw [ne_eq,List.length_eq_zero_iff,zcf];omega
      omega
    have:((digs z.natAbs).map fun d=>-d).getD ((digs z.natAbs).length-1) 0 = -((digs z.natAbs).getD ((digs z.natAbs).length-1) 0):=by
      simp [List.getD,hlt]
    rw [this]
    exact decide_eq_true (by omega)
  · rw [if_neg hz,decide_eq_false hz]
    exact decide_eq_false (by omega)
def pNg (z:Int):Prop:=Sz 1000000 z
instance tNg {z:Int}:Tst (pNg z):=inferInstanceAs (Tst (Sz 1000000 z))
theorem zly (z:Int) (h:pNg z):FC Tryz.prog 161 [.ni z] (.lit (.bool (decide (z<0)))):=by
  have hl:=zhj h
  by_cases hz:z=0
  · subst hz
    have:=rne_1 0 (by rw [eZ];simp [dl,XZ])
    exact this.res fun E v hv=>by cases hv;exact .lit _
  · have hd:dl z≠0:=fun h=>hz (dl_zero.1 h)
    have:=rne_0 z (by rw [eZ];omega) (by rw [eZ];omega) (by rw [eZ];omega) (by omega) (by rw [eZ];omega)
    have e:Int.toNat (((aZ z).length:Int)-1)=(aZ z).length-1:=by rw [eZ];omega
    rw [e,zoE hz] at this
    exact this
theorem rl_loop (a b:Int) (ha:0≤a) (hb:0≤b) (hl:dl a=dl b) (hs:dl a≤1000000):∀(i:Nat),i≤dl a→(aZ a).drop i=(aZ b).drop i →
    (a=b∧zgm (zcs a b ((i:Int)-1)) (.exit 0,zhQ a b (-1)))∨(a≠b∧zgm (zcs a b ((i:Int)-1)) (.ret,zhP a b (decide (a<b))))
  | 0,_,hd=>.inl ⟨by rw [← cZ a,← cZ b];simpa using congrArg vl hd,zpo a b _ (by omega)⟩
  | i + 1, hi,hd=>by
    have la:=eZ a
    have lb:=eZ b
    have hn:Int.toNat (((i+1:Nat):Int)-1)=i:=by omega
    have hc:((i+1:Nat):Int)-1=(i:Int):=by omega
    have hia:i<(aZ a).length:=by omega
    have hib:i<(aZ b).length:=by omega
    have ea:(aZ a).drop i=(aZ a).getD i 0 :: (aZ a).drop (i+1):=by rw [List.drop_eq_getElem_cons hia];simp [List.getD,hia]
    have eb:(aZ b).drop i=(aZ b).getD i 0 :: (aZ b).drop (i+1):=by rw [List.drop_eq_getElem_cons hib];simp [List.getD,hib]
    rw [hc]
    have hn':Int.toNat (i:Int)=i:=by omega
    by_cases h:(aZ a).getD i 0=(aZ b).getD i 0
    · rcases rl_loop a b ha hb hl hs i (by omega) (by rw [ea,eb,h,hd]) with ⟨h1,h2⟩ | ⟨h1,h2⟩
      · exact .inl ⟨h1,ziY a b i (by omega) (by omega) (by omega) (by omega) (by omega) (by omega) (by rw [hn'];exact h) (by omega) h2⟩
      · exact .inr ⟨h1,ziY a b i (by omega) (by omega) (by omega) (by omega) (by omega) (by omega) (by rw [hn'];exact h) (by omega) h2⟩
    · have key:a≠b∧decide ((aZ a).getD i 0<(aZ b).getD i 0)=decide (a<b):=by
        have ha':aZ a=digs a.natAbs:=by unfold aZ;rw [if_neg (by omega)]
        have hb':aZ b=digs b.natAbs:=by unfold aZ;rw [if_neg (by omega)]
        have hda:Digs (aZ a):=by rw [ha'];exact rZ _
        have hdb:Digs (aZ b):=by rw [hb'];exact rZ _
        have va:a=vl ((aZ a).take i)+100000000 ^ i*((aZ a).getD i 0+100000000*vl ((aZ a).drop (i+1))):=by
          conv=>lhs;rw [← cZ a,← List.take_append_drop i (aZ a),zba,ea]
          rw [List.length_take,Nat.min_eq_left (by omega)];rfl
        have vb:b=vl ((aZ b).take i)+100000000 ^ i*((aZ b).getD i 0+100000000*vl ((aZ a).drop (i+1))):=by
          conv=>lhs;rw [← cZ b,← List.take_append_drop i (aZ b),zba,eb]
          rw [List.length_take,Nat.min_eq_left (by omega),hd];rfl
        have t1:Digs ((aZ a).take i):=fun d h=>hda d (List.mem_of_mem_take h)
        have t2:Digs ((aZ b).take i):=fun d h=>hdb d (List.mem_of_mem_take h)
        have u1:=zf4 t1
        have u2:=zf4 t2
        have w1:=LZ t1
        have w2:=LZ t2
        rw [List.length_take,Nat.min_eq_left (by omega)] at u1 u2
        generalize vl ((aZ a).drop (i+1))=V at va vb
        generalize (aZ a).getD i 0=p at va h ⊢
        generalize (aZ b).getD i 0=q at vb h ⊢
        generalize vl ((aZ a).take i)=s at va u1 w1
        generalize vl ((aZ b).take i)=t at vb u2 w2
        have pp:=pow_pos i
        generalize (100000000:Int) ^ i=P at *
        have hab:a-b=(s-t)+P*(p-q):=by rw [va,vb];grind
        rcases Int.lt_or_gt_of_ne h with h1 | h1
        · have:P*(p-q)≤-P:=by
            have:=Int.mul_le_mul_of_nonneg_left (show p-q≤-1 by omega) (Int.le_of_lt pp)
            omega
          exact ⟨by omega,by rw [decide_eq_true h1];exact(decide_eq_true (by omega)).symm⟩
        · have:P≤P*(p-q):=by
            have:=Int.mul_le_mul_of_nonneg_left (show 1≤p-q by omega) (Int.le_of_lt pp)
            omega
          exact ⟨by omega,by rw [decide_eq_false (by omega)];exact(decide_eq_false (by omega)).symm⟩
      have:=zpn a b i (by omega) (by omega) (by omega) (by omega) (by omega) (by omega) (by rw [hn'];exact h)
      rw [hn',key.2] at this
      exact .inr ⟨key.1,this⟩
def pLes (a b:Int):Prop:=(0≤a∧0≤b)∧Sz 1000000 a∧Sz 1000000 b
theorem znp {a b:Int} (ha:0≤a) (hb:0≤b) (h:dl a<dl b):a<b:=by
  rcases Int.lt_or_le a b with h1 | h1
  · exact h1
  · exfalso
    have h2:=zjr a.natAbs
    have h3:Sz (dl a) b:=by
      unfold Sz
      have:b.natAbs≤a.natAbs:=by omega
      exact Nat.lt_of_le_of_lt this h2
    have:=zhj h3
    omega
theorem rless_fc (a b:Int) (h:pLes a b):FC Tryz.prog 213 [.ni a,.ni b] (.lit (.bool (decide (a<b)))):=by
  obtain ⟨⟨ha,hb⟩,sa,sb⟩:=h
  have la:=eZ a
  have lb:=eZ b
  have da:=zhj sa
  by_cases hl:dl a=dl b
  · have e:((aZ a).length:Int)-1=((dl a:Nat):Int)-1:=by rw [la]
    rcases rl_loop a b ha hb hl da (dl a) (Nat.le_refl _) (by rw [List.drop_of_length_le (by omega),List.drop_of_length_le (by omega)]) with ⟨h1,h2⟩ | ⟨h1,h2⟩
    · rw [← e] at h2
      have:=rle_2 a b _ (by omega) (by omega) h2
      refine this.res fun E v hv=>?_
      cases hv
      rw [decide_eq_false (by omega)];exact .lit _
    · rw [← e] at h2
      exact rle_1 a b _ (by omega) (by omega) h2
  · have:=rle_0 a b (by omega)
    refine this.res fun E v hv=>?_
    have e:decide (((aZ a).length:Int)<((aZ b).length:Int))=decide (a<b):=by
      rw [la,lb]
      rcases Nat.lt_or_gt_of_ne hl with h1 | h1
      · rw [decide_eq_true (by omega),decide_eq_true (znp ha hb h1)]
      · have:=znp hb ha h1
        rw [decide_eq_false (by omega),decide_eq_false (by omega)]
    rw [← e];exact hv
def zlU (X Y:List Int) (n:Nat):List Int:=(List.range n).map fun k=>X.getD k 0+Y.getD k 0
theorem sums_succ (X Y:List Int) (n:Nat):zlU X Y (n+1)=zlU X Y n++[X.getD n 0+Y.getD n 0]:=by
  simp [zlU,List.range_succ]
theorem zh1 (X Y:List Int) (n:Nat):(zlU X Y n).length=n:=by simp [zlU]
theorem zg0:∀(n:Nat) (X:List Int),X.length≤n→vl ((List.range n).map fun k=>X.getD k 0)=vl X
  | 0,X,h=>by
    have:X=[]:=List.eq_nil_of_length_eq_zero (by omega)
    subst this;rfl
  | n+1,[],_=>by
    rw [List.range_succ_eq_map]
    have:=zg0 n [] (by simp)
    simp only [List.map_cons,List.map_map,vl]
    have e:((fun k=>([]:List Int).getD k 0) ∘ Nat.succ)=fun k=>([]:List Int).getD k 0:=by funext k;simp
    rw [e,this];rfl
  | n+1,x :: X,h=>by
    rw [List.range_succ_eq_map]
    have:=zg0 n X (by simpa using h)
    simp only [List.map_cons,List.map_map,vl,List.getD_cons_zero]
    have e:((fun k=>(x :: X).getD k 0) ∘ Nat.succ)=fun k=>X.getD k 0:=by funext k;simp
    rw [e,this]
theorem vl_sums (X Y:List Int) (n:Nat) (hx:X.length≤n) (hy:Y.length≤n):vl (zlU X Y n)=vl X+vl Y:=by
  rw [← zg0 n X hx,← zg0 n Y hy]
  unfold zlU
  generalize List.range n=l
  induction l with
  | nil=>rfl
  | cons k l ih=>simp only [List.map_cons,vl,ih,Int.mul_add];omega
theorem ra_loop (a b:Int) (ha:dl a≤500000) (hb:dl b≤500000):∀(m i:Nat),i+m=max (dl a) (dl b) →
    zbf (za6 a b i i (zlU (aZ a) (aZ b) i)) (.exit 0,ze2 a b (max (dl a) (dl b)) (max (dl a) (dl b):Nat) (zlU (aZ a) (aZ b) (max (dl a) (dl b))))
  | 0,i,hi=>by
    have:i=max (dl a) (dl b):=by omega
    subst this
    have la:=eZ a
    have lb:=eZ b
    exact zoW a b _ _ _ (by omega) (by omega)
  | m + 1,i,hi=>by
    have la:=eZ a
    have lb:=eZ b
    have ih:=ra_loop a b ha hb m (i+1) (by omega)
    have hn:Int.toNat (i:Int)=i:=by omega
    have ga:=HZ a i
    have gb:=HZ b i
    have hs:=zh1 (aZ a) (aZ b) i
    have e0:=sums_succ (aZ a) (aZ b) i
    have tk:∀d,List.take i (zlU (aZ a) (aZ b) i)++List.take 1 [d]=zlU (aZ a) (aZ b) i++[d]:=fun d=>by
      have:=zf1 (zlU (aZ a) (aZ b) i) d
      rwa [hs] at this
    have hc:((i+1:Nat):Int)=(i:Int)+1:=by omega
    rw [e0,hc] at ih
    by_cases h1:i<dl a
    · by_cases h2:i<dl b
      · refine zoT a b i i _ (by omega) (by omega) (by omega) (by omega) (by omega) (by rw [hn];omega) (by omega) (by omega) (by omega) (by omega) ?_
        rw [hn,tk];exact ih
      · refine zoU a b i i _ (by omega) (by omega) (by omega) (by omega) (by omega) (by omega) (by omega) (by omega) ?_
        have:(aZ b).getD i 0=0:=by simp [List.getD,List.getElem?_eq_none (show(aZ b).length≤i by omega)]
        rw [this,Int.add_zero] at ih
        rw [hn,tk];exact ih
    · refine zoV a b i i _ (by omega) (by omega) (by omega) (by omega) (by rw [hn];omega) (by omega) (by omega) (by omega) (by omega) ?_
      have:(aZ a).getD i 0=0:=by simp [List.getD,List.getElem?_eq_none (show(aZ a).length≤i by omega)]
      rw [this] at ih
      rw [hn,tk];exact ih
def pQ (N:Nat) (x:List Int):Prop:=x.length≤N∧∀d∈x,bZ d
theorem pQ.mono {M N:Nat} {x:List Int} (h:pQ M x) (hn:M≤N):pQ N x:=⟨Nat.le_trans h.1 hn,h.2⟩
theorem pQ.sz {N:Nat} {x:List Int} (h:pQ N x):Sz (N+3) (vl x):=(vl_sz h.2).mono (by have:=h.1;omega)
theorem kZ {k N:Nat} {z:Int} (h:Sz k z) (hk:k≤N):pQ N (aZ z):=
  ⟨by rw [eZ];exact Nat.le_trans (zhj h) hk,fun d hd=>by have:=zdH z d hd;unfold bZ;omega⟩
def pAd (x y:List Int):Prop:=pQ 400000 x∧pQ 400000 y
theorem rAdd_fc (x y:List Int) (h:pAd x y):FC Tryz.prog 93 [.sq x,.sq y] (.ni (vl x+vl y)):=by
  obtain ⟨hx,hy⟩:=h
  have px:pNm x:=hx.mono (by decide)
  have py:pNm y:=hy.mono (by decide)
  have da:=zhj hx.sz
  have db:=zhj hy.sz
  have la:=eZ (vl x)
  have lb:=eZ (vl y)
  by_cases h0:max (dl (vl x)) (dl (vl y))=0
  · have zx:vl x=0:=dl_zero.1 (by omega)
    have zy:vl y=0:=dl_zero.1 (by omega)
    have:=rad_0 x y px py (zoS _ _ (by omega) (by omega)) ⟨by simp,fun d hd=>by cases hd⟩
    rw [zx,zy];exact this
  · have hl:=ra_loop (vl x) (vl y) (by omega) (by omega) (max (dl (vl x)) (dl (vl y))-1) 1 (by omega)
    have ga:=HZ (vl x) 0
    have gb:=HZ (vl y) 0
    have e1:zlU (aZ (vl x)) (aZ (vl y)) 1=[(aZ (vl x)).getD 0 0+(aZ (vl y)).getD 0 0]:=by simp [zlU]
    have hL:zbf (zdf (vl x) (vl y)) (.exit 0,ze2 (vl x) (vl y) (max (dl (vl x)) (dl (vl y))) (max (dl (vl x)) (dl (vl y)):Nat) (zlU (aZ (vl x)) (aZ (vl y)) (max (dl (vl x)) (dl (vl y))))):=by
      rw [e1] at hl
      by_cases h1:0<dl (vl x)
      · by_cases h2:0<dl (vl y)
        · exact zoP _ _ (by omega) (by omega) (by omega) (by omega) (by omega) hl
        · have:(aZ (vl y)).getD 0 0=0:=by simp [List.getD,List.getElem?_eq_none (show(aZ (vl y)).length≤0 by omega)]
          rw [this,Int.add_zero] at hl
          exact zoQ _ _ (by omega) (by omega) (by omega) hl
      · have:(aZ (vl x)).getD 0 0=0:=by simp [List.getD,List.getElem?_eq_none (show(aZ (vl x)).length≤0 by omega)]
        rw [this] at hl
        exact zoR _ _ (by omega) (by omega) (by omega) (by omega) hl
    have hs:=zh1 (aZ (vl x)) (aZ (vl y)) (max (dl (vl x)) (dl (vl y)))
    have htk:List.take (max (dl (vl x)) (dl (vl y))) (zlU (aZ (vl x)) (aZ (vl y)) (max (dl (vl x)) (dl (vl y))))=zlU (aZ (vl x)) (aZ (vl y)) (max (dl (vl x)) (dl (vl y))):=List.take_of_length_le (by omega)
    have:=rad_1 x y _ _ _ px py hL (by omega) (by
      rw [htk]
      refine ⟨by omega,fun d hd=>?_⟩
      obtain ⟨k,_,rfl⟩:=List.mem_map.1 hd
      have:=HZ (vl x) k
      have:=HZ (vl y) k
      unfold bZ;omega)
    rw [htk,vl_sums _ _ _ (by omega) (by omega),cZ,cZ] at this
    exact this
theorem Le.sqNi {x:List Int} (h:x=aZ (vl x)):Le (.sq x) (.ni (vl x)):=fun E v hv=>hv.toNi rfl h
def zoJ (x y:List Int):Prop:=(x=aZ (vl x)∧y=aZ (vl y))∧pLes (vl x) (vl y)
instance tLesL {x y:List Int}:Tst (zoJ x y):=⟨false,fun h=>by cases h⟩
theorem rlessL_fc (x y:List Int) (h:zoJ x y):FC Tryz.prog 213 [.sq x,.sq y] (.lit (.bool (decide (vl x<vl y)))):=
  (rless_fc _ _ h.2).le (.cons (Le.sqNi h.1.1) (.cons (Le.sqNi h.1.2) .nil)) (Le.refl _)
def ctrF4:Ctr:=(161,n1 pNg (fun z=>.lit (.bool (decide (z<0))))) :: (213,cLL zoJ (fun x y=>.lit (.bool (decide (vl x<vl y))))) :: (93,cLL pAd (fun x y=>.ni (vl x+vl y))) :: ctrF3
theorem zkD:∀p∈ctrF4,lZ Tryz.prog p.1 p.2:=CAll.cons (n1_ok zly)<|CAll.cons (zcd rlessL_fc)<|CAll.cons (zcd rAdd_fc) zkC
theorem ziv:(dZ Tryz.prog ctrF4 bw).OK:=QZ zkD
noncomputable section
theorem rsz_0 (z:Int) (h1:pNg z) (h2:pSg (aZ z)):FC Tryz.prog 180 [.ni z] (.sq (zlP (decide (z<0)) (aZ z))):=fZ ziv 60 [] (.c h1<|.c h2<|.e) [1,2]
theorem rng_0 (x:List Int) (h1:pNm x) (h2:pSg (aZ (vl x))):FC Tryz.prog 138 [.sq x] (.sq (zlP true (aZ (vl x)))):=fZ ziv 60 [] (.c h1<|.c h2<|.e) [1,2]
theorem rsg_0 (x:List Int) (h1:pNm x) (h2:(↑((aZ (vl x)).length):Int)=0):FC Tryz.prog 121 [.sq x] (aI 0):=fZ ziv 60 [1] (.c h1<|.c (beq_iff_eq.2 h2)<|.e) [1,2]
theorem rsg_1 (x:List Int) (h1:pNm x) (h2:(↑((aZ (vl x)).length):Int)≠0) (h3:pNg (vl x)) (h4:vl x<0):FC Tryz.prog 121 [.sq x] (aI (-1)):=fZ ziv 60 [0,1] (.c h1<|.c (beq_false_of_ne h2)<|.c h3<|.t h4<|.e) [1,2,3,4]
theorem rsg_2 (x:List Int) (h1:pNm x) (h2:(↑((aZ (vl x)).length):Int)≠0) (h3:pNg (vl x)) (h4:¬(vl x<0)):FC Tryz.prog 121 [.sq x] (aI 1):=fZ ziv 60 [0,0] (.c h1<|.c (beq_false_of_ne h2)<|.c h3<|.f h4<|.e) [1,2,3,4]
abbrev zct (s:St) (r:Ex × St):Prop:=Loops 0 Tryz.prog (pZ Tryz.prog 94 0) s r
abbrev zeb (a b:Int):St:=⟨sp 44 [(0,.ni a),(1,.ni b),(5,aN),(6,aI 0)],[],[]⟩
abbrev zcu (a b c d:Int):St:=⟨sp 44 [(0,.ni a),(1,.ni b),(5,.ni c),(6,aI d)],[],[]⟩
abbrev zlH (a b:Int):St:=⟨sp 44 [(0,.ni a),(1,.ni b),(5,aN),(6,aI 0)],[],[]⟩
abbrev zfm (a b c d:Int):St:=⟨sp 44 [(0,.ni a),(1,.ni b),(5,.ni c),(6,aI d)],[],[]⟩
abbrev zfh (s:St) (r:Ex × St):Prop:=Loops 1 Tryz.prog (pZ Tryz.prog 94 1) s r
abbrev zgM (a b:Int):St:=⟨sp 44 [(0,.ni a),(1,.ni b),(5,aN),(6,aI 0),(7,.own 0 0 0 1),(8,aI 0)],[.ints [] true],[0]⟩
abbrev zfi (a b:Int) (c:Nat) (d:Int) (e:List Int):St:=⟨sp 44 [(0,.ni a),(1,.ni b),(5,aN),(6,aI 0),(7,.own 1 0 c 1),(8,aI d)],[.dead,.ints e true],[0]⟩
abbrev zlF (a b:Int):St:=⟨sp 44 [(0,.ni a),(1,.ni b),(5,aN),(6,aI 0),(7,.own 0 0 0 1),(8,aI 0)],[.ints [] true],[0]⟩
abbrev zhR (a b:Int) (c:Nat) (d:Int) (e:List Int):St:=⟨sp 44 [(0,.ni a),(1,.ni b),(5,aN),(6,aI 0),(7,.own 1 0 c 1),(8,aI d)],[.dead,.ints e true],[0]⟩
theorem zpp (a b:Int) (h1:0<(↑((aZ b).length):Int)) (h2:0<(↑((aZ a).length):Int)) (h3:0<(aZ a).length) (h4:0<(aZ b).length) (h5:r64 ((aZ a).getD 0 0*(aZ b).getD 0 0)) {r:Ex × St} (k:zfh (zfi a b (1) (1) ([(aZ a).getD 0 0*(aZ b).getD 0 0])) r):zfh (zgM a b) r:=Loops.go (LS.at ziv 60 [2] [0,1,5,6,7,8] [0] [1] (.t h1<|.t h2<|.t h3<|.t h4<|.i h5<|.e) [1,0,2,3,0,1,4,5,0,0,0,0,0]) k
theorem zpq (a b:Int) (h1:¬(0<(↑((aZ b).length):Int))):zfh (zgM a b) (Ex.exit 2,(zlF a b)):=Loops.fin (LS.at ziv 60 [] [0,1,5,6,7,8] [0] [0] (.f h1<|.e) [1]) (fun h=>nomatch h)
theorem zpr (a b:Int) (c:Nat) (d:Int) (f:List Int) (h1:d<(↑((aZ b).length):Int)) (h2:0<(↑((aZ a).length):Int)) (h3:0<(aZ a).length) (h4:0≤d) (h5:d.toNat<(aZ b).length) (h6:r64 ((aZ a).getD 0 0*(aZ b).getD d.toNat 0)) (h7:(c+1)*8≤140737488355328) (h8:c+1≤4611686018427387904) (h9:c≤f.length) (h10:r64 (d+1)) {r:Ex × St} (k:zfh (zfi a b (c+1) (d+1) (f.take c++List.take 1 [(aZ a).getD 0 0*(aZ b).getD d.toNat 0])) r):zfh (zfi a b c d f) r:=Loops.go (LS.at ziv 60 [3] [0,1,5,6,7,8] [0] [1] (.t h1<|.t h2<|.t h3<|.t h4<|.t h5<|.i h6<|.t h7<|.t h8<|.t h9<|.i h10<|.e) [1,0,2,3,4,1,5,6,7,8,9,0,10]) k
theorem zps (a b:Int) (c:Nat) (d:Int) (g:List Int) (h1:¬(d<(↑((aZ b).length):Int))):zfh (zfi a b c d g) (Ex.exit 2,(zhR a b c d g)):=Loops.fin (LS.at ziv 60 [1] [0,1,5,6,7,8] [0] [0] (.f h1<|.e) [1]) (fun h=>nomatch h)
theorem zpx (a b:Int) (h1:0<(↑((aZ a).length):Int)) (hL1:zfh (zgM a b) (Ex.exit 2,(zlF a b))) (h3:0≤0) (h4:pAd [] (List.take 0 [])) {r:Ex × St} (k:zct (zcu a b (0) (1)) r):zct (zeb a b) r:=Loops.go (LS.at ziv 60 [] [0,1,5,6] [] [1] (.t h1<|.v [0,1,5,6,7,8] [0] hL1<|.c h3<|.c h4<|.e) [1,0,0,0,0,0,2,3,4,0]) k
theorem zpy (a b:Int) (d:Nat) (f:Int) (g:List Int) (h1:0<(↑((aZ a).length):Int)) (hL1:zfh (zgM a b) (Ex.exit 2,(zhR a b d f g))) (h3:d≤g.length) (h4:pAd [] (g.take d)) {r:Ex × St} (k:zct (zcu a b (0+vl (g.take d)) (1)) r):zct (zeb a b) r:=Loops.go (LS.at ziv 60 [] [0,1,5,6] [] [1] (.t h1<|.v [0,1,5,6,7,8] [0] hL1<|.c h3<|.c h4<|.e) [1,0,0,0,0,0,2,3,4,0]) k
theorem zpz (a b:Int) (h1:¬(0<(↑((aZ a).length):Int))):zct (zeb a b) (Ex.exit 0,(zlH a b)):=Loops.fin (LS.at ziv 60 [] [0,1,5,6] [] [0] (.f h1<|.e) [1]) (fun h=>nomatch h)
abbrev zer (s:St) (r:Ex × St):Prop:=Loops 1 Tryz.prog (pZ Tryz.prog 94 1) s r
abbrev zfj (a b c d:Int) (e:Nat) (f:List Int):St:=⟨sp 44 [(0,.ni a),(1,.ni b),(5,.ni c),(6,aI d),(7,.own 0 0 e 1),(8,aI 0)],[.ints f true],[0]⟩
abbrev zfk (a b c d:Int) (e:Nat) (f:List Int) (g:Nat) (i:Int) (j:List Int):St:=⟨sp 44 [(0,.ni a),(1,.ni b),(5,.ni c),(6,aI d),(7,.own 1 0 g 1),(8,aI i)],[.dead,.ints j true],[0]⟩
abbrev zlG (a b c d:Int) (e:Nat) (f:List Int):St:=⟨sp 44 [(0,.ni a),(1,.ni b),(5,.ni c),(6,aI d),(7,.own 0 0 e 1),(8,aI 0)],[.ints f true],[0]⟩
abbrev zfl (a b c d:Int) (e:Nat) (f:List Int) (g:Nat) (i:Int) (j:List Int):St:=⟨sp 44 [(0,.ni a),(1,.ni b),(5,.ni c),(6,aI d),(7,.own 1 0 g 1),(8,aI i)],[.dead,.ints j true],[0]⟩
theorem zpt (a b c d:Int) (f:Nat) (g:List Int) (h1:0<(↑((aZ b).length):Int)) (h2:0≤d) (h3:d<(↑((aZ a).length):Int)) (h4:d.toNat<(aZ a).length) (h5:0<(aZ b).length) (h6:r64 ((aZ a).getD d.toNat 0*(aZ b).getD 0 0)) (h7:(f+1)*8≤140737488355328) (h8:f+1≤4611686018427387904) (h9:f≤g.length) {r:Ex × St} (k:zer (zfk a b c d f g (f+1) (1) (g.take f++List.take 1 [(aZ a).getD d.toNat 0*(aZ b).getD 0 0])) r):zer (zfj a b c d f g) r:=Loops.go (LS.at ziv 60 [2] [0,1,5,6,7,8] [0] [1] (.t h1<|.t h2<|.t h3<|.t h4<|.t h5<|.i h6<|.t h7<|.t h8<|.t h9<|.e) [1,2,3,4,0,1,5,6,7,8,9,0,0]) k
theorem zpu (a b c d:Int) (g:Nat) (i:List Int) (h1:¬(0<(↑((aZ b).length):Int))):zer (zfj a b c d g i) (Ex.exit 2,(zlG a b c d g i)):=Loops.fin (LS.at ziv 60 [] [0,1,5,6,7,8] [0] [0] (.f h1<|.e) [1]) (fun h=>nomatch h)
theorem zpv (a b c d:Int) (f:Nat) (g:List Int) (j:Nat) (l:Int) (m:List Int) (h1:l<(↑((aZ b).length):Int)) (h2:0≤d) (h3:d<(↑((aZ a).length):Int)) (h4:d.toNat<(aZ a).length) (h5:0≤l) (h6:l.toNat<(aZ b).length) (h7:r64 ((aZ a).getD d.toNat 0*(aZ b).getD l.toNat 0)) (h8:(j+1)*8≤140737488355328) (h9:j+1≤4611686018427387904) (h10:j≤m.length) (h11:r64 (l+1)) {r:Ex × St} (k:zer (zfk a b c d f g (j+1) (l+1) (m.take j++List.take 1 [(aZ a).getD d.toNat 0*(aZ b).getD l.toNat 0])) r):zer (zfk a b c d f g j l m) r:=Loops.go (LS.at ziv 60 [3] [0,1,5,6,7,8] [0] [1] (.t h1<|.t h2<|.t h3<|.t h4<|.t h5<|.t h6<|.i h7<|.t h8<|.t h9<|.t h10<|.i h11<|.e) [1,2,3,4,5,1,6,7,8,9,10,0,11]) k
theorem zpw (a b c d:Int) (g:Nat) (i:List Int) (j:Nat) (l:Int) (m:List Int) (h1:¬(l<(↑((aZ b).length):Int))):zer (zfk a b c d g i j l m) (Ex.exit 2,(zfl a b c d g i j l m)):=Loops.fin (LS.at ziv 60 [1] [0,1,5,6,7,8] [0] [0] (.f h1<|.e) [1]) (fun h=>nomatch h)
theorem zpA (a b d f:Int) (h1:f<(↑((aZ a).length):Int)) (h2:0≤f) (h3:f≤f) (h4:8*f≤281474976710656) (h5:f≤9223372036854775807) (hL1:zer (zfj a b d f f.toNat (zaJ f.toNat)) (Ex.exit 2,(zlG a b d f f.toNat (zaJ f.toNat)))) (h7:f.toNat≤(zaJ f.toNat).length) (h8:pAd (aZ d) ((zaJ f.toNat).take f.toNat)) (h9:r64 (f+1)) {r:Ex × St} (k:zct (zcu a b (vl (aZ d)+vl ((zaJ f.toNat).take f.toNat)) (f+1)) r):zct (zcu a b d f) r:=Loops.go (LS.at ziv 60 [] [0,1,5,6] [] [1] (.t h1<|.t h2<|.t h3<|.t h4<|.t h5<|.v [0,1,5,6,7,8] [0] hL1<|.c h7<|.c h8<|.i h9<|.e) [1,2,3,4,5,0,6,7,8,9]) k
theorem zpB (a b d f:Int) (g:Nat) (j:Int) (l:List Int) (h1:f<(↑((aZ a).length):Int)) (h2:0≤f) (h3:f≤f) (h4:8*f≤281474976710656) (h5:f≤9223372036854775807) (hL1:zer (zfj a b d f f.toNat (zaJ f.toNat)) (Ex.exit 2,(zfl a b d f f.toNat (zaJ f.toNat) g j l))) (h7:g≤l.length) (h8:pAd (aZ d) (l.take g)) (h9:r64 (f+1)) {r:Ex × St} (k:zct (zcu a b (vl (aZ d)+vl (l.take g)) (f+1)) r):zct (zcu a b d f) r:=Loops.go (LS.at ziv 60 [] [0,1,5,6] [] [1] (.t h1<|.t h2<|.t h3<|.t h4<|.t h5<|.v [0,1,5,6,7,8] [0] hL1<|.c h7<|.c h8<|.i h9<|.e) [1,2,3,4,5,0,6,7,8,9]) k
theorem zpC (a b c d:Int) (h1:¬(d<(↑((aZ a).length):Int))):zct (zcu a b c d) (Ex.exit 0,(zfm a b c d)):=Loops.fin (LS.at ziv 60 [] [0,1,5,6] [] [0] (.f h1<|.e) [1]) (fun h=>nomatch h)
theorem rml_0 (x y:List Int) (h1:pNm x) (h2:pNm y) (hL1:zct (zeb (vl x) (vl y)) (Ex.exit 0,(zlH (vl x) (vl y)))) (h4:pNm []):FC Tryz.prog 94 [.sq x,.sq y] (.ni 0):=fZ ziv 60 [] (.c h1<|.c h2<|.v [0,1,5,6] [] hL1<|.c h4<|.e) [1,2,0,3,4]
theorem rml_1 (x y:List Int) (a b:Int) (h1:pNm x) (h2:pNm y) (hL1:zct (zeb (vl x) (vl y)) (Ex.exit 0,(zfm (vl x) (vl y) a b))) (h4:pNm (aZ a)):FC Tryz.prog 94 [.sq x,.sq y] (.ni (vl (aZ a))):=fZ ziv 60 [] (.c h1<|.c h2<|.v [0,1,5,6] [] hL1<|.c h4<|.e) [1,2,0,3,4]
end
theorem zmN (l:List Int):trm (l.map fun d=>-d)=(trm l).map fun d=>-d:=by
  induction l with
  | nil=>rfl
  | cons d l ih=>
    simp only [List.map_cons,trm,ih,List.map_eq_nil_iff]
    by_cases h:trm l=[]∧d=0
    · rw [if_pos h,if_pos ⟨h.1,by omega⟩];rfl
    · rw [if_neg h,if_neg (fun hh=>h ⟨hh.1,by omega⟩)];rfl
theorem zlW (z:Int):trm (aZ z)=aZ z:=by
  unfold aZ
  split
  · rw [zmN,zdo]
  · exact zdo _
theorem nform_neg (z:Int):(aZ z).map (fun d=>-d)=aZ (-z):=by
  unfold aZ
  by_cases h:z<0
  · rw [if_pos h,if_neg (by omega),Int.natAbs_neg]
    generalize digs z.natAbs=l
    induction l with
    | nil=>rfl
    | cons d l ih=>simp only [List.map_cons,Int.neg_neg,ih]
  · by_cases h0:z=0
    · subst h0;simp [XZ]
    · rw [if_neg h,if_pos (by omega),Int.natAbs_neg]
theorem zlQ (z:Int):zlP true (aZ z)=aZ (-z):=by unfold zlP;simp only [zlW,nform_neg]
theorem zqd (z:Int):zlP false (aZ z)=aZ z:=by unfold zlP;simp only [zlW]
theorem zlt {z:Int} (h:Sz 1000000 z):pSg (aZ z):=⟨by rw [eZ];have:=zhj h;omega,fun d hd=>by have:=zdH z d hd;omega⟩
theorem FC.sqNi {P:Program} {f:FuncId} {args:List AV} {l:List Int} {z:Int} (h:FC P f args (.sq l)) (e:l=aZ z):FC P f args (.ni z):=h.res fun E v hr=>hr.toNi rfl e
theorem rsize_fc (z:Int) (h:pNg z):FC Tryz.prog 180 [.ni z] (.ni (z.natAbs:Int)):=by
  refine FC.sqNi (rsz_0 z h (zlt h)) ?_
  by_cases hz:z<0
  · rw [decide_eq_true hz,zlQ];congr 1;omega
  · rw [decide_eq_false hz,zqd];congr 1;omega
def pX (x:List Int):Prop:=pQ 400000 x
theorem pX.nm {x:List Int} (h:pX x):pNm x:=pQ.mono h (by decide)
theorem pX.s {x:List Int} (h:pX x):Sz 1000000 (vl x):=(pQ.sz h).mono (by decide)
theorem rNeg_fc (x:List Int) (h:pX x):FC Tryz.prog 138 [.sq x] (.ni (-vl x)):=
  FC.sqNi (rng_0 x h.nm (zlt h.s)) (zlQ _)
theorem rSign_fc (x:List Int) (h:pX x):FC Tryz.prog 121 [.sq x] (.lit (.int .i64 (vl x).sign)):=by
  have hl:=eZ (vl x)
  by_cases h0:vl x=0
  · rw [h0];exact rsg_0 x h.nm (by rw [hl,h0];rfl)
  · have hd:dl (vl x)≠0:=fun h=>h0 (dl_zero.1 h)
    by_cases h1:vl x<0
    · rw [Int.sign_eq_neg_one_of_neg h1];exact rsg_1 x h.nm (by omega) h.s h1
    · rw [Int.sign_eq_one_of_pos (by omega)];exact rsg_2 x h.nm (by omega) h.s h1
def zfr (i:Nat) (d:Int) (Y:List Int) (j:Nat):List Int:=List.replicate i 0++(Y.take j).map fun e=>d*e
theorem zfs {i:Nat} {d:Int} {Y:List Int} {j:Nat} (h:j<Y.length):zfr i d Y (j+1)=zfr i d Y j++[d*Y.getD j 0]:=by
  unfold zfr
  rw [List.take_succ_eq_append_getElem h,List.map_append,← List.append_assoc]
  simp [List.getD,h]
theorem zb9 {i:Nat} {d:Int} {Y:List Int} {j:Nat} (h:j≤Y.length):(zfr i d Y j).length=i+j:=by
  unfold zfr;simp;omega
theorem vl_rep (i:Nat):vl (List.replicate i (0:Int))=0:=by
  induction i with
  | zero=>rfl
  | succ i ih=>simp only [List.replicate_succ,vl,ih];rfl
theorem vl_scale (d:Int) (Y:List Int):vl (Y.map fun e=>d*e)=d*vl Y:=by
  induction Y with
  | nil=>simp [vl]
  | cons y Y ih=>simp only [List.map_cons,vl,ih];grind
theorem vl_rowM (i:Nat) (d:Int) (Y:List Int):vl (zfr i d Y Y.length)=100000000 ^ i*(d*vl Y):=by
  unfold zfr
  rw [zba,vl_rep,List.length_replicate,List.take_length,vl_scale];omega
theorem zhv {p q:Int} (hp:-100000000<p∧p<100000000) (hq:-100000000<q∧q<100000000):-10000000000000000≤p*q∧p*q≤10000000000000000:=by
  have h:(p*q).natAbs≤100000000*100000000:=by rw [Int.natAbs_mul];exact Nat.mul_le_mul (by omega) (by omega)
  omega
theorem rm_in (a b c:Int) (i:Nat) (n7:Nat) (lr0:List Int) (hi:i<dl a) (ha:dl a≤200000) (hb:dl b≤200000):∀(m j:Nat),j+m=dl b →
    zer (zfk a b c i n7 lr0 (i+j) j (zfr i ((aZ a).getD i 0) (aZ b) j)) (.exit 2,zfl a b c i n7 lr0 (i+dl b) (dl b:Nat) (zfr i ((aZ a).getD i 0) (aZ b) (dl b)))
  | 0,j,hj=>by
    have:j=dl b:=by omega
    subst this
    have lb:=eZ b
    exact zpw a b c i n7 lr0 _ _ _ (by omega)
  | m+1,j,hj=>by
    have la:=eZ a
    have lb:=eZ b
    have ih:=rm_in a b c i n7 lr0 hi ha hb m (j+1) (by omega)
    have h1:Int.toNat (i:Int)=i:=by omega
    have h2:Int.toNat (j:Int)=j:=by omega
    have hm:=zhv (HZ a i) (HZ b j)
    have hl:=zb9 (i:=i) (d:=(aZ a).getD i 0) (Y:=aZ b) (j:=j) (by omega)
    have hc:((j+1:Nat):Int)=(j:Int)+1:=by omega
    rw [zfs (by omega),hc,← Nat.add_assoc] at ih
    refine zpv a b c i n7 lr0 (i+j) j _ (by omega) (by omega) (by omega) (by omega) (by omega) (by omega) (by rw [h1,h2];omega) (by omega) (by omega) (by omega) (by omega) ?_
    rw [h1,h2]
    have:=zf1 (zfr i ((aZ a).getD i 0) (aZ b) j) ((aZ a).getD i 0*(aZ b).getD j 0)
    rw [hl] at this
    rw [this];exact ih
theorem rm_in0 (a b:Int) (h0:0<dl a) (ha:dl a≤200000) (hb:dl b≤200000):∀(m j:Nat),j+m=dl b →
    zfh (zfi a b j j (zfr 0 ((aZ a).getD 0 0) (aZ b) j)) (.exit 2,zhR a b (dl b) (dl b:Nat) (zfr 0 ((aZ a).getD 0 0) (aZ b) (dl b)))
  | 0,j,hj=>by
    have:j=dl b:=by omega
    subst this
    have lb:=eZ b
    exact zps a b _ _ _ (by omega)
  | m+1,j,hj=>by
    have la:=eZ a
    have lb:=eZ b
    have ih:=rm_in0 a b h0 ha hb m (j+1) (by omega)
    have h2:Int.toNat (j:Int)=j:=by omega
    have hm:=zhv (HZ a 0) (HZ b j)
    have hl:=zb9 (i:=0) (d:=(aZ a).getD 0 0) (Y:=aZ b) (j:=j) (by omega)
    have hc:((j+1:Nat):Int)=(j:Int)+1:=by omega
    rw [zfs (by omega),hc] at ih
    refine zpr a b j j _ (by omega) (by omega) (by omega) (by omega) (by omega) (by rw [h2];omega) (by omega) (by omega) (by omega) (by omega) ?_
    rw [h2]
    have:=zf1 (zfr 0 ((aZ a).getD 0 0) (aZ b) j) ((aZ a).getD 0 0*(aZ b).getD j 0)
    rw [hl,Nat.zero_add] at this
    rw [this];exact ih
theorem take_sz (a:Int) (i:Nat):Sz i (vl ((aZ a).take i)):=by
  have key:∀l:List Int,Digs l→(vl (l.take i)).natAbs<100000000 ^ i:=by
    intro l hl
    have t:Digs (l.take i):=fun d h=>hl d (List.mem_of_mem_take h)
    have h1:=zf4 t
    have h2:=LZ t
    have h3:(100000000:Nat) ^ (l.take i).length≤100000000 ^ i:=Nat.pow_le_pow_right (by decide) (by simp;omega)
    have h4:((100000000 ^ (l.take i).length:Nat):Int)=(100000000:Int) ^ (l.take i).length:=Int.natCast_pow 100000000 _
    omega
  unfold Sz aZ
  split
  · rw [← List.map_take,vl_neg,Int.natAbs_neg]
    exact key _ (rZ _)
  · exact key _ (rZ _)
theorem row_pQ (i:Nat) (d:Int) (b:Int) (j:Nat) (hd:-100000000<d∧d<100000000) (hj:j≤dl b) (h:i+j≤400000):pQ 400000 (zfr i d (aZ b) j):=by
  refine ⟨by rw [zb9 (by rw [eZ];exact hj)];exact h,fun e he=>?_⟩
  unfold zfr at he
  rcases List.mem_append.1 he with h1 | h1
  · have:=List.eq_of_mem_replicate h1
    unfold bZ;omega
  · obtain ⟨q,hq,rfl⟩:=List.mem_map.1 h1
    have:=zhv hd (zdH b q (List.mem_of_mem_take hq))
    unfold bZ;omega
theorem rm_out (a b:Int) (ha:dl a≤150000) (hb:dl b≤150000):∀(m i:Nat),i+m=dl a →
    zct (zcu a b (vl ((aZ a).take i)*b) i) (.exit 0,zfm a b (a*b) (dl a:Nat))
  | 0,i,hi=>by
    have:i=dl a:=by omega
    subst this
    have la:=eZ a
    rw [List.take_of_length_le (by omega),cZ]
    exact zpC a b _ _ (by omega)
  | m + 1,i,hi=>by
    have la:=eZ a
    have lb:=eZ b
    have ih:=rm_out a b ha hb m (i+1) (by omega)
    have h1:Int.toNat (i:Int)=i:=by omega
    have hlt:i<(aZ a).length:=by omega
    have hg:(aZ a)[i]=(aZ a).getD i 0:=by simp [List.getD,hlt]
    have hlen:((aZ a).take i).length=i:=by simp;omega
    have hsz:Sz 400000 (vl ((aZ a).take i)*b):=((take_sz a i).mul (show Sz (dl b) b from zjr b.natAbs)).mono (by omega)
    have hpq:pQ 400000 (aZ (vl ((aZ a).take i)*b)):=kZ hsz (Nat.le_refl _)
    have hc:((i+1:Nat):Int)=(i:Int)+1:=by omega
    rw [List.take_succ_eq_append_getElem hlt,hg,zca,hlen,hc] at ih
    have hd:=HZ a i
    by_cases h0:dl b=0
    · have hb0:b=0:=dl_zero.1 h0
      have hrow:List.take i (List.replicate i (0:Int))=List.replicate i 0:=List.take_of_length_le (by simp)
      refine zpA a b _ i (by omega) (by omega) (by omega) (by omega) (by omega) (zpu a b _ i _ _ (by omega)) (by simp) ?_ (by omega) ?_<;>rw [h1,hrow]
      · exact ⟨hpq,⟨by simp;omega,fun d hd=>by have:=List.eq_of_mem_replicate hd;unfold bZ;omega⟩⟩
      · rw [cZ,vl_rep,hb0]
        rw [hb0] at ih
        simpa using ih
    · have hL2:zer (zfj a b (vl ((aZ a).take i)*b) i i (List.replicate i 0)) (.exit 2,zfl a b (vl ((aZ a).take i)*b) i i (List.replicate i 0) (i+dl b) (dl b:Nat) (zfr i ((aZ a).getD i 0) (aZ b) (dl b))):=by
        have hk:=rm_in a b (vl ((aZ a).take i)*b) i i (List.replicate i 0) (by omega) (by omega) (by omega) (dl b-1) 1 (by omega)
        rw [zfs (by omega)] at hk
        have hm:=zhv (HZ a i) (HZ b 0)
        have e0:zfr i ((aZ a).getD i 0) (aZ b) 0=List.replicate i 0:=by simp [zfr]
        rw [e0] at hk
        refine zpt a b _ i i _ (by omega) (by omega) (by omega) (by omega) (by omega) (by rw [h1];omega) (by omega) (by omega) (by simp) ?_
        rw [h1]
        have:=zf1 (List.replicate i (0:Int)) ((aZ a).getD i 0*(aZ b).getD 0 0)
        rw [List.length_replicate] at this
        rw [this];exact hk
      have hlr:(zfr i ((aZ a).getD i 0) (aZ b) (dl b)).length=i+dl b:=zb9 (by omega)
      have htk:List.take (i+dl b) (zfr i ((aZ a).getD i 0) (aZ b) (dl b))=zfr i ((aZ a).getD i 0) (aZ b) (dl b):=List.take_of_length_le (by omega)
      have hv:vl (zfr i ((aZ a).getD i 0) (aZ b) (dl b))=100000000 ^ i*((aZ a).getD i 0*b):=by
        have:=vl_rowM i ((aZ a).getD i 0) (aZ b)
        rw [lb,cZ] at this;exact this
      refine zpB a b _ i (i+dl b) (dl b:Nat) (zfr i ((aZ a).getD i 0) (aZ b) (dl b)) (by omega) (by omega) (by omega) (by omega) (by omega) (by rw [h1];exact hL2) (by omega) ?_ (by omega) ?_
      · rw [htk];exact ⟨hpq,row_pQ _ _ _ _ hd (Nat.le_refl _) (by omega)⟩
      · rw [htk,cZ,hv]
        have e:vl ((aZ a).take i)*b+100000000 ^ i*((aZ a).getD i 0*b)=(vl ((aZ a).take i)+100000000 ^ i*(aZ a).getD i 0)*b:=by grind
        rw [e];exact ih
def pMu (x y:List Int):Prop:=pQ 100000 x∧pQ 100000 y
theorem rMul_fc (x y:List Int) (h:pMu x y):FC Tryz.prog 94 [.sq x,.sq y] (.ni (vl x*vl y)):=by
  obtain ⟨hx,hy⟩:=h
  have px:pNm x:=hx.mono (by decide)
  have py:pNm y:=hy.mono (by decide)
  have da:=zhj hx.sz
  have db:=zhj hy.sz
  have hz:=hx.sz.mul hy.sz
  have hpn:pNm (aZ (vl x*vl y)):=kZ hz (by decide)
  have fin:∀t,zct (zeb (vl x) (vl y)) (.exit 0,zfm (vl x) (vl y) (vl x*vl y) t)→FC Tryz.prog 94 [.sq x,.sq y] (.ni (vl x*vl y)):=fun t hL=>by
    have:=rml_1 x y (vl x*vl y) t px py hL hpn
    rwa [cZ] at this
  have lx:=eZ (vl x)
  have ly:=eZ (vl y)
  by_cases h0:dl (vl x)=0
  · have hx0:vl x=0:=dl_zero.1 h0
    have:=rml_0 x y px py (zpz _ _ (by omega)) ⟨by simp,fun d hd=>by cases hd⟩
    rw [hx0,Int.zero_mul];exact this
  · have hlt:0<(aZ (vl x)).length:=by omega
    have ho:=rm_out (vl x) (vl y) (by omega) (by omega) (dl (vl x)-1) 1 (by omega)
    have hg:(aZ (vl x))[0]=(aZ (vl x)).getD 0 0:=by simp [List.getD,hlt]
    have ht:vl ((aZ (vl x)).take 1)=(aZ (vl x)).getD 0 0:=by
      rw [List.take_succ_eq_append_getElem hlt,hg];simp [vl]
    rw [ht] at ho
    by_cases hb0:dl (vl y)=0
    · have hy0:vl y=0:=dl_zero.1 hb0
      refine fin (dl (vl x):Nat) (zpx _ _ (by omega) (zpq _ _ (by omega)) (by omega) ⟨⟨by simp,fun d hd=>by cases hd⟩,⟨by simp,fun d hd=>by simp at hd⟩⟩ ?_)
      rw [hy0] at ho ⊢
      simpa using ho
    · have hk:=rm_in0 (vl x) (vl y) (by omega) (by omega) (by omega) (dl (vl y)-1) 1 (by omega)
      have hm:=zhv (HZ (vl x) 0) (HZ (vl y) 0)
      have e1:zfr 0 ((aZ (vl x)).getD 0 0) (aZ (vl y)) 1=[(aZ (vl x)).getD 0 0*(aZ (vl y)).getD 0 0]:=by rw [zfs (by omega)];simp [zfr]
      rw [e1] at hk
      have hL0:=zpp (vl x) (vl y) (by omega) (by omega) (by omega) (by omega) (by omega) hk
      have hlr:(zfr 0 ((aZ (vl x)).getD 0 0) (aZ (vl y)) (dl (vl y))).length=dl (vl y):=by rw [zb9 (by omega)];omega
      have htk:List.take (dl (vl y)) (zfr 0 ((aZ (vl x)).getD 0 0) (aZ (vl y)) (dl (vl y)))=zfr 0 ((aZ (vl x)).getD 0 0) (aZ (vl y)) (dl (vl y)):=List.take_of_length_le (by omega)
      have hv:vl (zfr 0 ((aZ (vl x)).getD 0 0) (aZ (vl y)) (dl (vl y)))=(aZ (vl x)).getD 0 0*vl y:=by
        have:=vl_rowM 0 ((aZ (vl x)).getD 0 0) (aZ (vl y))
        rw [ly,cZ] at this
        simpa using this
      refine fin (dl (vl x):Nat) (zpy _ _ (dl (vl y)) (dl (vl y):Nat) _ (by omega) hL0 (by omega) ?_ ?_)
      · rw [htk];exact ⟨⟨by simp,fun d hd=>by cases hd⟩,row_pQ _ _ _ _ (HZ _ _) (Nat.le_refl _) (by omega)⟩
      · rw [htk,hv]
        simpa using ho
def ctrF5:Ctr:=(180,n1 pNg (fun z=>.ni (z.natAbs:Int))) :: (138,cL pX (fun x=>.ni (-vl x))) :: (121,cL pX (fun x=>.lit (.int .i64 (vl x).sign))) :: (94,cLL pMu (fun x y=>.ni (vl x*vl y))) :: ctrF4
theorem zkE:∀p∈ctrF5,lZ Tryz.prog p.1 p.2:=CAll.cons (n1_ok rsize_fc)<|CAll.cons (zjf rNeg_fc)<|CAll.cons (zjf rSign_fc)<|CAll.cons (zcd rMul_fc) zkD
theorem okF5:(dZ Tryz.prog ctrF5 bw).OK:=QZ zkE
noncomputable section
theorem rsb_0 (x y:List Int) (h1:pX y) (h2:pAd x (aZ (-vl y))):FC Tryz.prog 141 [.sq x,.sq y] (.ni (vl x+vl (aZ (-vl y)))):=fZ okF5 60 [] (.c h1<|.c h2<|.e) [1,2]
end
def pSu (x y:List Int):Prop:=pQ 390000 x∧pQ 390000 y
theorem rSub_fc (x y:List Int) (h:pSu x y):FC Tryz.prog 141 [.sq x,.sq y] (.ni (vl x-vl y)):=by
  have:=rsb_0 x y (h.2.mono (by decide)) ⟨h.1.mono (by decide),kZ h.2.sz.neg (by decide)⟩
  rw [cZ,← Int.sub_eq_add_neg] at this
  exact this
def ctrF6:Ctr:=(141,cLL pSu (fun x y=>.ni (vl x-vl y))) :: ctrF5
theorem zkF:∀p∈ctrF6,lZ Tryz.prog p.1 p.2:=CAll.cons (zcd rSub_fc) zkE
theorem okF6:(dZ Tryz.prog ctrF6 bw).OK:=QZ zkF
end Go.Proofs.YtloaeinogiplbaaGreatDoor
end
