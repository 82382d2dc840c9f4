/- Part of a proof about a given program: see the last module of the claim. -/
import Derived.Test.YtagbldogmjhdpaaGreatDoorB
import Derived.Test.YtagbldogmjhdpaaGreatDoorRows
import Derived.ProofKit
import Derived.LaidMore
import Derived.OpenShut
import Derived.Stop.Joined
import Derived.ChangeSlices
import Derived.Carry
import Derived.ChangeSame
import Derived.RangeFuncBox
import Derived.RangeFuncLeaves
import Derived.WalkKit
import Derived.OwnWalkIn
import Derived.TacticsInMore
import Derived.LoopNIn
import Derived.LoopIn
import Derived.Test.YtagbldogmjhdpaaGreatDoorProg
section
namespace Go.Ev
open Go.RowKit (Below)
section
variable (g:Cfg)
def fcA (fuel:Nat) (f:FuncId) (args:List AV):M AV:=do
 let fn ← ofOpt 110 (fnOf g.P f)
 let c ← ofOpt 111 fn.body
 if fn.ntmps<args.length then fail 112 else
 let (ex,st) ← evA g fuel false c ⟨Fm.args fn.ntmps args,[],[]⟩
 match ex with
 | .exit _=>fail 113
 | _=>do
  let vs ← zaG g st fn.results.toList
  let (v,_,ps) ← ofOpt 114 (frz 40 st.rows (one vs))
  tellAll ps
  if BZ 20 v=true then M.pure v else fail 115
end
section
variable {g:Cfg}
theorem fcA_spec (hg:g.OK) (fuel:Nat) (f:FuncId) (args:List AV):Spec (fcA g fuel f args) fun v=>FC g.P f args v:=by
 unfold fcA
 refine Spec.bind (Spec.ofOpt fun fn hfn=>Spec.bind (Spec.ofOpt fun c hc=>?_))
 split
 ·exact Spec.fail
 ·rename_i hnt
  have hcall:∀r:Out,zkz g.P [] [] f args r→∀v rows ps,frz 40 r.rows r.v=some (v,rows,ps)→(∀p∈ps,p)→BZ 20 v=true→FC g.P f args v:=by
   intro r hr v rows ps hv hps hd M w vs hM hl hargs
   have hm:Mem w.heap.size M [] [] w:=⟨Nat.le_refl _,hM,rfl,fun r b h=>(by cases h),fun r row b h=>(by cases h),fun r r' row row' b h=>(by cases h)⟩
   have hext:Ext ⟨w.heap,M,[]⟩ (iZ M [] [] w):=⟨Nat.le_refl _,fun b _ hb=>⟨rfl,by rintro (h | ⟨r,row,h,_⟩)<;>first | exact hb h | cases h⟩,fun r b h=>(by cases h),fun _ _=>rfl⟩
   refine (hr w.heap.size M [] w vs hm ⟨hl,fun i hi=>(hargs i hi).ext hext⟩).mono ?_
   rintro e w' ⟨u,he,rho',hs,hu⟩
   obtain ⟨hs2,hu2⟩:=(zhj 40).1 _ _ _ _ _ hv hps _ _ _ [] w' u hs.mem hu
   refine ⟨u,he,hs.below,?_⟩
   refine Rd.data (E:=iZ M rows rho' w') (E':=⟨w'.heap,M,[]⟩) rfl (fun b hb hMb=>hb (.inl hMb)) hu2 20 hd
  have hrun:zbg g.P (evA g fuel false):=fun c st=>zaB hg fuel false c st
  intro cc s x s' cs he hcs
  have hsp:Spec (do
   let (ex,st) ← evA g fuel false c ⟨Fm.args fn.ntmps args,[],[]⟩
   match ex with
   | .exit _=>fail 113
   | _=>do
    let vs ← zaG g st fn.results.toList
    let (v,_,ps) ← ofOpt 114 (frz 40 st.rows (one vs))
    tellAll ps
    if BZ 20 v=true then M.pure v else fail 115) fun v=>FC g.P f args v:=by
   have hcs:=zdQ hg (run:=evA g fuel false) hrun hfn hc hnt [] []
   refine Spec.bind (hcs.mono fun r hr=>?_)
   obtain ⟨ex,st⟩:=r
   dsimp only at hr ⊢
   have fin:(ex=.normal∨ex=.ret)→Spec (do
    let vs ← zaG g st fn.results.toList
    let (v,_,ps) ← ofOpt 114 (frz 40 st.rows (one vs))
    tellAll ps
    if BZ 20 v=true then M.pure v else fail 115) fun v=>FC g.P f args v:=by
    intro hex
    refine Spec.bind ((hr hex).mono fun vs hvs=>Spec.bind (Spec.ofOpt fun p hp=>?_))
    obtain ⟨v,rows,ps⟩:=p
    dsimp only
    refine Spec.bind (Spec.tellAll fun hps=>?_)
    split
    ·rename_i hd
     exact Spec.pure' (hcall ⟨one vs,st.rows,st.wr⟩ hvs v rows ps hp hps hd)
    ·exact Spec.fail
   split
   ·exact Spec.fail
   ·rename_i hne
    refine fin ?_
    cases ex with
    | normal=>exact .inl rfl
    | ret=>exact .inr rfl
    | exit id=>exact absurd rfl (hne id)
  exact hsp cc s x s' cs he hcs
theorem fc_run (hg:g.OK) {fuel:Nat} {f:FuncId} {args:List AV} {conc:Bool} {s s':Sup} {res:AV} {cs:List Cnd} (h:fcA g fuel f args conc s=.ok res s' cs) (hcs:∀p∈cs,p.ok):FC g.P f args res:=
 fcA_spec hg fuel f args conc s res s' cs h hcs
end
end Go.Ev
end
section
namespace Go.Ev
theorem zjJ {α:Type}:∀ {l:List (Nat × α)} {n:Nat} {x:α},look l n=some x→(n,x)∈l
 | [],_,_,h=>by cases h
 | (k,y) :: l,n,x,h=>by
  unfold look at h
  by_cases hk:(k==n)=true
  ·rw [if_pos hk] at h
   cases h
   have:k=n:=by simpa using hk
   subst this
   simp
  ·rw [if_neg hk] at h
   exact List.mem_cons_of_mem _ (zjJ h)
def zjp (P : Program) : Prop := P.funcs.toList.all (fun fn => !(fn.name == "runtime.NumGoroutine")) = true
theorem fnOf_ok {P : Program} (h : zjp P) (f : FuncId) (fn : Func) (hl : fnOf P f = some fn) : P.funcs[f]? = some fn ∧ fn.body.isNone = false ∧ (fn.name == "runtime.NumGoroutine") = false := by
 unfold fnOf at hl
 split at hl
 ·rename_i g hg
  split at hl
  ·rename_i c hc
   cases hl
   have:=List.all_eq_true.1 h fn (by simpa using Array.mem_of_getElem? hg)
   exact ⟨hg,by rw [hc];rfl,by simpa using this⟩
  ·cases hl
 ·cases hl
abbrev Ctr:=List (FuncId × (List AV→M AV))
def ctrC (l:Ctr) (f:FuncId) (args:List AV):M AV:=
 match look l f with
 | some c=>c args
 | none=>fail 120
def jZ (P:Program) (f:FuncId) (c:List AV→M AV):Prop:=∀args,args.all (BZ 20)=true→Spec (c args) fun v=>FC P f args v
def eZ (P:Program) (l:Ctr) (bw:List (FuncId × Nat)) (opt:List FuncId:=[]) (kd:List (TypeId × EK):=[]):Cfg:=⟨P,l.map Prod.fst,ctrC l,bw,opt,kd⟩
theorem vZ {P:Program} {l:Ctr} {bw:List (FuncId × Nat)} {opt:List FuncId} {kd:List (TypeId × EK)} (hn:zjp P) (hm:P.follows .mixedOrders=true)
 (hl:∀p∈l,jZ P p.1 p.2) (hbw:∀p∈bw,BwOK P p.1 p.2):(eZ P l bw opt kd).OK where
 F:=fnOf_ok hn
 C := by
  intro f args _ ha
  change Spec (ctrC l f args) _
  unfold ctrC
  split
  ·rename_i c hc
   exact hl _ (zjJ hc) args ha
  ·exact Spec.fail
 mixed:=hm
 bw gf ag h:=hbw _ (zjJ h)
theorem CAll.cons {P:Program} {f:FuncId} {c:List AV→M AV} {l:Ctr} (h:jZ P f c) (hl:∀p∈l,jZ P p.1 p.2):∀p∈(f,c) :: l,jZ P p.1 p.2:=by
 intro p hp
 rcases List.mem_cons.1 hp with rfl | hp
 ·exact h
 ·exact hl p hp
theorem CAll.nil {P:Program}:∀p∈([]:Ctr),jZ P p.1 p.2:=fun _ hp=>(by cases hp)
end Go.Ev
end
section
namespace Go.Ev
open Go.RowKit (Below)
abbrev aI (n:Int):AV:=.lit (.int .i64 n)
abbrev aD (z:Int):AV:=.lit (.bool (decide (z<0)))
abbrev aN:AV:=.lit (.slice none 0 0)
abbrev aF:AV:=.lit (.bool false)
abbrev aT:AV:=.lit (.bool true)
abbrev aJ:AV:=.junk
inductive AllC:List Prop→Prop
 | nil:AllC []
 | cons {p:Prop} {ps:List Prop} (h:p) (k:AllC ps):AllC (p :: ps)
theorem AllC.mem {ps:List Prop} (h:AllC ps):∀p∈ps,p:=by
 induction h with
 | nil=>intro p hp;cases hp
 | cons h _ ih=>
  intro p hp
  rcases List.mem_cons.1 hp with rfl | hp
  ·exact h
  ·exact ih p hp
def zcv:Code→List Code
 | .seq a b=>zcv a++zcv b
 | .cond _ a b=>zcv a++zcv b
 | .block _ b=>zcv b
 | .loop b=>b :: zcv b
 | .rangeFunc _ _ a b=>zcv a++zcv b
 | _=>[]
def kZ (P:Program) (f:FuncId) (k:Nat):Code:=match fnOf P f with
 | some fn=>match fn.body with
  | some c=>(zcv c).getD k .skip
  | none=>.skip
 | none=>.skip
inductive Sg where
 | s (a:St)
 | b (a:Bool)
 | p (p:Prop)
def nthP:List Prop→Nat→Prop
 | [],_=>True
 | p :: _,0=>p
 | _ :: l,k+1=>nthP l k
def zmN:List Nat→List Cnd→List Sg
 | i :: is,c :: cs=>(match i with
  | 0=>match c with
   | .p p=>.p p
   | .s a _=>.s a
   | .b a _=>.b a
  | _+1=>.p c.ok) :: zmN is cs
 | _,_=>[]
def zhM (gs:List Prop):List Nat→List Cnd→List Sg
 | i :: is,c :: cs=>(match i with
  | 0=>match c with
   | .p _=>.p True
   | .s _ b=>.s b
   | .b _ b=>.b b
  | k+1=>.p (nthP gs k)) :: zhM gs is cs
 | [],[]=>[]
 | _,_=>[.b true]
theorem nthP_ok {gs:List Prop} (h:AllC gs):∀k,nthP gs k:=by
 induction h with
 | nil=>exact fun _=>trivial
 | cons h _ ih=>exact fun k=>by cases k with
  | zero=>exact h
  | succ k=>exact ih k
theorem zkn {gs:List Prop} (h:AllC gs):∀ {ix:List Nat} {cs:List Cnd},zmN ix cs=zhM gs ix cs→∀c∈cs,c.ok
 | [],[],_=>fun c hc=>by cases hc
 | [],_ :: _,he=>by simp [zmN,zhM] at he
 | _ :: _,[],he=>by simp [zmN,zhM] at he
 | i :: is,c :: cs,he=>by
  simp only [zmN,zhM,List.cons.injEq] at he
  intro x hx
  rcases List.mem_cons.1 hx with rfl | hx
  ·have h1:=he.1
   cases i with
   | zero=>cases x with
    | p p=>exact(Sg.p.inj h1)▸trivial
    | s a b=>exact Sg.s.inj h1
    | b a b=>exact Sg.b.inj h1
   | succ k=>exact(Sg.p.inj h1)▸nthP_ok h k
  ·exact zkn h he.2 x hx
def dcd:List Nat→List (Nat × Bool)
 | []=>[]
 | k :: l=>match k % 2 with
  | 0=>(k / 2,false) :: dcd l
  | _=>(k / 2,true) :: dcd l
def rndC (g:Cfg) (fuel:Nat) (b:Code) (n0:Nat) (src keep wr:List Nat) (st:St) (os:List Nat) (lp:List (Option zay)):Option (Ex × St × List Cnd):=
 match evA g fuel false b st false ⟨dcd os,lp,1000000,false⟩ with
 | .ok (ex,st1) ⟨[],[],_,_⟩ cs=>match canon n0 src keep wr st1 with
  | some st2=>some (ex,st2,cs)
  | none=>none
 | _=>none
def lhsR (ix:List Nat) (R:Option (Ex × St × List Cnd)):Option (Ex × St × List Sg):=match R with
 | some (ex,st,cs)=>some (ex,st,zmN ix cs)
 | none=>none
def rhsR (gs:List Prop) (ix:List Nat) (ex:Ex) (st:St) (R:Option (Ex × St × List Cnd)):Option (Ex × St × List Sg):=match R with
 | some (_,_,cs)=>some (ex,st,zhM gs ix cs)
 | none=>some (ex,st,[])
theorem sidesR {gs:List Prop} (hc:AllC gs) {ix:List Nat} {ex:Ex} {st:St} {R:Option (Ex × St × List Cnd)} (h:lhsR ix R=rhsR gs ix ex st R):∃cs,R=some (ex,st,cs)∧∀c∈cs,c.ok:=by
 cases R with
 | none=>cases h
 | some r=>
  obtain ⟨ex1,st1,cs⟩:=r
  simp only [lhsR,rhsR,Option.some.injEq,Prod.mk.injEq] at h
  obtain ⟨rfl,rfl,h⟩:=h
  exact ⟨cs,rfl,zkn hc h⟩
structure RndI (g:Cfg) (fuel:Nat) (b:Code) (n0:Nat) (src keep wr:List Nat) (st:St) (os:List Nat) (lp:List (Option zay)) (ix:List Nat) (ex:Ex) (st2:St) (gs:List Prop):Prop where
 h:lhsR ix (rndC g fuel b n0 src keep wr st os lp)=rhsR gs ix ex st2 (rndC g fuel b n0 src keep wr st os lp):=by kernel_rfl
def LS (n0:Nat) (P:Program) (b:Code) (st:St) (r:Ex × St):Prop:=∃st1,AW P b st (r.1,st1)∧Weak n0 st1 r.2
theorem LS.of {g:Cfg} (hg:g.OK) {fuel:Nat} {b:Code} {n0:Nat} {src keep wr:List Nat} {st st2:St} {os:List Nat} {lp:List (Option zay)} {ix:List Nat} {ex:Ex} {gs:List Prop}
 (h:RndI g fuel b n0 src keep wr st os lp ix ex st2 gs) (hc:AllC gs):LS n0 g.P b st (ex,st2):=by
 obtain ⟨cs,hR,hcs⟩:=sidesR hc h.h
 unfold rndC at hR
 split at hR
 ·rename_i ex1 st1 sk1 stop1 cs1 he
  split at hR
  ·rename_i st3 hk
   cases hR
   exact ⟨st1,zaB hg fuel false b st false ⟨dcd os,lp,1000000,false⟩ (ex,st1) _ cs he hcs,zfD hk⟩
  ·cases hR
 ·cases hR
theorem Loops.go {n0:Nat} {P:Program} {b:Code} {st st1:St} {r:Ex × St} (h:LS n0 P b st (.normal,st1)) (k:Loops n0 P b st1 r):Loops n0 P b st r:=by
 obtain ⟨st2,h1,h2⟩:=h
 exact .step (h1.toN n0) (.weak h2 k)
theorem Loops.fin {n0:Nat} {P:Program} {b:Code} {st st1:St} {ex:Ex} (h:LS n0 P b st (ex,st1)) (he:ex.toExit≠.normal):Loops n0 P b st (ex,st1):=by
 obtain ⟨st2,h1,h2⟩:=h
 exact .weakOut h2 (.out (h1.toN n0) he)
abbrev zdZ (_:Program) (_:Code) (src keep wr:List Nat) (st0:St) (r:Ex × St):zay:=some ⟨src,keep,wr,st0,r⟩
def funC (g:Cfg) (fuel:Nat) (f:FuncId) (args:List AV) (os:List Nat) (lp:List (Option zay)):Option (AV × List Cnd):=
 match fcA g fuel f args false ⟨dcd os,lp,1000000,false⟩ with
 | .ok v ⟨[],[],_,_⟩ cs=>some (v,cs)
 | _=>none
def lhsF (ix:List Nat) (R:Option (AV × List Cnd)):Option (AV × List Sg):=match R with
 | some (v,cs)=>some (v,zmN ix cs)
 | none=>none
def rhsF (gs:List Prop) (ix:List Nat) (v:AV) (R:Option (AV × List Cnd)):Option (AV × List Sg):=match R with
 | some (_,cs)=>some (v,zhM gs ix cs)
 | none=>some (v,[])
theorem sidesF {gs:List Prop} (hc:AllC gs) {ix:List Nat} {v:AV} {R:Option (AV × List Cnd)} (h:lhsF ix R=rhsF gs ix v R):∃cs,R=some (v,cs)∧∀c∈cs,c.ok:=by
 cases R with
 | none=>cases h
 | some r=>
  obtain ⟨v1,cs⟩:=r
  simp only [lhsF,rhsF,Option.some.injEq,Prod.mk.injEq] at h
  obtain ⟨rfl,h⟩:=h
  exact ⟨cs,rfl,zkn hc h⟩
structure FunI (g:Cfg) (fuel:Nat) (f:FuncId) (args:List AV) (os:List Nat) (lp:List (Option zay)) (ix:List Nat) (v:AV) (gs:List Prop):Prop where
 h:lhsF ix (funC g fuel f args os lp)=rhsF gs ix v (funC g fuel f args os lp):=by kernel_rfl
theorem lZ {g:Cfg} (hg:g.OK) {fuel:Nat} {f:FuncId} {args:List AV} {os:List Nat} {lp:List (Option zay)} {ix:List Nat} {v:AV} {gs:List Prop}
 (h:FunI g fuel f args os lp ix v gs) (hc:AllC gs):FC g.P f args v:=by
 obtain ⟨cs,hR,hcs⟩:=sidesF hc h.h
 unfold funC at hR
 split at hR
 ·rename_i v1 sk1 stop1 cs1 he
  cases hR
  exact fc_run hg he hcs
 ·cases hR
inductive Giv:List (Option zay)→List Prop→Prop
 | e:Giv [] []
 | c {lp:List (Option zay)} {gs:List Prop} {p:Prop} (h:p) (k:Giv lp gs):Giv lp (p :: gs)
 | v {lp:List (Option zay)} {gs:List Prop} (keep wr:List Nat) {n0:Nat} {P:Program} {b:Code} {st0:St} {r:Ex × St} (h:Loops n0 P b st0 r) (k:Giv lp gs):Giv (some (some ⟨[],keep,wr,st0,r⟩) :: lp) (Loops n0 P b st0 r :: gs)
 | o {lp:List (Option zay)} {gs:List Prop} (k:Giv lp gs):Giv (none :: lp) gs
theorem Giv.all {lp:List (Option zay)} {gs:List Prop} (h:Giv lp gs):AllC gs:=by
 induction h with
 | e=>exact .nil
 | c h _ ih=>exact .cons h ih
 | v _ _ h _ ih=>exact .cons h ih
 | o _ ih=>exact ih
abbrev LG (L:St→Ex × St→Prop) (a b:St):Prop:=∀ {r:Ex × St},L b r→L a r
theorem LF {n0:Nat} {P:Program} {b:Code} {st st1:St} {ex:Ex} (h:LS n0 P b st (ex,st1)) (he:ex.toExit≠.normal:=by exact fun h=>nomatch h):Loops n0 P b st (ex,st1):=Loops.fin h he
abbrev KI:EK:=.sl (.int .i64)
structure CU (p:Prop):Prop where
 h:p:=by first | ((with_reducible refine inR64.2 ?_);omega) | (with_reducible refine pFl ?_ ?_<;>omega) | ((with_reducible refine decide_eq_true ?_);omega) | ((with_reducible refine decide_eq_false ?_);omega) | omega
def uxR (l:List Nat):Nat→List Nat
 | 0=>l
 | k+1=>0 :: uxR l k
def ux:List Nat→List Nat
 | []=>[]
 | n :: l=>match Nat.ble 1000 n with
  | true=>uxR (ux l) (n-1000)
  | false=>n :: ux l
end Go.Ev
end
section
open Go Go.Ev Go.RowKit Go.ChangeShapes Go.WideShapes
namespace Go.Proofs.YtagbldogmjhdpaaGreatDoor
open Go.Proofs
set_option maxRecDepth 100000
set_option linter.unusedVariables false
set_option linter.unusedSimpArgs false
section
variable {H:Type} {enc:TypeId × Value→H} {P:Program}
theorem post_true {f:Func} {s:ChangeSpec} {apart fresh handsOn again:Bool} {W W':World} {args:Array Value} {v:Value} {ds gs:List (DataW H)} {before pa pv:List MemPlace}
 (hW:DataW.Whole enc P f.params.toList s.vars apart W args.toList ds gs before)
 (hres:∀(b:Nat) (sp:Nat→Bool) (hd:Bool),DataW.TrodAll enc P W' b sp hd f.resultTypes.toList (v.resultList f.resultTypes.size) (s.fn H (ds++gs)).results [])
 (hargs:∀sp:Nat→Bool,(∀p∈before,sp p.block=true)→DataW.TrodAll enc P W' 0 sp true f.params.toList args.toList (s.fn H (ds++gs)).args pa)
 (hvars:∀sp:Nat→Bool,(∀p∈before,sp p.block=true)→DataW.TrodVars enc P W' sp s.vars (s.fn H (ds++gs)).vars pv)
 (hps:before=pa++pv) (hb:Below W.heap.size W W')
 (hok:∀(j:Nat) (t:TypeId) (r:Value),f.resultTypes[j]? = some t→(v.resultList f.resultTypes.size)[j]? = some r→Value.okWide P W' .any 0 t r) :
 s.post enc P f apart fresh handsOn again W args v W':=by
 have hlt:∀p∈before,p.block<W.heap.size:=fun p hp=>hW.lt p hp
 have hold:∀p∈before,(fun b=>decide (b<W.heap.size)) p.block=true:=fun p hp=>by simpa using hlt p hp
 refine ⟨ds,gs,before,[],pa,pv,hW,hres _ _ _,hargs _ hold,hvars _ hold,World.keptBut_mono (fun p hp=>⟨hp,?_⟩) (hb.frame (·∈before)),fun _=>?_⟩
 ·rw [hps,List.mem_append] at hp
  exact Or.inr hp
 ·obtain ⟨_,_,_,_,_,hz,hn⟩:=hW
  refine ⟨hok,_,_,([]++pa)++pv,⟨[]++pa,pv,trodAll_append (hargs _ (fun _ _=>rfl)) (hres _ _ _),hvars _ (fun _ _=>rfl),rfl,?_,?_⟩,?_⟩
  ·intro b off hp
   have hin:MemPlace.cell b off∈before:=by rw [hps];simpa using hp
   rw [hb.frozen (hlt _ hin)]
   exact hz b off hin
  ·intro ha
   have:=hn ha
   rw [hps] at this
   simpa using this
  ·intro p hp _
   rw [hps]
   simpa using hp
end
end Go.Proofs.YtagbldogmjhdpaaGreatDoor
end
section
namespace Go.Ev
def vl:List Int→Int
 | []=>0
 | d :: l=>d+(100000000:Int)*vl l
def Digs (l:List Int):Prop:=∀d∈l,0≤d∧d<(100000000:Int)
theorem zaK (a b:List Int):vl (a++b)=vl a+(100000000:Int) ^ a.length*vl b:=by
 induction a with
 | nil=>simp [vl]
 | cons d a ih=>simp only [List.cons_append,vl,ih,List.length_cons,Int.pow_succ];grind
theorem zbG (a:List Int) (d:Int):vl (a++[d])=vl a+(100000000:Int) ^ a.length*d:=by
 rw [zaK];simp [vl]
theorem vl_neg (l:List Int):vl (l.map fun d=>-d) = - vl l:=by
 induction l with
 | nil=>rfl
 | cons d l ih=>simp only [List.map_cons,vl,ih,Int.mul_neg];omega
theorem pow_pos (n:Nat):0<(100000000:Int) ^ n:=Int.pow_pos (by decide)
theorem FZ {l:List Int} (h:Digs l):0≤vl l:=by
 induction l with
 | nil=>exact Int.le_refl _
 | cons d l ih=>
  have h1:=h d (by simp)
  have h2:=ih fun x hx=>h x (by simp [hx])
  simp only [vl];omega
theorem zfW {l:List Int} (h:Digs l):vl l<(100000000:Int) ^ l.length:=by
 induction l with
 | nil=>decide
 | cons d l ih=>
  have h1:=h d (by simp)
  have h2:=ih fun x hx=>h x (by simp [hx])
  simp only [vl,List.length_cons,Int.pow_succ];omega
def trm:List Int→List Int
 | []=>[]
 | d :: l=>if trm l=[]∧d=0 then [] else d :: trm l
theorem zgP (l:List Int):trm (l++[0])=trm l:=by
 induction l with
 | nil=>rfl
 | cons d l ih=>simp only [List.cons_append,trm,ih]
theorem zcJ (l:List Int) (d:Int) (h:d≠0):trm (l++[d])=l++[d]:=by
 induction l with
 | nil=>simp [trm,h]
 | cons x l ih=>simp [List.cons_append,trm,ih]
theorem vl_trm (l:List Int):vl (trm l)=vl l:=by
 induction l with
 | nil=>rfl
 | cons d l ih=>
  simp only [trm]
  split
  ·rename_i h
   rw [h.1] at ih
   simp only [vl] at ih ⊢
   rw [← ih,h.2];rfl
  ·simp only [vl,ih]
theorem Digs.trm {l:List Int} (h:Digs l):Digs (trm l):=by
 induction l with
 | nil=>exact h
 | cons d l ih=>
  simp only [Ev.trm]
  split
  ·intro x hx;cases hx
  ·intro x hx
   rcases List.mem_cons.1 hx with rfl | hx
   ·exact h _ (by simp)
   ·exact ih (fun y hy=>h y (by simp [hy])) x hx
theorem zfV (l:List Int):(trm l).length≤l.length:=by
 induction l with
 | nil=>exact Nat.le_refl _
 | cons d l ih=>
  simp only [trm]
  grind
theorem digsF_eq:∀(f n:Nat),n≤f→zk7 f n=zk7 n n:=by
 intro f
 induction f using Nat.strongRecOn with
 | _ f ih=>
  intro n hn
  cases f with
  | zero=>
   simp_all
  | succ f=>
   cases n with
   | zero=>simp [zk7]
   | succ n=>
    simp only [zk7]
    grind
theorem QZ:digs 0=[]:=rfl
theorem zbx (n:Nat) (h:n≠0):digs n=((n % 100000000:Nat):Int) :: digs (n / 100000000):=by
 cases n with
 | zero=>exact absurd rfl h
 | succ n=>
  show zk7 (n+1) (n+1)=_
  simp only [zk7]
  rw [if_neg (by omega),digsF_eq n _ (by omega)]
  rfl
theorem XZ (n:Nat):vl (digs n)=n:=by
 induction n using Nat.strongRecOn with
 | _ n ih=>
  by_cases h:n=0
  ·subst h;rfl
  ·rw [zbx n h]
   simp only [vl]
   grind
theorem oZ (n:Nat):Digs (digs n):=by
 induction n using Nat.strongRecOn with
 | _ n ih=>
  by_cases h:n=0
  ·subst h;intro d hd;cases hd
  ·rw [zbx n h]
   intro d hd
   rcases List.mem_cons.1 hd with rfl | hd
   ·omega
   ·exact ih _ (by omega) d hd
theorem zbI (n:Nat):digs n=[]↔n=0:=by
 constructor
 ·intro h
  by_cases h0:n=0
  ·exact h0
  ·rw [zbx n h0] at h;cases h
 ·rintro rfl;rfl
theorem zab (n k:Nat) (h:n<100000000 ^ k):(digs n).length≤k:=by
 induction k generalizing n with
 | zero=>
  have:n=0:=by simpa using h
  subst this;simp [QZ]
 | succ k ih=>
  by_cases h0:n=0
  ·subst h0;simp [QZ]
  ·rw [zbx n h0,List.length_cons]
   grind
theorem zjD (n:Nat):n<100000000 ^ (digs n).length:=by
 have h1:=zfW (oZ n)
 rw [XZ] at h1
 grind
theorem zas {l:List Int} (h:Digs l):trm l=digs (vl l).toNat:=by
 induction l with
 | nil=>rfl
 | cons d l ih=>
  have h1:=h d (by simp)
  have hl:Digs l:=fun x hx=>h x (by simp [hx])
  have h2:=FZ hl
  have ih:=ih hl
  simp only [trm,vl]
  by_cases hz:(d+(100000000:Int)*vl l).toNat=0
  ·have hv:vl l=0:=by omega
   have hd:d=0:=by omega
   rw [hz,QZ,ih,hv,if_pos ⟨rfl,hd⟩]
  ·rw [zbx _ hz]
   have e1:(d+(100000000:Int)*vl l).toNat / 100000000=(vl l).toNat:=by omega
   have e2:(((d+(100000000:Int)*vl l).toNat % 100000000:Nat):Int)=d:=by omega
   rw [e1,e2,ih]
   rw [if_neg]
   rintro ⟨h3,h4⟩
   rw [zbI] at h3
   omega
theorem zmx {l:List Int} (h:Digs l) (ht:trm l=l):digs (vl l).toNat=l:=by rw [← zas h,ht]
theorem zcI (n:Nat):trm (digs n)=digs n:=by
 rw [zas (oZ n),XZ];simp
theorem bZ (z:Int):vl (aZ z)=z:=by
 unfold aZ
 split
 ·rw [vl_neg,XZ];omega
 ·rw [XZ];omega
end Go.Ev
end
section
namespace Go.Ev
open Go.RowKit (Below)
def W (z:Int):AV:=.agg [.lit (.bool (decide (z<0))),.wd z]
theorem FC.res {P:Program} {f:FuncId} {args:List AV} {r r':AV} (h:FC P f args r) (k:∀(E:Env) (v:Value),Rd E r v→Rd E r' v):FC P f args r':=by
 intro M w vs hM hl ha
 refine (h M w vs hM hl ha).mono ?_
 simp_all
theorem FC.args {P:Program} {f:FuncId} {args args':List AV} {r:AV} (h:FC P f args r) (hl:args.length=args'.length) (k:∀(E:Env) (v:Value) (i:Nat),i<args.length→Rd E (args'.getD i .junk) v→Rd E (args.getD i .junk) v) :
 FC P f args' r:=by
 intro M w vs hM hl2 ha
 exact h M w vs hM (by omega) fun i hi=>k _ _ i hi (ha i (by omega))
theorem FC.arg1 {P:Program} {f:FuncId} {x x' r:AV} (h:FC P f [x] r) (k:∀(E:Env) (v:Value),Rd E x' v→Rd E x v):FC P f [x'] r:=
 h.args rfl fun E v i hi hr=>by
  simp_all
theorem FC.arg2 {P:Program} {f:FuncId} {x x' y y' r:AV} (h:FC P f [x,y] r) (k:∀(E:Env) (v:Value),Rd E x' v→Rd E x v) (k2:∀(E:Env) (v:Value),Rd E y' v→Rd E y v):FC P f [x',y'] r:=
 h.args rfl fun E v i hi hr=>by
  grind
theorem Rd.toSq {E:Env} {x:AV} {l:List Int} {v:Value} (hx:ints? x=some l) (h:Rd E x v):Rd E (.sq l) v:=by
 obtain ⟨a,cap,rfl,hc,hi⟩:=zaU hx h
 exact .sq hi hc
theorem Rd.sqWd {E:Env} {l:List Int} {z:Int} {v:Value} (hl:l=digs z.natAbs) (h:Rd E (.sq l) v):Rd E (.wd z) v:=by
 subst hl
 cases h with
 | sq hi hc=>exact .wd hi hc
theorem Rd.toWd {E:Env} {x:AV} {l:List Int} {z:Int} {v:Value} (hx:ints? x=some l) (hl:l=digs z.natAbs) (h:Rd E x v):Rd E (.wd z) v:=(h.toSq hx).sqWd hl
theorem Rd.toNi {E:Env} {x:AV} {l:List Int} {z:Int} {v:Value} (hx:ints? x=some l) (hl:l=aZ z) (h:Rd E x v):Rd E (.ni z) v:=by
 subst hl
 cases h.toSq hx with
 | sq hi hc=>exact .ni hi hc
theorem Rd.agg2 {E:Env} {x y x' y':AV} {v:Value} (h:Rd E (.agg [x,y]) v) (kx:∀u,Rd E x u→Rd E x' u) (ky:∀u,Rd E y u→Rd E y' u):Rd E (.agg [x',y']) v:=by
 cases h with
 | agg hl hr=>
  refine .agg hl fun i hi=>?_
  grind
theorem Rd.tup2 {E:Env} {x y x' y':AV} {v:Value} (h:Rd E (.tup [x,y]) v) (kx:∀u,Rd E x u→Rd E x' u) (ky:∀u,Rd E y u→Rd E y' u):Rd E (.tup [x',y']) v:=by
 cases h with
 | tup hl hr=>
  refine .tup hl fun i hi=>?_
  grind
theorem Rd.toW {E:Env} {s x:AV} {b:Bool} {l:List Int} {z:Int} {v:Value} (hs:Ev.asB s=some b) (hx:ints? x=some l) (hb:b=decide (z<0)) (hl:l=digs z.natAbs) (h:Rd E (.agg [s,x]) v):Rd E (W z) v:=
 h.agg2 (fun u hu=>by rw [hu.asB hs,hb];exact .lit _) (fun _ hu=>hu.toWd hx hl)
class Tst (p:Prop) where
 b:Bool
 ok:b=true→p
instance (priority:=low) tstNo {p:Prop}:Tst p:=⟨false,fun h=>by cases h⟩
instance tstTrue:Tst True:=⟨true,fun _=>trivial⟩
instance tstAnd {p q:Prop} [hp:Tst p] [hq:Tst q]:Tst (p∧q):=⟨match hp.b with | true=>hq.b | false=>false,fun h=>by
 split at h
 ·rename_i h1;exact ⟨hp.ok h1,hq.ok h⟩
 ·cases h⟩
instance tstDec {p:Prop} [h:Decidable p]:Tst p:=⟨decide p,fun e=>of_decide_eq_true e⟩
mutual
def zld {α:Type}:Nat→AV→(AV→α)→α
 | 0,x,k=>k x
 | f + 1,x,k=>match x with
  | .lit (.int t z)=>zle z fun y=>k (.lit (.int t y))
  | .lit (.bool b)=>match b with
   | true=>k (.lit (.bool true))
   | false=>k (.lit (.bool false))
  | .wd z=>zle z fun y=>k (.wd y)
  | .ni z=>zle z fun y=>k (.ni y)
  | .agg cs=>forceL f cs fun cs=>k (.agg cs)
  | .tup cs=>forceL f cs fun cs=>k (.tup cs)
  | x=>k x
def forceL {α:Type}:Nat→List AV→(List AV→α)→α
 | 0,l,k=>k l
 | f+1,l,k=>match l with
  | []=>k []
  | x :: l=>zld f x fun y=>forceL f l fun q=>k (y :: q)
end
theorem force_eq {α:Type}:∀f,(∀x (k:AV→α),zld f x k=k x)∧(∀l (k:List AV→α),forceL f l k=k l)
 | 0=>⟨fun _ _=>by simp [zld],fun _ _=>by simp [forceL]⟩
 | f + 1=>by
  have ih:=force_eq (α:=α) f
  constructor
  ·intro x k
   unfold zld
   split
   ·rw [zhh]
   ·split<;>rfl
   ·rw [zhh]
   ·rw [zhh]
   ·rw [ih.2]
   ·rw [ih.2]
   ·rfl
  ·intro l k
   unfold forceL
   grind
def gives (x:AV):M AV:=fun c s=>
 match c with
 | true=>zld 20 x fun y=>.ok y s []
 | false=>.ok x s []
theorem Spec.gives {x:AV} {Q:AV→Prop} (h:Q x):Spec (gives x) Q:=by
 intro c s y s' cs he _
 cases c with
 | true=>
  simp only [Ev.gives,(force_eq 20).1,Res.ok.injEq] at he
  exact he.1▸h
 | false=>
  simp only [Ev.gives,Res.ok.injEq] at he
  exact he.1▸h
def asW (x:AV):M Int:=do
 let l ← ofOpt 200 (zdP x)
 match l with
 | [s,.wd z]=>do
  let b ← ofOpt 201 (asB s)
  tellB b (decide (z<0))
  M.pure z
 | [s,d]=>do
  let b ← ofOpt 201 (asB s)
  let q ← ofOpt 202 (ints? d)
  match q with
  | []=>do
   tellB b false
   M.pure 0
  | _=>fail 203
 | _=>fail 204
theorem zmh {E:Env} {x:AV} {l:List AV} {v:Value} (hx:zdP x=some l) (h:Rd E x v):Rd E (.agg l) v:=by
 cases x<;>simp [zdP] at hx
 ·rename_i u
  cases u<;>simp at hx
  rename_i a
  subst hx
  have hv:v=.agg a:=by cases h;rfl
  subst hv
  refine .agg (by simp) fun i hi=>?_
  have hi':i<a.size:=by simpa using hi
  have e:(a.toList.map AV.lit).getD i .junk=.lit (a.getD i undef):=by simp_all
  rw [e];exact .lit _
 ·subst hx;exact h
theorem asW_spec {x:AV}:Spec (asW x) fun z=>∀(E:Env) (v:Value),Rd E x v→Rd E (W z) v:=by
 unfold asW
 refine Spec.bind (Spec.ofOpt fun l hl=>?_)
 split
 ·refine Spec.bind (Spec.ofOpt fun b hb=>Spec.bind (Spec.tellB fun ht=>Spec.pure' fun E v h=>?_))
  exact(zmh hl h).agg2 (fun u hu=>by rw [hu.asB hb,ht];exact .lit _) (fun _ hu=>hu)
 ·refine Spec.bind (Spec.ofOpt fun b hb=>Spec.bind (Spec.ofOpt fun q hq=>?_))
  split
  ·refine Spec.bind (Spec.tellB fun ht=>Spec.pure' fun E v h=>?_)
   exact(zmh hl h).agg2 (fun u hu=>by rw [hu.asB hb,ht];exact .lit _) (fun _ hu=>hu.toWd hq rfl)
  ·exact Spec.fail
 ·exact Spec.fail
def dl (z:Int):Nat:=(digs z.natAbs).length
def zag (z:Int):Prop:=dl z≤1048576
theorem fits_log {z:Int} (h:Nat.log2 z.natAbs≤100000):zag z:=by
 have h1:z.natAbs<2 ^ (Nat.log2 z.natAbs+1):=Nat.lt_log2_self
 have h2:2 ^ (Nat.log2 z.natAbs+1)≤100000000 ^ (Nat.log2 z.natAbs+1):=Nat.pow_le_pow_left (by decide) _
 have h3:=zab z.natAbs (Nat.log2 z.natAbs+1) (Nat.lt_of_lt_of_le h1 h2)
 unfold zag dl
 omega
instance tstFits {z:Int}:Tst (zag z):=⟨Nat.ble (Nat.log2 z.natAbs) 100000,fun h=>fits_log (Nat.le_of_ble_eq_true h)⟩
def c1 (p:Int→Prop) [∀a,Tst (p a)] (r:Int→AV) (args:List AV):M AV:=match args with
 | [x]=>do
  let a ← asW x
  tellD (p a) (Tst.b (p a))
  gives (r a)
 | _=>fail 210
def c2 (p:Int→Int→Prop) [∀a b,Tst (p a b)] (r:Int→Int→AV) (args:List AV):M AV:=match args with
 | [x,y]=>do
  let a ← asW x
  let b ← asW y
  tellD (p a b) (Tst.b (p a b))
  gives (r a b)
 | _=>fail 211
theorem c1_ok {P:Program} {f:FuncId} {p:Int→Prop} [∀a,Tst (p a)] {r:Int→AV} (h:∀a,p a→FC P f [W a] (r a)):jZ P f (c1 p r):=by
 intro args _
 unfold c1
 split
 ·exact Spec.bind (asW_spec.mono fun a ha=>Spec.bind (Spec.tellD Tst.ok fun hp=>Spec.gives ((h a hp).arg1 ha)))
 ·exact Spec.fail
theorem c2_ok {P:Program} {f:FuncId} {p:Int→Int→Prop} [∀a b,Tst (p a b)] {r:Int→Int→AV} (h:∀a b,p a b→FC P f [W a,W b] (r a b)):jZ P f (c2 p r):=by
 intro args _
 unfold c2
 split
 ·exact Spec.bind (asW_spec.mono fun a ha=>Spec.bind (asW_spec.mono fun b hb=>Spec.bind (Spec.tellD Tst.ok fun hp=>Spec.gives ((h a b hp).arg2 ha hb))))
 ·exact Spec.fail
def cL (p:List Int→Prop) [∀a,Tst (p a)] (r:List Int→AV) (args:List AV):M AV:=match args with
 | [x]=>do
  let l ← ofOpt 212 (ints? x)
  tellD (p l) (Tst.b (p l))
  gives (r l)
 | _=>fail 213
theorem zjt {P:Program} {f:FuncId} {p:List Int→Prop} [∀a,Tst (p a)] {r:List Int→AV} (h:∀l,p l→FC P f [.sq l] (r l)):jZ P f (cL p r):=by
 intro args _
 unfold cL
 split
 ·exact Spec.bind (Spec.ofOpt fun l hl=>Spec.bind (Spec.tellD Tst.ok fun hp=>Spec.gives ((h l hp).arg1 fun E v hv=>hv.toSq hl)))
 ·exact Spec.fail
def cLL (p:List Int→List Int→Prop) [∀a b,Tst (p a b)] (r:List Int→List Int→AV) (args:List AV):M AV:=match args with
 | [x,y]=>do
  let l ← ofOpt 212 (ints? x)
  let q ← ofOpt 212 (ints? y)
  tellD (p l q) (Tst.b (p l q))
  gives (r l q)
 | _=>fail 213
theorem zbu {P:Program} {f:FuncId} {p:List Int→List Int→Prop} [∀a b,Tst (p a b)] {r:List Int→List Int→AV} (h:∀l q,p l q→FC P f [.sq l,.sq q] (r l q)):jZ P f (cLL p r):=by
 intro args _
 unfold cLL
 split
 ·exact Spec.bind (Spec.ofOpt fun l hl=>Spec.bind (Spec.ofOpt fun q hq=>Spec.bind (Spec.tellD Tst.ok fun hp=>Spec.gives ((h l q hp).arg2 (fun E v hv=>hv.toSq hl) (fun E v hv=>hv.toSq hq)))))
 ·exact Spec.fail
def cI (p:Int→Prop) [∀a,Tst (p a)] (r:Int→AV) (args:List AV):M AV:=match args with
 | [.lit (.int .i64 n)]=>do
  tellD (p n) (Tst.b (p n))
  gives (r n)
 | _=>fail 214
theorem cI_ok {P:Program} {f:FuncId} {p:Int→Prop} [∀a,Tst (p a)] {r:Int→AV} (h:∀n,p n→FC P f [.lit (.int .i64 n)] (r n)):jZ P f (cI p r):=by
 intro args _
 unfold cI
 split
 ·exact Spec.bind (Spec.tellD Tst.ok fun hp=>Spec.gives (h _ hp))
 ·exact Spec.fail
theorem inR64 {n:Int}:inR .i64 n=true↔-9223372036854775808≤n∧n≤9223372036854775807:=by
 unfold inR
 rw [Bool.and_eq_true,decide_eq_true_eq,decide_eq_true_eq]
 exact Iff.rfl
end Go.Ev
namespace Go.Ev
def cII (p:Int→Int→Prop) [∀a b,Tst (p a b)] (r:Int→Int→AV) (args:List AV):M AV:=match args with
 | [.lit (.int .i64 a),.lit (.int .i64 b)]=>do
  tellD (p a b) (Tst.b (p a b))
  gives (r a b)
 | _=>fail 215
theorem cII_ok {P:Program} {f:FuncId} {p:Int→Int→Prop} [∀a b,Tst (p a b)] {r:Int→Int→AV} (h:∀a b,p a b→FC P f [.lit (.int .i64 a),.lit (.int .i64 b)] (r a b)):jZ P f (cII p r):=by
 intro args _
 unfold cII
 split
 ·exact Spec.bind (Spec.tellD Tst.ok fun hp=>Spec.gives (h _ _ hp))
 ·exact Spec.fail
def asD (x:AV):M Int:=match x with
 | .wd z=>M.pure z
 | x=>do
  let q ← ofOpt 205 (ints? x)
  match q with
  | []=>M.pure 0
  | _=>fail 206
theorem asD_spec {x:AV}:Spec (asD x) fun z=>∀(E:Env) (v:Value),Rd E x v→Rd E (.wd z) v:=by
 unfold asD
 split
 ·exact Spec.pure' fun E v h=>h
 ·refine Spec.bind (Spec.ofOpt fun q hq=>?_)
  split
  ·exact Spec.pure' fun E v h=>h.toWd hq rfl
  ·exact Spec.fail
def cDD (p:Int→Int→Prop) [∀a b,Tst (p a b)] (r:Int→Int→AV) (args:List AV):M AV:=match args with
 | [x,y]=>do
  let a ← asD x
  let b ← asD y
  tellD (p a b) (Tst.b (p a b))
  gives (r a b)
 | _=>fail 216
theorem cDD_ok {P:Program} {f:FuncId} {p:Int→Int→Prop} [∀a b,Tst (p a b)] {r:Int→Int→AV} (h:∀a b,p a b→FC P f [.wd a,.wd b] (r a b)):jZ P f (cDD p r):=by
 intro args _
 unfold cDD
 split
 ·exact Spec.bind (asD_spec.mono fun a ha=>Spec.bind (asD_spec.mono fun b hb=>Spec.bind (Spec.tellD Tst.ok fun hp=>Spec.gives ((h a b hp).arg2 ha hb))))
 ·exact Spec.fail
theorem FC.cases1 {P:Program} {f:FuncId} {x r:AV} (h:∀(E:Env) (v:Value),Rd E x v→∃y,Rd E y v∧(∀E':Env,Rd E' y v)∧FC P f [y] r):FC P f [x] r:=by
 intro M w vs hM hl ha
 have hx:Rd ⟨w.heap,M,[]⟩ x (vs.getD 0 undef):=ha 0 (by simp)
 obtain ⟨y,hy,_,hf⟩:=h _ _ hx
 exact hf M w vs hM hl fun i hi=>by
  grind
end Go.Ev
end
section
namespace Go.Ev
theorem Le.agg {l q:List AV} (h:LeL l q):Le (.agg l) (.agg q):=by
 intro E v hr
 cases hr with
 | agg hl hc=>exact .agg (by rw [← h.length];exact hl) fun i hi=>h.getD i _ _ (hc i (by rw [h.length];exact hi))
theorem Le.tup {l q:List AV} (h:LeL l q):Le (.tup l) (.tup q):=by
 intro E v hr
 cases hr with
 | tup hl hc=>exact .tup (by rw [← h.length];exact hl) fun i hi=>h.getD i _ _ (hc i (by rw [h.length];exact hi))
theorem Le.pd {l q:List AV} {n:Nat} (h:LeL l q):Le (.pd l n) (.pd q n):=by
 intro E v hr
 cases hr with
 | pd vals hs hM hv hc2=>exact .pd vals hs hM (fun i hi=>hv i (by rw [h.length];exact hi)) fun i hi=>h.getD i _ _ (hc2 i (by rw [h.length];exact hi))
theorem Le.zl_sl (k:ZK) (l:List Int):Le (.zl k l) (.sl (uZ k l) l.length):=fun _ _ h=>by cases h with | zl h=>exact h
theorem Le.nil_zl (k:ZK) (a:Option Addr) (c:Nat):Le (.lit (.slice a 0 c)) (.zl k []):=fun E v h=>by
 have:=h.lit_inv
 subst this
 exact .zl .sl0
theorem Le.ofBool {s:AV} {b:Bool} (hs:asB s=some b):Le s (.lit (.bool b)):=fun E u h=>by rw [h.asB hs];exact .lit _
theorem FC.le {P:Program} {f:FuncId} {args args':List AV} {r r':AV} (h:FC P f args r) (ha:LeL args' args) (hr:Le r r'):FC P f args' r':=
 (h.args (args':=args') ha.length.symm fun E v i _ hv=>ha.getD i E v hv).res hr
def wsOf:List AV→M (List Int)
 | []=>M.pure []
 | [_]=>fail 220
 | s :: d :: l=>do
  let z ← asW (.agg [s,d])
  let q ← wsOf l
  M.pure (z :: q)
def asWs:AV→M (List Int)
 | .zl .W l=>M.pure l
 | .lit (.slice _ 0 _)=>M.pure []
 | .sl cells n=>do
  let l ← wsOf cells
  if l.length=n then M.pure l else fail 221
 | _=>fail 222
theorem agg_pair {s d s' d':AV} (h:Le (.agg [s,d]) (.agg [s',d'])) {E:Env} {u v:Value} (hu:Rd E s u) (hv:Rd E d v):Rd E s' u∧Rd E d' v:=by
 have h1:Rd E (.agg [s,d]) (.agg #[u,v]):=.agg rfl fun i hi=>by
  have:i=0∨i=1:=by simp at hi;omega
  rcases this with rfl | rfl
  ·exact hu
  ·exact hv
 have h2:=h _ _ h1
 cases h2 with
 | agg hl hr=>exact ⟨hr 0 (by simp),hr 1 (by simp)⟩
theorem wsOf_rd:∀ {cells:List AV},Spec (wsOf cells) fun l=>cells.length=2*l.length∧∀(E:Env) (vals:Nat→Value),(∀i,i<cells.length→Rd E (cells.getD i .junk) (vals i)) →
 ∀i,i<(uZ .W l).length→Rd E ((uZ .W l).getD i .junk) (vals i)
 | []=>Spec.pure' ⟨rfl,fun _ _ _ i hi=>(by simp [uZ] at hi)⟩
 | [_]=>Spec.fail
 | s :: d :: cells=>by
  unfold wsOf
  refine Spec.bind (asW_spec.mono fun z hz=>Spec.bind ((wsOf_rd (cells:=cells)).mono fun l hl=>Spec.pure' ⟨by simp [hl.1];omega,fun E vals hv i hi=>?_⟩))
  have h2:=agg_pair (s':=.lit (.bool (decide (z<0)))) (d':=.wd z) hz (hv 0 (by simp)) (hv 1 (by simp))
  have h3:=hl.2 E (fun i=>vals (i+2)) (fun i hi=>by grind)
  match i,hi with
  | 0,_=>exact h2.1
  | 1,_=>exact h2.2
  | i+2,hi=>exact h3 i (by simpa [uZ,zgm] using hi)
theorem zfx:∀(k:ZK) (l:List Int),(uZ k l).length=(match k with | .W=>2 | .N=>1)*l.length
 | k,[]=>by cases k<;>rfl
 | k,z :: l=>by
  have:=zfx k l
  unfold uZ
  rw [List.length_append,this]
  cases k<;>simp [zgm]<;>omega
theorem asWs_spec {x:AV}:Spec (asWs x) fun l=>Le x (.zl .W l):=by
 unfold asWs
 split
 ·exact Spec.pure' (Le.refl _)
 ·exact Spec.pure' (Le.nil_zl _ _ _)
 ·refine Spec.bind (wsOf_rd.mono fun l hl=>?_)
  split
  ·rename_i cells n hn
   refine Spec.pure' fun E v h=>.zl ?_
   cases h with
   | sl0=>rw [hn];exact .sl0
   | sl vals hs hM hc hv hr=>
    rw [hn]
    have hlen:(uZ .W l).length=cells.length:=by rw [zfx,hl.1]
    exact .sl vals hs hM hc (fun i hi=>hv i (by omega)) (hl.2 E vals hr)
  ·exact Spec.fail
 ·exact Spec.fail
def cPWW (p:List Int→Int→Int→Prop) [∀l a b,Tst (p l a b)] (r:List Int→Int→Int→AV) (args:List AV):M AV:=match args with
 | [x,y,z]=>do
  let l ← asWs x
  let a ← asW y
  let b ← asW z
  tellD (p l a b) (Tst.b (p l a b))
  gives (r l a b)
 | _=>fail 223
theorem cPWW_ok {P:Program} {f:FuncId} {p:List Int→Int→Int→Prop} [∀l a b,Tst (p l a b)] {r:List Int→Int→Int→AV} (h:∀l a b,p l a b→FC P f [.zl .W l,W a,W b] (r l a b)):jZ P f (cPWW p r):=by
 intro args _
 unfold cPWW
 split
 ·exact Spec.bind (asWs_spec.mono fun l hl=>Spec.bind (asW_spec.mono fun a ha=>Spec.bind (asW_spec.mono fun b hb=>Spec.bind (Spec.tellD Tst.ok fun hp=>
  Spec.gives ((h l a b hp).le (.cons hl (.cons ha (.cons hb .nil))) (Le.refl _))))))
 ·exact Spec.fail
end Go.Ev
end
section
namespace Go.Ev
def Sz (k:Nat) (z:Int):Prop:=z.natAbs<100000000 ^ k
theorem rZ {k:Nat} {z:Int} (h:Sz k z) (hk:k≤1048576):zag z:=by
 have:=zab z.natAbs k h
 unfold zag dl
 omega
theorem Sz.mono {j k:Nat} {z:Int} (h:Sz j z) (hk:j≤k):Sz k z:=Nat.lt_of_lt_of_le h (Nat.pow_le_pow_right (by decide) hk)
theorem Sz.mul {j k:Nat} {a b:Int} (ha:Sz j a) (hb:Sz k b):Sz (j+k) (a*b):=by
 unfold Sz at *
 rw [Int.natAbs_mul,Nat.pow_add]
 have h0:0<100000000 ^ j:=Nat.pow_pos (by decide)
 rcases Nat.eq_zero_or_pos b.natAbs with h | h
 ·simp_all
 ·exact Nat.lt_of_lt_of_le (Nat.mul_lt_mul_of_pos_right ha h) (Nat.mul_le_mul_left _ (Nat.le_of_lt hb))
theorem Sz.add {j k m:Nat} {a b:Int} (ha:Sz j a) (hb:Sz k b) (hj:j<m) (hk:k<m):Sz m (a+b):=by
 have h1:=(ha.mono (Nat.le_pred_of_lt hj))
 have h2:=(hb.mono (Nat.le_pred_of_lt hk))
 unfold Sz at *
 have h3:(a+b).natAbs≤a.natAbs+b.natAbs:=Int.natAbs_add_le a b
 obtain ⟨i,rfl⟩:∃i,m=i+1:=⟨m-1,by omega⟩
 simp only [Nat.pred_succ] at h1 h2
 rw [Nat.pow_succ]
 omega
theorem Sz.neg {k:Nat} {a:Int} (h:Sz k a):Sz k (-a):=by unfold Sz at *;rw [Int.natAbs_neg];exact h
theorem Sz.zero {k:Nat}:Sz k 0:=by unfold Sz;grind
theorem Sz.lit {z:Int} {k:Nat} (h:z.natAbs<100000000) (hk:0<k):Sz k z:=(show Sz 1 z by unfold Sz;rw [Nat.pow_one];exact h).mono hk
theorem Sz.le {k:Nat} {a b:Int} (h:Sz k b) (hab:a.natAbs≤b.natAbs):Sz k a:=Nat.lt_of_le_of_lt hab h
theorem Sz.i64 {z:Int} (h:-9223372036854775808≤z) (h2:z≤9223372036854775807) {k:Nat} (hk:3≤k):Sz k z:=
 (show Sz 3 z by unfold Sz;omega).mono hk
theorem pow26 (k:Nat):2 ^ (26*k)≤100000000 ^ k:=by
 rw [Nat.pow_mul];exact Nat.pow_le_pow_left (by decide) _
instance tstSz {k:Nat} {z:Int}:Tst (Sz k z):=⟨Nat.blt (Nat.log2 z.natAbs) (26*k),fun h=>by
 have h1:Nat.log2 z.natAbs<26*k:=by simpa [Nat.blt_eq] using h
 have h2:z.natAbs<2 ^ (Nat.log2 z.natAbs+1):=Nat.lt_log2_self
 have h3:2 ^ (Nat.log2 z.natAbs+1)≤2 ^ (26*k):=Nat.pow_le_pow_right (by decide) h1
 exact Nat.lt_of_lt_of_le h2 (Nat.le_trans h3 (pow26 k))⟩
def SzL (k:Nat):List Int→Prop
 | []=>True
 | z :: l=>Sz k z∧SzL k l
def szLB (k:Nat):List Int→Bool
 | []=>true
 | z :: l=>match Tst.b (Sz k z) with | true=>szLB k l | false=>false
theorem szLB_ok {k:Nat}:∀ {l:List Int},szLB k l=true→SzL k l
 | [],_=>trivial
 | z :: l,h=>by
  unfold szLB at h
  split at h
  ·rename_i h1;exact ⟨Tst.ok h1,szLB_ok h⟩
  ·cases h
instance tstSzL {k:Nat} {l:List Int}:Tst (SzL k l):=⟨szLB k l,szLB_ok⟩
end Go.Ev
namespace Go.Ev
class SzC (z:Int) (k:outParam Nat):Prop where
 ok:Sz k z
instance szMul {a b:Int} {j k:Nat} [ha:SzC a j] [hb:SzC b k]:SzC (a*b) (j+k):=⟨ha.ok.mul hb.ok⟩
instance szAdd {a b:Int} {j k:Nat} [ha:SzC a j] [hb:SzC b k]:SzC (a+b) (max j k+1):=⟨ha.ok.add hb.ok (by omega) (by omega)⟩
instance szZero:SzC 0 1:=⟨Sz.zero⟩
instance szOne:SzC 1 1:=⟨Sz.lit (by decide) (by decide)⟩
theorem zdx {z:Int} {k:Nat} [h:SzC z k] (hk:k≤1048576):zag z:=rZ h.ok hk
end Go.Ev
end
section
namespace Go.Ev
def cK (args0:List AV) (r:AV) (args:List AV):M AV:=match eqAL 1000 args args0 with
 | true=>M.pure r
 | false=>fail 230
theorem zd2 {P:Program} {f:FuncId} {args0:List AV} {r:AV} (h:FC P f args0 r):jZ P f (cK args0 r):=by
 intro args _
 unfold cK
 split
 ·rename_i he
  rw [(ziZ 1000).2 _ _ he]
  exact Spec.pure' h
 ·exact Spec.fail
def orC (a b:List AV→M AV) (args:List AV):M AV:=fun c s=>match a args c s with
 | .fail _=>b args c s
 | r=>r
theorem orC_ok {P:Program} {f:FuncId} {a b:List AV→M AV} (ha:jZ P f a) (hb:jZ P f b):jZ P f (orC a b):=by
 intro args hd c s x s' cs he hcs
 unfold orC at he
 split at he
 ·exact hb args hd c s x s' cs he hcs
 ·exact ha args hd c s x s' cs he hcs
theorem fc_conc {g:Cfg} (hg:g.OK) {fuel:Nat} {f:FuncId} {args:List AV} {res:AV} (h:(match fcA g fuel f args true ⟨[],[],0,false⟩ with | .ok v _ []=>eqA 1000 v res | _=>false)=true):FC g.P f args res:=by
 split at h
 ·rename_i v s he
  have h2:=(ziZ 1000).1 _ _ h
  subst h2
  exact fc_run hg he (fun p hp=>by cases hp)
 ·cases h
end Go.Ev
namespace Go.Ev
def zl9 (g:Cfg) (fuel:Nat) (f:FuncId) (args:List AV):Option (AV × List Prop):=match fcA g fuel f args true ⟨[],[],0,false⟩ with
 | .ok v _ cs=>some (v,cs.map Cnd.ok)
 | _=>none
theorem zbK {g:Cfg} (hg:g.OK) {fuel:Nat} {f:FuncId} {args:List AV} {v:AV} {cs:List Prop} (h:zl9 g fuel f args=some (v,cs)) (hc:AllC cs):FC g.P f args v:=by
 unfold zl9 at h
 split at h
 ·rename_i v1 s1 cs1 he
  cases h
  exact fc_run hg he fun p hp=>hc.mem _ (List.mem_map_of_mem hp)
 ·cases h
end Go.Ev
end
section
namespace Go.Ev
def nuA (a b c e d:Int):AV:=.agg (uZ .W [a,b,c,e,d])
def zrS (x:AV):M (Int × Int × Int × Int × Int):=match x with
 | .agg cells=>do
  let l ← wsOf cells
  match l with
  | [a,b,c,e,d]=>M.pure (a,b,c,e,d)
  | _=>fail 250
 | _=>fail 251
theorem Le.junk (x:AV):Le x .junk:=fun _ _ _=>.junk _
theorem asNu_spec {x:AV}:Spec (zrS x) fun p=>Le x (nuA p.1 p.2.1 p.2.2.1 p.2.2.2.1 p.2.2.2.2):=by
 unfold zrS
 split
 ·refine Spec.bind (wsOf_rd.mono fun l hl=>?_)
  split
  ·refine Spec.pure' fun E v h=>?_
   cases h with
   | agg hlen hr=>exact .agg (by rw [← hlen,hl.1];rfl) (hl.2 E _ hr)
  ·exact Spec.fail
 ·exact Spec.fail
def reA (p:AV):AV:=.pd [.junk,.junk,.junk,.junk,p,.junk,.junk,.junk,.junk,.junk,.junk,.junk] 0
def reT (p t:AV):AV:=.pd [.junk,.junk,.junk,.junk,p,t,.junk,.junk,.junk,.junk,.junk,.junk] 0
abbrev zaj (n:Nat):List Int:=List.replicate n 0
abbrev r64 (n:Int):Prop:=-9223372036854775808≤n∧n≤9223372036854775807
theorem iR {n:Int} (h:r64 n):inR .i64 n=true:=inR64.2 h
theorem dT {p:Prop} [Decidable p] (h:p):decide p=true:=decide_eq_true h
theorem dF {p:Prop} [Decidable p] (h:¬p):decide p=false:=decide_eq_false h
section
variable {lp:List (Option zay)} {gs:List Prop}
theorem Giv.t {p:Prop} [Decidable p] (h:p) (k:Giv lp gs):Giv lp ((decide p=true) :: gs):=.c (dT h) k
theorem Giv.f {p:Prop} [Decidable p] (h:¬p) (k:Giv lp gs):Giv lp ((decide p=false) :: gs):=.c (dF h) k
theorem Giv.i {n:Int} (h:r64 n) (k:Giv lp gs):Giv lp ((inR .i64 n=true) :: gs):=.c (iR h) k
theorem Giv.x {p:Prop} [Decidable p] (h:p) (k:Giv lp gs):Giv lp (((!decide p)=(!true)) :: gs):=.c (congrArg Bool.not (dT h)) k
theorem Giv.y {p:Prop} [Decidable p] (h:¬p) (k:Giv lp gs):Giv lp (((!decide p)=(!false)) :: gs):=.c (congrArg Bool.not (dF h)) k
theorem LS.at {g:Cfg} (hg:g.OK) (fuel:Nat) {b:Code} {n0:Nat} (src keep wr:List Nat) {st st2:St} (os:List Nat) (hc:Giv lp gs) (ix:List Nat) {ex:Ex}
 (h:lhsR ix (rndC g fuel b n0 src keep wr st os lp)=rhsR gs ix ex st2 (rndC g fuel b n0 src keep wr st os lp):=by kernel_rfl):LS n0 g.P b st (ex,st2):=LS.of hg ⟨h⟩ hc.all
theorem dZ {g:Cfg} (hg:g.OK) (fuel:Nat) {f:FuncId} {args:List AV} (os:List Nat) (hc:Giv lp gs) (ix:List Nat) {v:AV}
 (h:lhsF ix (funC g fuel f args os lp)=rhsF gs ix v (funC g fuel f args os lp):=by kernel_rfl):FC g.P f args v:=lZ hg ⟨h⟩ hc.all
end
theorem zaV {α:Type} {l:List α} (h:l≠[]):l.isEmpty=false:=by cases l<;>first | rfl | exact absurd rfl h
def asN (x:AV):M Int:=match x with
 | .ni z=>M.pure z
 | x=>do
  let q ← ofOpt 205 (ints? x)
  match q with
  | []=>M.pure 0
  | _=>fail 206
theorem asN_spec {x:AV}:Spec (asN x) fun z=>Le x (.ni z):=by
 unfold asN
 split
 ·exact Spec.pure' (Le.refl _)
 ·refine Spec.bind (Spec.ofOpt fun q hq=>?_)
  split
  ·exact Spec.pure' fun E v h=>h.toNi hq rfl
  ·exact Spec.fail
def n1 (p:Int→Prop) [∀a,Tst (p a)] (r:Int→AV) (args:List AV):M AV:=match args with
 | [x]=>do
  let a ← asN x
  tellD (p a) (Tst.b (p a))
  gives (r a)
 | _=>fail 210
def n2 (p:Int→Int→Prop) [∀a b,Tst (p a b)] (r:Int→Int→AV) (args:List AV):M AV:=match args with
 | [x,y]=>do
  let a ← asN x
  let b ← asN y
  tellD (p a b) (Tst.b (p a b))
  gives (r a b)
 | _=>fail 211
theorem n1_ok {P:Program} {f:FuncId} {p:Int→Prop} [∀a,Tst (p a)] {r:Int→AV} (h:∀a,p a→FC P f [.ni a] (r a)):jZ P f (n1 p r):=by
 intro args _
 unfold n1
 split
 ·exact Spec.bind (asN_spec.mono fun a ha=>Spec.bind (Spec.tellD Tst.ok fun hp=>Spec.gives ((h a hp).le (.cons ha .nil) (Le.refl _))))
 ·exact Spec.fail
end Go.Ev
end
section
namespace Go.Ev
def asK (k:EK) (x:AV):M k.ty:=match k.agg with
 | true=>do
  let l ← ofOpt 280 (zdP x)
  k.dec l
 | false=>k.dec [x]
theorem valCells:∀(k:EK) (x:k.ty),k.agg=false→∃y,k.cells x=[y]
 | .int _,_,_=>⟨_,rfl⟩
 | .bool,_,_=>⟨_,rfl⟩
 | .str,_,_=>⟨_,rfl⟩
 | .sl _,_,_=>⟨_,rfl⟩
 | .whole,_,h=>by cases h
 | .un,_,h=>by cases h
 | .pr _ _,_,h=>by cases h
theorem asK_spec {k:EK} {x:AV}:Spec (asK k x) fun y=>Le x (k.val y):=by
 unfold asK EK.val
 split
 ·rename_i h
  rw [h]
  exact Spec.bind (Spec.ofOpt fun l hl=>(zbj k l).mono fun y hy=>fun E v hv=>Le.agg hy E v (zmh hl hv))
 ·rename_i h
  rw [h]
  refine (zbj k [x]).mono fun y hy=>?_
  obtain ⟨z,hz⟩:=valCells k y h
  rw [hz] at hy ⊢
  cases hy with
  | cons h _=>exact h
def cD1 (k:EK) (p:k.ty→Prop) [∀a,Tst (p a)] (r:k.ty→AV) (args:List AV):M AV:=match args with
 | [x]=>do
  let a ← asK k x
  tellD (p a) (Tst.b (p a))
  gives (r a)
 | _=>fail 281
def cD2 (k j:EK) (p:k.ty→j.ty→Prop) [∀a b,Tst (p a b)] (r:k.ty→j.ty→AV) (args:List AV):M AV:=match args with
 | [x,y]=>do
  let a ← asK k x
  let b ← asK j y
  tellD (p a b) (Tst.b (p a b))
  gives (r a b)
 | _=>fail 282
theorem zer {P:Program} {f:FuncId} {k:EK} {p:k.ty→Prop} [∀a,Tst (p a)] {r:k.ty→AV} (h:∀a,p a→FC P f [k.val a] (r a)):jZ P f (cD1 k p r):=by
 intro args _
 unfold cD1
 split
 ·exact Spec.bind (asK_spec.mono fun a ha=>Spec.bind (Spec.tellD Tst.ok fun hp=>Spec.gives ((h a hp).le (.cons ha .nil) (Le.refl _))))
 ·exact Spec.fail
theorem zb5 {P:Program} {f:FuncId} {k j:EK} {p:k.ty→j.ty→Prop} [∀a b,Tst (p a b)] {r:k.ty→j.ty→AV} (h:∀a b,p a b→FC P f [k.val a,j.val b] (r a b)):jZ P f (cD2 k j p r):=by
 intro args _
 unfold cD2
 split
 ·exact Spec.bind (asK_spec.mono fun a ha=>Spec.bind (asK_spec.mono fun b hb=>Spec.bind (Spec.tellD Tst.ok fun hp=>Spec.gives ((h a b hp).le (.cons ha (.cons hb .nil)) (Le.refl _)))))
 ·exact Spec.fail
instance tTrue:Tst True:=⟨true,fun _=>trivial⟩
abbrev numK:EK:=.pr (.sl (.sl (.int .i64))) (.sl (.int .i64))
end Go.Ev
namespace Go.Ev
def fit1 (x y:AV):Bool:=match y with
 | .junk=>true
 | y=>eqA 1000 x y
def fits1:List AV→List AV→Bool
 | [],[]=>true
 | x :: l,y :: q=>match fit1 x y with | true=>fits1 l q | false=>false
 | _,_=>false
end Go.Ev
end
section
open Go Go.Ev Go.RowKit Go.ChangeShapes Go.WideShapes
namespace Go.Ev
set_option linter.unusedVariables false
set_option linter.unusedSimpArgs false
def okK:(k:EK)→k.ty→Prop
 | .int .i64,n=>-9223372036854775808≤(n:Int)∧(n:Int)≤9223372036854775807
 | .pr a b,x=>okK a x.1∧okK b x.2
 | .sl e,l=>∀x∈l,okK e x
 | _,_=>True
abbrev envR (W:World):Env:=⟨W.heap,fun _=>False,[]⟩
def KRd (P:Program) (t:TypeId) (k:EK):Prop:=P.cellsOf t=k.sz∧∀(H:Type) (enc:TypeId × Value→H) (W:World) (sp:Nat→Bool) (hd:Bool) (fuel:Nat) (cs:List Value) (x:DataW H × List MemPlace),
 DataW.trod enc P W 0 sp hd fuel t cs=some x→cs.length=k.sz∧∃y:k.ty,okK k y∧∀i,i<k.sz→Rd (envR W) ((k.cells y).getD i .junk) (cs.getD i undef)
def FRd (P:Program) (fs:List Field) (o:Nat) (k:EK):Prop:=∀(H:Type) (enc:TypeId × Value→H) (W:World) (sp:Nat→Bool) (hd:Bool) (cs:List Value),
 (∀f∈fs,∃n x,DataW.trod enc P W 0 sp hd n f.type ((cs.drop f.offset).take (P.cellsOf f.type))=some x)→∃y:k.ty,okK k y∧∀i,i<k.sz→Rd (envR W) ((k.cells y).getD i .junk) (cs.getD (o+i) undef)
theorem KRd.int {P:Program} {t:TypeId} (ht:P.underlying t=some (.int .i64)) (hc:P.cellsOf t=1):KRd P t (.int .i64):=by
 refine ⟨hc,fun H enc W sp hd fuel cs x h=>?_⟩
 obtain ⟨n,rfl,_,hw⟩:=DataW.trod_int ht h
 have hb:=bounds_i64 hw
 refine ⟨rfl,n,hb,fun i hi=>?_⟩
 obtain rfl:i=0:=by have:i<1:=hi;omega
 exact .lit _
theorem FRd.one {P:Program} {f:Field} {o:Nat} {k:EK} (ho:f.offset=o) (h:KRd P f.type k):FRd P [f] o k:=by
 intro H enc W sp hd cs hf
 obtain ⟨n,x,hx⟩:=hf f (by simp)
 obtain ⟨hl,y,hy,hr⟩:=h.2 H enc W sp hd n _ x hx
 grind
theorem FRd.cons {P:Program} {f:Field} {fs:List Field} {o:Nat} {a b:EK} (ho:f.offset=o) (h:KRd P f.type a) (hf:FRd P fs (o+a.sz) b):FRd P (f :: fs) o (.pr a b):=by
 intro H enc W sp hd cs hfs
 obtain ⟨y,hy,hr⟩:=FRd.one ho h H enc W sp hd cs (fun g hg=>hfs g (by simp at hg;simp [hg]))
 obtain ⟨z,hz,hq⟩:=hf H enc W sp hd cs fun g hg=>hfs g (by simp [hg])
 refine ⟨(y,z),⟨hy,hz⟩,fun i hi=>?_⟩
 have hi':i<a.sz+b.sz:=hi
 show Rd (envR W) ((a.cells y++b.cells z).getD i .junk) _
 by_cases h1:i<a.sz
 ·have:=hr i h1
  rwa [show(a.cells y++b.cells z).getD i .junk=(a.cells y).getD i .junk by simp only [List.getD_eq_getElem?_getD];rw [List.getElem?_append_left (by rw [nZ];exact h1)]]
 ·have:=hq (i-a.sz) (by omega)
  rw [show(a.cells y++b.cells z).getD i .junk=(b.cells z).getD (i-a.sz) .junk by simp only [List.getD_eq_getElem?_getD];rw [List.getElem?_append_right (by rw [nZ];omega),nZ]]
  grind
theorem KRd.struct {P:Program} {t:TypeId} {fs:Array Field} {k:EK} (ht:P.underlying t=some (.struct fs)) (hc:P.cellsOf t=k.sz) (h:FRd P fs.toList 0 k):KRd P t k:=by
 refine ⟨hc,fun H enc W sp hd fuel cs x hx=>?_⟩
 obtain ⟨xs,n,_,_,hl,hxs,hf⟩:=DataW.trod_struct ht hx
 refine ⟨by rw [hl,hc],?_⟩
 obtain ⟨y,hy,hr⟩:=h H enc W sp hd cs fun f hff=>by
  obtain ⟨i,hi,rfl⟩:=List.getElem_of_mem hff
  have hi':i<fs.size:=by simpa using hi
  have:=hf i fs[i] (by simp [hi'])
  grind
 grind
theorem pickL {α:Type} {Q:Nat→α→Prop}:∀n,(∀i,i<n→∃x,Q i x)→∃l:List α,l.length=n∧∀i (h:i<l.length),Q i l[i]
 | 0,_=>⟨[],rfl,fun i h=>by cases h⟩
 | n+1,h=>by
  obtain ⟨l,hl,hq⟩:=pickL n fun i hi=>h i (by omega)
  obtain ⟨x,hx⟩:=h n (by omega)
  refine ⟨l++[x],by simp [hl],fun i hi=>?_⟩
  grind
theorem add_twice (a:Addr) (i j:Nat):(a.add i).add j=a.add (i+j):=by
 unfold Addr.add
 grind
theorem zj1 {W:World} {a:Addr} {n:Nat} {v:Value} (h:W.cell? (a.add n)=some v):W.cell? ⟨a.block,a.off+n,none⟩=some v:=by
 by_cases hn:n=0
 ·subst hn
  have e:a.add 0=a:=by unfold Addr.add;simp
  rw [e] at h
  have hs:a.spot=none:=by
   unfold World.cell? at h
   split at h
   ·simp_all
   ·cases h
  obtain ⟨b,o,s⟩:=a
  simp_all
 ·have e:a.add n=⟨a.block,a.off+n,none⟩:=by unfold Addr.add;rw [if_neg hn]
  rwa [e] at h
theorem KRd.sl {P:Program} {t e:TypeId} {k:EK} (ht:P.underlying t=some (.slice e)) (hc:P.cellsOf t=1) (hp:0<k.sz) (h:KRd P e k):KRd P t (.sl k):=by
  refine ⟨hc,fun H enc W sp hd fuel cs x hx=>?_⟩
  have done:∀(l:List k.ty) (v:Value),cs=[v]→(∀y∈l,okK k y)→Rd (envR W) (.sl (hZ k l) l.length) v→cs.length=(EK.sl k).sz∧∃y:(EK.sl k).ty,okK (.sl k) y∧∀i,i<(EK.sl k).sz→Rd (envR W) (((EK.sl k).cells y).getD i .junk) (cs.getD i undef):=by
    intro l v hv hl hr
    subst hv
    refine ⟨rfl,l,hl,fun i hi=>?_⟩
    obtain rfl:i=0:=by have:i<1:=hi;omega
    exact zjO k l _ _ (.lst hr)
  rcases DataW.trod_slice ht hx with ⟨rfl,_⟩ | ⟨a,len,cap,elems,rest,n,_,rfl,_,_,hl,_,hlen,hel,_,_⟩
  · exact done [] _ rfl (by simp) .sl0
  · obtain ⟨l,hll,hq⟩:=pickL (Q:=fun i (y:k.ty)=>okK k y∧∀j,j<k.sz→∃v,W.cell? ⟨a.block,a.off+(i*k.sz+j),none⟩=some v∧Rd (envR W) ((k.cells y).getD j .junk) v) len fun i hi=>by
      have h1:=hel i hi
      rw [List.getElem?_eq_getElem (by omega),Option.bind_eq_some_iff] at h1
      obtain ⟨ci,hci,htr⟩:=h1
      obtain ⟨h2,y,hy,hr⟩:=h.2 H enc W sp hd n ci _ htr
      refine ⟨y,hy,fun j hj=>?_⟩
      obtain ⟨_,h3,h4⟩:=World.cells?_some hci
      rw [h.1] at h3 h4
      have h5:=h4 j hj
      rw [add_twice,List.getElem?_eq_getElem (by omega)] at h5
      refine ⟨ci[j],zj1 h5,?_⟩
      simp_all
    refine done l _ rfl (fun y hy=>?_) ?_
    · obtain ⟨i,hi,rfl⟩:=List.getElem_of_mem hy
      exact(hq i hi).1
    · subst hll
      by_cases h0:l=[]
      · subst h0;exact .sl0
      have hpos:0<l.length:=List.length_pos_iff.2 h0
      have key:∀i,i<(hZ k l).length→∃v,AZ W.heap a.block (a.off+i)=some v∧Rd (envR W) ((hZ k l).getD i .junk) v:=fun i hi=>by
        rw [sZ] at hi
        have hq1:i / k.sz<l.length:=Nat.div_lt_of_lt_mul (by rw [Nat.mul_comm];exact hi)
        have hr1:=Nat.mod_lt i hp
        obtain ⟨v,hv,hr⟩:=(hq (i / k.sz) hq1).2 (i % k.sz) hr1
        have e:i / k.sz*k.sz+i % k.sz=i:=by rw [Nat.mul_comm];exact Nat.div_add_mod i k.sz
        rw [e,cell?_eq] at hv
        refine ⟨v,hv,?_⟩
        have:=zbv k l (i / k.sz) (i % k.sz) hq1 hr1
        simp_all
      obtain ⟨b,o,s⟩:=a
      have hspot:s=none:=by
        have h1:=hel 0 hpos
        rw [List.getElem?_eq_getElem (by omega),Option.bind_eq_some_iff] at h1
        obtain ⟨ci,hci,htr⟩:=h1
        obtain ⟨_,h3,h4⟩:=World.cells?_some hci
        rw [h.1] at h3 h4
        have h5:=h4 0 hp
        rw [List.getElem?_eq_getElem (by omega)] at h5
        have e:((⟨b,o,s⟩:Addr).add (0*k.sz)).add 0=⟨b,o,s⟩:=by simp [Addr.add]
        rw [e] at h5
        unfold World.cell? at h5
        split at h5
        · simp_all
        · cases h5
      subst hspot
      have hb:b<W.heap.size:=by
        have hc1:0<(hZ k l).length:=by rw [sZ];exact Nat.mul_pos hpos hp
        obtain ⟨v,hv,_⟩:=key 0 hc1
        exact zbM hv
      exact .sl (fun i=>(AZ W.heap b (o+i)).getD undef) hb (fun h=>h) hl (fun i hi=>by
        grind) (fun i hi=>by
        grind)
theorem KRd.arg {P:Program} {t:TypeId} {k:EK} (h:KRd P t k) (ha:k.agg=true) {H:Type} {enc:TypeId × Value→H} {W:World} {fs:Array Field} {v:Value} {d:DataW H} {ps:List MemPlace} (ht:P.underlying t=some (.struct fs)) (hval:Value.okWide P W .any 0 t v) (hr:DataW.Trod enc P W 0 (fun _=>true) true t v d ps):∃y:k.ty,okK k y∧Rd (envR W) (k.val y) v:=by
 obtain ⟨cs,rfl,_⟩:=okWide_struct ht hval
 obtain ⟨fuel,hf⟩:=hr
 obtain ⟨h1,y,hy,hq⟩:=h.2 H enc W _ _ fuel _ _ hf
 refine ⟨y,hy,?_⟩
 unfold EK.val
 rw [ha]
 have hsz:cs.size=k.sz:=by simpa [Value.cells] using h1
 refine .agg (by rw [nZ,hsz]) fun i hi=>?_
 have:=hq i (by rwa [nZ] at hi)
 simpa [Value.cells] using this
end Go.Ev
end
section
open Go Go.Ev Go.RowKit Go.ChangeShapes Go.WideShapes
namespace Go.Proofs.YtagbldogmjhdpaaGreatDoor
open Go.Proofs
set_option maxRecDepth 100000
set_option linter.unusedVariables false
theorem krI:KRd Tryz.prog 3 (.int .i64):=KRd.int Tryz.underlying3 (by kernel_rfl)
theorem krIs:KRd Tryz.prog 22 (.sl (.int .i64)):=KRd.sl Tryz.underlying22 (by kernel_rfl) (by decide) krI
theorem krIss:KRd Tryz.prog 25 (.sl (.sl (.int .i64))):=KRd.sl Tryz.underlying25 (by kernel_rfl) (by decide) krIs
theorem krNum:KRd Tryz.prog 27 numK:=KRd.struct Tryz.underlying27 (by kernel_rfl) (FRd.cons rfl krIss (FRd.one rfl krIs))
theorem own:ownKnob Tryz.prog.godebug=none:=by kernel_rfl
theorem laidOut:laidOutB Tryz.prog=true:=by kernel_rfl
theorem krField:KRd Tryz.prog 24 (.pr (.sl (.int .i64)) (.pr (.int .i64) (.pr (.int .i64) (.int .i64)))):=
 KRd.struct Tryz.underlying24 (by kernel_rfl) (FRd.cons rfl krIs (FRd.cons rfl krI (FRd.cons rfl krI (FRd.one rfl krI))))
theorem krThree:KRd Tryz.prog 46 (.pr numK (.pr numK numK)):=KRd.struct Tryz.underlying46 (by kernel_rfl) (FRd.cons rfl krNum (FRd.cons rfl krNum (FRd.one rfl krNum)))
end Go.Proofs.YtagbldogmjhdpaaGreatDoor
end
section
open Go Go.Ev Go.RowKit
namespace Go.Proofs.YtagbldogmjhdpaaGreatDoor
open Go.Proofs
attribute [local go_sem] Oper.semAt_some
set_option maxRecDepth 100000
set_option maxHeartbeats 2000000
theorem bwI:BwOK Tryz.prog 191 1:=by
 refine ⟨fun args w=>zbW Tryz.func191 rfl rfl args w,?_⟩
 intro l Bs oB a n cap vals J Jx W hn hcell hplace hkeep hY h0
 obtain ⟨F,hF⟩:∃F,F=fen none:=⟨_,rfl⟩
 rw [← hF] at hY ⊢
 have hfn:F.fn 191:=by rw [hF];trivial
 have hro:F.round=none:=by rw [hF];rfl
 have hdep:(F.depth.isSome=true→1≤0):=by rw [hF];intro h;cases h
 have hdep':F.depth=none:=by rw [hF];rfl
 clear hF
 refine callsIn_of_wp Tryz.func191 rfl hfn ?_ hro
 simp only [Tryz.ntmps191,List.size_toArray,List.length_cons,List.length_nil,Nat.reduceAdd,Nat.reduceSub,Array.replicate_succ,Array.replicate_zero,List.push_toArray,List.append_toArray,List.nil_append,List.cons_append]
 gi_wp2
 gi_loopw [3] (fun i wr=>∃k:Nat,k≤n∧i=.int .i64 ((k:Int)-1)∧J k wr)
  (fun i _=>(intOf i+1).toNat)
 case atStart=>grind
 case round=>
  obtain ⟨k,hk,rfl,hJs⟩:=hrel
  have hcB:wr.cell? ⟨Bs,oB,none⟩=some (.slice a n cap):=(World.cell?_of_block (w:=W) (a:=⟨Bs,oB,none⟩) (hkeep k wr hJs).1).trans hcell
  by_cases hlt:0<k
  ·obtain ⟨k,rfl⟩:∃j,k=j+1:=⟨k-1,by omega⟩
   have hn0:n≠0:=by omega
   obtain ⟨b,o,rfl,hb⟩:=hplace.resolve_left hn0
   have hcx:wr.cell? ⟨b,o+k,none⟩=some (vals k):=(World.cell?_of_block (w:=W) (a:=⟨b,o+k,none⟩) ((hkeep _ wr hJs).2 b o rfl hn0)).trans (hb k (by omega))
   obtain ⟨fn,tmps,assign,body,hy,hR⟩:=hY k wr (by omega) hJs
   rw [show encV 1 vals k=vals k from rfl] at hy
   gi_wp2
   refine hR.mono ?_
   rintro e W3 (⟨rfl,hJ3⟩ | ⟨rfl,hJx3⟩)
   ·gi_wp2
    go_roundw
    case rel=>grind
    case measure=>simp [intOf]
   ·gi_wp2
    refine bodyPost_ret (results_none rfl _ _ _) rfl ?_
    simp_all
  ·obtain rfl:k=0:=by omega
   gi_wp2
   go_end0
   simp_all
theorem bwW:BwOK Tryz.prog 188 2:=by
 refine ⟨fun args w=>zbW Tryz.func188 rfl rfl args w,?_⟩
 intro l Bs oB a n cap vals J Jx W hn hcell hplace hkeep hY h0
 obtain ⟨F,hF⟩:∃F,F=fen none:=⟨_,rfl⟩
 rw [← hF] at hY ⊢
 have hfn:F.fn 188:=by rw [hF];trivial
 have hro:F.round=none:=by rw [hF];rfl
 have hdep:(F.depth.isSome=true→1≤0):=by rw [hF];intro h;cases h
 have hdep':F.depth=none:=by rw [hF];rfl
 clear hF
 refine callsIn_of_wp Tryz.func188 rfl hfn ?_ hro
 simp only [Tryz.ntmps188,List.size_toArray,List.length_cons,List.length_nil,Nat.reduceAdd,Nat.reduceSub,Array.replicate_succ,Array.replicate_zero,List.push_toArray,List.append_toArray,List.nil_append,List.cons_append]
 gi_wp2
 gi_loopw [3] (fun i wr=>∃k:Nat,k≤n∧i=.int .i64 ((k:Int)-1)∧J k wr)
  (fun i _=>(intOf i+1).toNat)
 case atStart=>grind
 case round=>
  obtain ⟨k,hk,rfl,hJs⟩:=hrel
  have hcB:wr.cell? ⟨Bs,oB,none⟩=some (.slice a n cap):=(World.cell?_of_block (w:=W) (a:=⟨Bs,oB,none⟩) (hkeep k wr hJs).1).trans hcell
  by_cases hlt:0<k
  ·obtain ⟨k,rfl⟩:∃j,k=j+1:=⟨k-1,by omega⟩
   have hn0:n≠0:=by omega
   obtain ⟨b,o,rfl,hb⟩:=hplace.resolve_left hn0
   have hcx:wr.cell? ⟨b,o+k*2,none⟩=some (vals (2*k)):=(World.cell?_of_block (w:=W) (a:=⟨b,o+k*2,none⟩) ((hkeep _ wr hJs).2 b o rfl hn0)).trans (by grind)
   have hcy:wr.cell? ⟨b,o+k*2+1,none⟩=some (vals (2*k+1)):=(World.cell?_of_block (w:=W) (a:=⟨b,o+k*2+1,none⟩) ((hkeep _ wr hJs).2 b o rfl hn0)).trans (by grind)
   obtain ⟨fn,tmps,assign,body,hy,hR⟩:=hY k wr (by omega) hJs
   rw [show encV 2 vals k=.agg #[vals (2*k),vals (2*k+1)] from rfl] at hy
   gi_wp2
   refine hR.mono ?_
   rintro e W3 (⟨rfl,hJ3⟩ | ⟨rfl,hJx3⟩)
   ·gi_wp2
    go_roundw
    case rel=>grind
    case measure=>simp [intOf]
   ·gi_wp2
    refine bodyPost_ret (results_none rfl _ _ _) rfl ?_
    simp_all
  ·obtain rfl:k=0:=by omega
   gi_wp2
   go_end0
   simp_all
theorem bwP:BwOK Tryz.prog 190 2:=by
 refine ⟨fun args w=>zbW Tryz.func190 rfl rfl args w,?_⟩
 intro l Bs oB a n cap vals J Jx W hn hcell hplace hkeep hY h0
 obtain ⟨F,hF⟩:∃F,F=fen none:=⟨_,rfl⟩
 rw [← hF] at hY ⊢
 have hfn:F.fn 190:=by rw [hF];trivial
 have hro:F.round=none:=by rw [hF];rfl
 have hdep:(F.depth.isSome=true→1≤0):=by rw [hF];intro h;cases h
 have hdep':F.depth=none:=by rw [hF];rfl
 clear hF
 refine callsIn_of_wp Tryz.func190 rfl hfn ?_ hro
 simp only [Tryz.ntmps190,List.size_toArray,List.length_cons,List.length_nil,Nat.reduceAdd,Nat.reduceSub,Array.replicate_succ,Array.replicate_zero,List.push_toArray,List.append_toArray,List.nil_append,List.cons_append]
 gi_wp2
 gi_loopw [3] (fun i wr=>∃k:Nat,k≤n∧i=.int .i64 ((k:Int)-1)∧J k wr)
  (fun i _=>(intOf i+1).toNat)
 case atStart=>grind
 case round=>
  obtain ⟨k,hk,rfl,hJs⟩:=hrel
  have hcB:wr.cell? ⟨Bs,oB,none⟩=some (.slice a n cap):=(World.cell?_of_block (w:=W) (a:=⟨Bs,oB,none⟩) (hkeep k wr hJs).1).trans hcell
  by_cases hlt:0<k
  ·obtain ⟨k,rfl⟩:∃j,k=j+1:=⟨k-1,by omega⟩
   have hn0:n≠0:=by omega
   obtain ⟨b,o,rfl,hb⟩:=hplace.resolve_left hn0
   have hcx:wr.cell? ⟨b,o+k*2,none⟩=some (vals (2*k)):=(World.cell?_of_block (w:=W) (a:=⟨b,o+k*2,none⟩) ((hkeep _ wr hJs).2 b o rfl hn0)).trans (by grind)
   have hcy:wr.cell? ⟨b,o+k*2+1,none⟩=some (vals (2*k+1)):=(World.cell?_of_block (w:=W) (a:=⟨b,o+k*2+1,none⟩) ((hkeep _ wr hJs).2 b o rfl hn0)).trans (by grind)
   obtain ⟨fn,tmps,assign,body,hy,hR⟩:=hY k wr (by omega) hJs
   rw [show encV 2 vals k=.agg #[vals (2*k),vals (2*k+1)] from rfl] at hy
   gi_wp2
   refine hR.mono ?_
   rintro e W3 (⟨rfl,hJ3⟩ | ⟨rfl,hJx3⟩)
   ·gi_wp2
    go_roundw
    case rel=>grind
    case measure=>simp [intOf]
   ·gi_wp2
    refine bodyPost_ret (results_none rfl _ _ _) rfl ?_
    simp_all
  ·obtain rfl:k=0:=by omega
   gi_wp2
   go_end0
   simp_all
end Go.Proofs.YtagbldogmjhdpaaGreatDoor
end
section
open Go Go.Ev Go.RowKit
namespace Go.Proofs.YtagbldogmjhdpaaGreatDoor
open Go.Proofs
set_option maxRecDepth 100000
theorem mixed:Tryz.prog.follows .mixedOrders=true:=by kernel_rfl
theorem zaC:zjp Tryz.prog:=by unfold zjp;kernel_rfl
def bw:List (FuncId × Nat):=[(191,1),(188,2),(190,2)]
theorem zaA:∀p∈bw,BwOK Tryz.prog p.1 p.2:=by
 intro p hp
 simp only [bw,List.mem_cons,List.not_mem_nil,or_false] at hp
 rcases hp with rfl | rfl | rfl
 ·exact bwI
 ·exact bwW
 ·exact bwP
theorem JZ {l:Ctr} {opt:List FuncId} (hl:∀p∈l,jZ Tryz.prog p.1 p.2):(eZ Tryz.prog l bw opt).OK:=vZ zaC mixed hl zaA
noncomputable abbrev tP:Program:=Tryz.prog
abbrev lI (x:Int):AV:=.lit (.int .i64 x)
end Go.Proofs.YtagbldogmjhdpaaGreatDoor
end
section
open Go Go.Ev Go.RowKit
namespace Go.Proofs.YtagbldogmjhdpaaGreatDoor
open Go.Proofs
set_option maxRecDepth 100000
set_option maxHeartbeats 1000000
set_option linter.unusedVariables false
set_option linter.unusedSimpArgs false
noncomputable section
theorem floored_0 (n:Int):FunI (eZ tP [] bw) 60 157 [lI n] [1] [] [0,1,0,2,3,4] (.tup [aI (Int.tdiv n 100000000-1),aI (Int.tmod n 100000000+100000000)]) [inR .i64 (Int.tdiv n 100000000)=true,decide (Int.tmod n 100000000<0)=true,inR .i64 (Int.tdiv n 100000000-1)=true,inR .i64 (Int.tmod n 100000000+100000000)=true]:={}
theorem floored_1 (n:Int):FunI (eZ tP [] bw) 60 157 [lI n] [0] [] [0,1,0,2] (.tup [aI (Int.tdiv n 100000000),aI (Int.tmod n 100000000)]) [inR .i64 (Int.tdiv n 100000000)=true,decide (Int.tmod n 100000000<0)=false]:={}
theorem trimL_0 (l:List Int):RndI (eZ tP [] bw) 60 (kZ tP 143 0) 0 [] [0] [] ⟨sp 21 [(0,.sq l)],[],[]⟩ [1,1] [] [1,2,3,4,5,6,2,0,3,7] (Ex.normal) (⟨sp 21 [(0,.sq ((l.take ((l.length:Int)-1).toNat).drop 0))],[],[]⟩) [decide ((l.length:Int) > 0)=true,inR .i64 ((l.length:Int)-1)=true,decide (0≤(l.length:Int)-1)=true,decide ((l.length:Int)-1<(l.length:Int))=true,decide (((l.length:Int)-1).toNat<l.length)=true,(l.getD ((l.length:Int)-1).toNat 0==0)=true,decide ((l.length:Int)-1≤(l.length:Int))=true]:={}
theorem trimL_1 (l:List Int):RndI (eZ tP [] bw) 60 (kZ tP 143 0) 0 [] [0] [] ⟨sp 21 [(0,.sq l)],[],[]⟩ [1,0] [] [1,2,3,4,5,6] (Ex.exit 0) (⟨sp 21 [(0,.sq l)],[],[]⟩) [decide ((l.length:Int) > 0)=true,inR .i64 ((l.length:Int)-1)=true,decide (0≤(l.length:Int)-1)=true,decide ((l.length:Int)-1<(l.length:Int))=true,decide (((l.length:Int)-1).toNat<l.length)=true,(l.getD ((l.length:Int)-1).toNat 0==0)=false]:={}
theorem trimL_2 (l:List Int):RndI (eZ tP [] bw) 60 (kZ tP 143 0) 0 [] [0] [] ⟨sp 21 [(0,.sq l)],[],[]⟩ [0] [] [1] (Ex.exit 0) (⟨sp 21 [(0,.sq l)],[],[]⟩) [decide ((l.length:Int) > 0)=false]:={}
theorem trim_0 (l r:List Int):FunI (eZ tP [] bw) 60 143 [.sq l] [] [some (zdZ tP (kZ tP 143 0) [] [0] [] ⟨sp 21 [(0,.sq l)],[],[]⟩ (.exit 0,⟨sp 21 [(0,.sq r)],[],[]⟩))] [0,1] (.sq r) [Loops 0 tP (kZ tP 143 0) ⟨sp 21 [(0,.sq l)],[],[]⟩ (Ex.exit 0,⟨sp 21 [(0,.sq r)],[],[]⟩)]:={}
end
theorem ok0:(eZ tP [] bw).OK:=JZ CAll.nil
def cZ (n:Int):Prop:=-9223372036854775808≤n∧n≤9223372036854775807
instance decFloored {n:Int}:Decidable (cZ n):=inferInstanceAs (Decidable (_∧_))
def zgB (n:Int):AV:=.tup [lI (n / 100000000),lI (n % 100000000)]
theorem zo2 (n:Int) (h:cZ n):FC tP 157 [lI n] (zgB n):=by
  obtain ⟨h1,h2⟩:=h
  have ht:=Int.mul_tdiv_add_tmod n 100000000
  by_cases hn:Int.tmod n 100000000<0
  · have hp:n<0:=by
      rcases Int.lt_or_le n 0 with h | h
      · exact h
      · have:=Int.tmod_nonneg 100000000 h;omega
    have hb:-100000000<Int.tmod n 100000000:=by
      have:=Int.lt_tmod_of_pos n (show(0:Int)<100000000 by decide);omega
    have e1:Int.tdiv n 100000000-1=n / 100000000:=by omega
    have e2:Int.tmod n 100000000+100000000=n % 100000000:=by omega
    have:=lZ ok0 (floored_0 n) (.cons (inR64.2 (by omega)) (.cons (by simpa using hn) (.cons (inR64.2 (by omega)) (.cons (inR64.2 (by omega)) .nil))))
    rw [e1,e2] at this
    exact this
  · have hb:Int.tmod n 100000000<100000000:=Int.tmod_lt_of_pos n (by decide)
    have e1:Int.tdiv n 100000000=n / 100000000:=by omega
    have e2:Int.tmod n 100000000=n % 100000000:=by omega
    have:=lZ ok0 (floored_1 n) (.cons (inR64.2 (by omega)) (.cons (by simpa using hn) .nil))
    rw [e1,e2] at this
    exact this
def MZ (l:List Int):Prop:=l.length≤4611686018427387904
theorem zjk:∀(n:Nat) (l:List Int),l.length=n→MZ l→Loops 0 tP (kZ tP 143 0) ⟨sp 21 [(0,.sq l)],[],[]⟩ (.exit 0,⟨sp 21 [(0,.sq (trm l))],[],[]⟩)
 | 0,l,hn,hs=>by
  have:l=[]:=List.eq_nil_of_length_eq_zero hn
  subst this
  exact Loops.fin (LS.of ok0 (trimL_2 []) (.cons (by simp) .nil)) (by simp [Ex.toExit])
 | n + 1,l,hn,hs=>by
  obtain ⟨a,d,rfl⟩:∃a d,l=a++[d]:=by
   rcases List.eq_nil_or_concat l with rfl | ⟨a,d,h⟩
   ·cases hn
   ·exact ⟨a,d,by simpa using h⟩
  have hlen:(a++[d]).length=a.length+1:=by simp
  unfold MZ at hs
  have hnat:Int.toNat (((a++[d]).length:Int)-1)=a.length:=by omega
  have hget:(a++[d]).getD (Int.toNat (((a++[d]).length:Int)-1)) 0=d:=by rw [hnat];simp [List.getD]
  by_cases hd:d=0
  ·subst hd
   have e:List.drop 0 (List.take (Int.toNat (((a++[(0:Int)]).length:Int)-1)) (a++[0]))=a:=by rw [hnat];simp
   have hgo:=LS.of ok0 (trimL_0 (a++[0])) (by(repeat' (first | exact AllC.nil | refine AllC.cons ?_ ?_));all_goals (first | exact CU.h {} | (simp [hnat,hget]<;>omega) | assumption | rfl))
   rw [e] at hgo
   rw [zgP]
   exact Loops.go hgo (zjk n a (by omega) (by unfold MZ;omega))
  ·have hgo:=LS.of ok0 (trimL_1 (a++[d])) (by(repeat' (first | exact AllC.nil | refine AllC.cons ?_ ?_));all_goals (first | exact CU.h {} | (simp [hnat,hget,hd]<;>omega) | assumption | rfl))
   rw [zcJ a d hd]
   exact Loops.fin hgo (by simp [Ex.toExit])
theorem trim_fc (l:List Int) (h:MZ l):FC tP 143 [.sq l] (.sq (trm l)):=
 lZ ok0 (trim_0 l (trm l)) (.cons (zjk _ l rfl h) .nil)
def zma:Ctr:=[(157,cI cZ zgB),(143,cL MZ (fun l=>.sq (trm l)))]
theorem zno:∀p∈zma,jZ tP p.1 p.2:=CAll.cons (cI_ok zo2) (CAll.cons (zjt trim_fc) CAll.nil)
theorem ok1:(eZ tP zma bw).OK:=JZ zno
end Go.Proofs.YtagbldogmjhdpaaGreatDoor
end
section
open Go Go.Ev
namespace Go.Proofs.YtagbldogmjhdpaaGreatDoor
open Go.Proofs
abbrev SN (x:List Int):St:=⟨sp 92 [(0,.sq x),(2,.ref 0 0),(3,.lit (.slice none 0 0)),(4,lI 0),(5,lI 0)],[.flat [.lit (.bool false),.lit (.slice none 0 0)] true],[]⟩
abbrev SR (x:List Int) (i c:Int) (n:Nat) (a:List Int):St:=⟨sp 92 [(0,.sq x),(2,.ref 0 0),(3,.own 1 0 n 1),(4,lI c),(5,lI i)],[.flat [.lit (.bool false),.lit (.slice none 0 0)] true,.ints a true],[]⟩
abbrev SC (b k:Int) (n:Nat) (a:List Int):St:=⟨sp 92 [(2,.ref 0 0),(3,.own 1 0 n 1),(10,lI b),(58,.own 1 0 n 1),(59,lI (n:Int)),(60,lI k)],[.flat [.lit (.bool false),.lit (.slice none 0 0)] true,.ints a true],[1]⟩
end Go.Proofs.YtagbldogmjhdpaaGreatDoor
end
section
open Go Go.Ev Go.RowKit
namespace Go.Proofs.YtagbldogmjhdpaaGreatDoor
open Go.Proofs
set_option maxRecDepth 100000
set_option maxHeartbeats 1000000
set_option linter.unusedVariables false
set_option linter.unusedSimpArgs false
noncomputable section
theorem readN_0 (x:List Int):RndI (eZ tP zma bw) 60 (kZ tP 120 0) 1 [2] [0,2,3,4,5] [] ⟨sp 92 [(0,.sq x),(2,.ref 0 0),(3,.lit (.slice none 0 0)),(4,lI 0),(5,lI 0)],[.flat [.lit (.bool false),.lit (.slice none 0 0)] true],[]⟩ [1,1] [] [1,1,0,1,2,3,4,5,0,0,0,6,7,0] (Ex.normal) (⟨sp 92 [(0,.sq x),(2,.ref 0 0),(3,.own 1 0 1 1),(4,aI (x.getD 0 0 / 100000000+(x.getD 0 0 % 100000000+0) / 100000000)),(5,aI 1)],[.flat [aF,aN] true,.ints [(x.getD 0 0 % 100000000+0) % 100000000] true],[]⟩) [decide (0<(x.length:Int))=true,decide (0<x.length)=true,cZ (x.getD 0 0),inR .i64 (x.getD 0 0 % 100000000+0)=true,cZ (x.getD 0 0 % 100000000+0),decide ((List.take 1 [(x.getD 0 0 % 100000000+0) % 100000000]).length=1)=true,inR .i64 (x.getD 0 0 / 100000000+(x.getD 0 0 % 100000000+0) / 100000000)=true]:={}
theorem readE_2 (x:List Int):RndI (eZ tP zma bw) 60 (kZ tP 120 0) 1 [] [0,2,3,4,5] [] ⟨sp 92 [(0,.sq x),(2,.ref 0 0),(3,.lit (.slice none 0 0)),(4,lI 0),(5,lI 0)],[.flat [.lit (.bool false),.lit (.slice none 0 0)] true],[]⟩ [0,0] [] [1,0] (Ex.exit 0) (⟨sp 92 [(0,.sq x),(2,.ref 0 0),(3,aN),(4,aI 0),(5,aI 0)],[.flat [aF,aN] true],[]⟩) [decide (0<(x.length:Int))=false]:={}
theorem readS_0 (x:List Int) (i c:Int) (n:Nat) (a:List Int):RndI (eZ tP zma bw) 60 (kZ tP 120 0) 1 [3] [0,2,3,4,5] [] ⟨sp 92 [(0,.sq x),(2,.ref 0 0),(3,.own 1 0 n 1),(4,lI c),(5,lI i)],[.flat [.lit (.bool false),.lit (.slice none 0 0)] true,.ints a true],[]⟩ [1,1] [] [1,1,2,1,3,4,5,6,7,8,9,10,11,12] (Ex.normal) (⟨sp 92 [(0,.sq x),(2,.ref 0 0),(3,.own 1 0 (n+1) 1),(4,aI (x.getD i.toNat 0 / 100000000+(x.getD i.toNat 0 % 100000000+c) / 100000000)),(5,aI (i+1))],[.flat [aF,aN] true,.ints (a.take n++List.take 1 [(x.getD i.toNat 0 % 100000000+c) % 100000000]) true],[]⟩) [decide (i<(x.length:Int))=true,decide (0≤i)=true,decide (i.toNat<x.length)=true,cZ (x.getD i.toNat 0),inR .i64 (x.getD i.toNat 0 % 100000000+c)=true,cZ (x.getD i.toNat 0 % 100000000+c),decide ((n+1)*8≤140737488355328)=true,decide (n+1≤4611686018427387904)=true,decide (n≤a.length)=true,decide ((List.take 1 [(x.getD i.toNat 0 % 100000000+c) % 100000000]).length=1)=true,inR .i64 (x.getD i.toNat 0 / 100000000+(x.getD i.toNat 0 % 100000000+c) / 100000000)=true,inR .i64 (i+1)=true]:={}
theorem readS_3 (x:List Int) (i c:Int) (n:Nat) (a:List Int):RndI (eZ tP zma bw) 60 (kZ tP 120 0) 1 [3] [0,2,3,4,5] [] ⟨sp 92 [(0,.sq x),(2,.ref 0 0),(3,.own 1 0 n 1),(4,lI c),(5,lI i)],[.flat [.lit (.bool false),.lit (.slice none 0 0)] true,.ints a true],[]⟩ [0,1,1,0] [] [1,2,3,1,4,5,6,7,8,9,10,11] (Ex.normal) (⟨sp 92 [(0,.sq x),(2,.ref 0 0),(3,.own 1 0 (n+1) 1),(4,aI (0+(0+c) / 100000000)),(5,aI (i+1))],[.flat [aF,aN] true,.ints (a.take n++List.take 1 [(0+c) % 100000000]) true],[]⟩) [decide (i<(x.length:Int))=false,(c != 0)=true,(c != -1)=true,inR .i64 (0+c)=true,cZ (0+c),decide ((n+1)*8≤140737488355328)=true,decide (n+1≤4611686018427387904)=true,decide (n≤a.length)=true,decide ((List.take 1 [(0+c) % 100000000]).length=1)=true,inR .i64 (0+(0+c) / 100000000)=true,inR .i64 (i+1)=true]:={}
theorem readX_4 (x:List Int) (i c:Int) (n:Nat) (a:List Int):RndI (eZ tP zma bw) 60 (kZ tP 120 0) 1 [1] [0,2,3,4,5] [] ⟨sp 92 [(0,.sq x),(2,.ref 0 0),(3,.own 1 0 n 1),(4,lI c),(5,lI i)],[.flat [.lit (.bool false),.lit (.slice none 0 0)] true,.ints a true],[]⟩ [0,1,0] [] [1,2,3] (Ex.exit 0) (⟨sp 92 [(0,.sq x),(2,.ref 0 0),(3,.own 1 0 n 1),(4,aI c),(5,aI i)],[.flat [aF,aN] true,.ints a true],[]⟩) [decide (i<(x.length:Int))=false,(c != 0)=true,(c != -1)=false]:={}
theorem readX_5 (x:List Int) (i c:Int) (n:Nat) (a:List Int):RndI (eZ tP zma bw) 60 (kZ tP 120 0) 1 [1] [0,2,3,4,5] [] ⟨sp 92 [(0,.sq x),(2,.ref 0 0),(3,.own 1 0 n 1),(4,lI c),(5,lI i)],[.flat [.lit (.bool false),.lit (.slice none 0 0)] true,.ints a true],[]⟩ [0,0] [] [1,2] (Ex.exit 0) (⟨sp 92 [(0,.sq x),(2,.ref 0 0),(3,.own 1 0 n 1),(4,aI c),(5,aI i)],[.flat [aF,aN] true,.ints a true],[]⟩) [decide (i<(x.length:Int))=false,(c != 0)=false]:={}
theorem readC_0 (b k:Int) (n:Nat) (a:List Int):RndI (eZ tP zma bw) 60 (kZ tP 120 1) 2 [] [2,3,10,58,59,60] [1] ⟨sp 92 [(2,.ref 0 0),(3,.own 1 0 n 1),(10,lI b),(58,.own 1 0 n 1),(59,lI n),(60,lI k)],[.flat [.lit (.bool false),.lit (.slice none 0 0)] true,.ints a true],[1]⟩ [1,1] [] [1,2,1,3,4,5,2,1,3,2,1,6,7,2,1,6,8,2,1,6,9] (Ex.normal) (⟨sp 92 [(2,.ref 0 0),(3,.own 1 0 n 1),(10,aI 1),(58,.own 1 0 n 1),(59,aI (n:Int)),(60,aI (k+1))],[.flat [aF,aN] true,.ints ((a.set (0+k.toNat*1) (0-a.getD (0+k.toNat*1) 0-b)).set (0+k.toNat*1) ((a.set (0+k.toNat*1) (0-a.getD (0+k.toNat*1) 0-b)).getD (0+k.toNat*1) 0+100000000)) true],[1]⟩) [decide (k<(n:Int))=true,decide (0≤k)=true,decide (0+k.toNat*1<a.length)=true,inR .i64 (0-a.getD (0+k.toNat*1) 0)=true,inR .i64 (0-a.getD (0+k.toNat*1) 0-b)=true,decide (0+k.toNat*1<(a.set (0+k.toNat*1) (0-a.getD (0+k.toNat*1) 0-b)).length)=true,decide ((a.set (0+k.toNat*1) (0-a.getD (0+k.toNat*1) 0-b)).getD (0+k.toNat*1) 0<0)=true,inR .i64 ((a.set (0+k.toNat*1) (0-a.getD (0+k.toNat*1) 0-b)).getD (0+k.toNat*1) 0+100000000)=true,inR .i64 (k+1)=true]:={}
theorem readC_1 (b k:Int) (n:Nat) (a:List Int):RndI (eZ tP zma bw) 60 (kZ tP 120 1) 2 [] [2,3,10,58,59,60] [1] ⟨sp 92 [(2,.ref 0 0),(3,.own 1 0 n 1),(10,lI b),(58,.own 1 0 n 1),(59,lI n),(60,lI k)],[.flat [.lit (.bool false),.lit (.slice none 0 0)] true,.ints a true],[1]⟩ [1,0] [] [1,2,1,3,4,5,2,1,3,2,1,6,7,8] (Ex.normal) (⟨sp 92 [(2,.ref 0 0),(3,.own 1 0 n 1),(10,aI 0),(58,.own 1 0 n 1),(59,aI (n:Int)),(60,aI (k+1))],[.flat [aF,aN] true,.ints (a.set (0+k.toNat*1) (0-a.getD (0+k.toNat*1) 0-b)) true],[1]⟩) [decide (k<(n:Int))=true,decide (0≤k)=true,decide (0+k.toNat*1<a.length)=true,inR .i64 (0-a.getD (0+k.toNat*1) 0)=true,inR .i64 (0-a.getD (0+k.toNat*1) 0-b)=true,decide (0+k.toNat*1<(a.set (0+k.toNat*1) (0-a.getD (0+k.toNat*1) 0-b)).length)=true,decide ((a.set (0+k.toNat*1) (0-a.getD (0+k.toNat*1) 0-b)).getD (0+k.toNat*1) 0<0)=false,inR .i64 (k+1)=true]:={}
theorem readC_2 (b k:Int) (n:Nat) (a:List Int):RndI (eZ tP zma bw) 60 (kZ tP 120 1) 2 [] [2,3,10,58,59,60] [1] ⟨sp 92 [(2,.ref 0 0),(3,.own 1 0 n 1),(10,lI b),(58,.own 1 0 n 1),(59,lI n),(60,lI k)],[.flat [.lit (.bool false),.lit (.slice none 0 0)] true,.ints a true],[1]⟩ [0] [] [1] (Ex.exit 2) (⟨sp 92 [(2,.ref 0 0),(3,.own 1 0 n 1),(10,aI b),(58,.own 1 0 n 1),(59,aI (n:Int)),(60,aI k)],[.flat [aF,aN] true,.ints a true],[1]⟩) [decide (k<(n:Int))=false]:={}
theorem readF_0 (x:List Int) (i:Int) (a:List Int) (n:Nat):FunI (eZ tP zma bw) 60 120 [.sq x] [1] [some (zdZ tP (kZ tP 120 0) [] [0,2,3,4,5] [] (SN x) (.exit 0,SR x i 0 n a))] [0,1,0,2,3] (.agg [aF,.sq (trm (a.take n))]) [Loops 1 tP (kZ tP 120 0) ⟨sp 92 [(0,.sq x),(2,.ref 0 0),(3,aN),(4,aI 0),(5,aI 0)],[.flat [aF,aN] true],[]⟩ (Ex.exit 0,⟨sp 92 [(0,.sq x),(2,.ref 0 0),(3,.own 1 0 n 1),(4,aI 0),(5,aI i)],[.flat [aF,aN] true,.ints a true],[]⟩),n≤a.length,MZ (a.take n)]:={}
theorem readG_0 (x:List Int):FunI (eZ tP zma bw) 60 120 [.sq x] [1] [some (zdZ tP (kZ tP 120 0) [] [0,2,3,4,5] [] (SN x) (.exit 0,SN x))] [0,1,0,2] (.agg [aF,.sq []]) [Loops 1 tP (kZ tP 120 0) ⟨sp 92 [(0,.sq x),(2,.ref 0 0),(3,aN),(4,aI 0),(5,aI 0)],[.flat [aF,aN] true],[]⟩ (Ex.exit 0,⟨sp 92 [(0,.sq x),(2,.ref 0 0),(3,aN),(4,aI 0),(5,aI 0)],[.flat [aF,aN] true],[]⟩),MZ []]:={}
theorem readH_0 (x:List Int) (i:Int) (a c:List Int) (n:Nat) (b k:Int):FunI (eZ tP zma bw) 60 120 [.sq x] [0,1] [some (zdZ tP (kZ tP 120 0) [] [0,2,3,4,5] [] (SN x) (.exit 0,SR x i (-1) n a)),some (zdZ tP (kZ tP 120 1) [] [2,3,10,58,59,60] [1] (SC 0 0 n a) (.exit 2,SC b k n c))] [0,1,0,0,2,3,4,5,6,0,7,8] (.agg [.tt,.sq (trm ((c.take n++List.take 1 [1]).take (n+1)))]) [Loops 1 tP (kZ tP 120 0) ⟨sp 92 [(0,.sq x),(2,.ref 0 0),(3,aN),(4,aI 0),(5,aI 0)],[.flat [aF,aN] true],[]⟩ (Ex.exit 0,⟨sp 92 [(0,.sq x),(2,.ref 0 0),(3,.own 1 0 n 1),(4,aI (-1)),(5,aI i)],[.flat [aF,aN] true,.ints a true],[]⟩),Loops 2 tP (kZ tP 120 1) ⟨sp 92 [(2,.ref 0 0),(3,.own 1 0 n 1),(10,aI 0),(58,.own 1 0 n 1),(59,aI (n:Int)),(60,aI 0)],[.flat [aF,aN] true,.ints a true],[1]⟩ (Ex.exit 2,⟨sp 92 [(2,.ref 0 0),(3,.own 1 0 n 1),(10,aI b),(58,.own 1 0 n 1),(59,aI (n:Int)),(60,aI k)],[.flat [aF,aN] true,.ints c true],[1]⟩),(b==0)=true,decide ((n+1)*8≤140737488355328)=true,decide (n+1≤4611686018427387904)=true,decide (n≤c.length)=true,n+1≤(c.take n++List.take 1 [1]).length,MZ ((c.take n++List.take 1 [1]).take (n+1))]:={}
theorem readH_1 (x:List Int) (i:Int) (a c:List Int) (n:Nat) (b k:Int):FunI (eZ tP zma bw) 60 120 [.sq x] [0,0] [some (zdZ tP (kZ tP 120 0) [] [0,2,3,4,5] [] (SN x) (.exit 0,SR x i (-1) n a)),some (zdZ tP (kZ tP 120 1) [] [2,3,10,58,59,60] [1] (SC 0 0 n a) (.exit 2,SC b k n c))] [0,1,0,0,2,3,4,5] (.agg [.tt,.sq (trm (c.take n))]) [Loops 1 tP (kZ tP 120 0) ⟨sp 92 [(0,.sq x),(2,.ref 0 0),(3,aN),(4,aI 0),(5,aI 0)],[.flat [aF,aN] true],[]⟩ (Ex.exit 0,⟨sp 92 [(0,.sq x),(2,.ref 0 0),(3,.own 1 0 n 1),(4,aI (-1)),(5,aI i)],[.flat [aF,aN] true,.ints a true],[]⟩),Loops 2 tP (kZ tP 120 1) ⟨sp 92 [(2,.ref 0 0),(3,.own 1 0 n 1),(10,aI 0),(58,.own 1 0 n 1),(59,aI (n:Int)),(60,aI 0)],[.flat [aF,aN] true,.ints a true],[1]⟩ (Ex.exit 2,⟨sp 92 [(2,.ref 0 0),(3,.own 1 0 n 1),(10,aI b),(58,.own 1 0 n 1),(59,aI (n:Int)),(60,aI k)],[.flat [aF,aN] true,.ints c true],[1]⟩),(b==0)=false,n≤c.length,MZ (c.take n)]:={}
end
theorem zah (pre:List Int) (s:Int) (suf:List Int) (d:Int):(pre++s :: suf).getD pre.length d=s:=by simp [List.getD]
theorem zaH (pre:List Int) (s:Int) (suf:List Int) (v:Int):(pre++s :: suf).set pre.length v=pre++v :: suf:=by simp
theorem zcf (out:List Int) (d:Int):List.take out.length out++List.take 1 [d]=out++[d]:=by simp
theorem zn6 (n:Nat):(0:Int)≤100000000 ^ n:=Int.le_of_lt (pow_pos n)
theorem alg1 (P d t:Int):P*(d+100000000*t)=P*d+P*100000000*t:=by grind
theorem alg2 (v P d t:Int):v+P*d-P*100000000*t=v-P*(-d+100000000*t):=by rw [alg1,Int.mul_neg];omega
theorem zfX (out:List Int) (c xi d c' v:Int) (h:xi+c=d+100000000*c') :
 vl (out++[d])+100000000 ^ (out++[d]).length*(c'+v)=vl out+100000000 ^ out.length*(c+(xi+100000000*v)):=by
 have e:c+(xi+100000000*v)=d+100000000*(c'+v):=by omega
 rw [e,zbG,List.length_append,List.length_singleton,Int.pow_succ,alg1,Int.add_assoc]
theorem readA:∀(m:Nat) (x:List Int) (i c:Int) (out:List Int),c.natAbs≤m→(x.length:Int)≤i→i+m≤8796093022208→Digs out→-1000000000000≤c→c≤1000000000000→out.length+m≤8796093022208 →
 ∃(i' c':Int) (out':List Int),(c'=0∨c' = -1)∧Digs out'∧vl out'+100000000 ^ out'.length*c'=vl out+100000000 ^ out.length*c∧out'.length≤out.length+m ∧
  Loops 1 tP (kZ tP 120 0) (SR x i c out.length out) (.exit 0,SR x i' c' out'.length out'):=by
 intro m
 induction m with
 | zero=>
  intro x i c out hc hi hi2 hd h1 h2 hl
  have:c=0:=by omega
  subst this
  have h:=LS.of ok1 (readX_5 x i 0 out.length out) (by(repeat' (first | exact AllC.nil | refine AllC.cons ?_ ?_));all_goals (first | exact CU.h {} | (simp [hi]<;>omega) | assumption | rfl))
  exact ⟨i,0,out,.inl rfl,hd,rfl,by omega,Loops.fin h (by simp [Ex.toExit])⟩
 | succ m ih=>
  intro x i c out hc hi hi2 hd h1 h2 hl
  by_cases h0:c=0
  ·subst h0
   have h:=LS.of ok1 (readX_5 x i 0 out.length out) (by(repeat' (first | exact AllC.nil | refine AllC.cons ?_ ?_));all_goals (first | exact CU.h {} | (simp [hi]<;>omega) | assumption | rfl))
   exact ⟨i,0,out,.inl rfl,hd,rfl,by omega,Loops.fin h (by simp [Ex.toExit])⟩
  by_cases h3:c = -1
  ·subst h3
   have h:=LS.of ok1 (readX_4 x i (-1) out.length out) (by(repeat' (first | exact AllC.nil | refine AllC.cons ?_ ?_));all_goals (first | exact CU.h {} | (simp [hi]<;>omega) | assumption | rfl))
   exact ⟨i,-1,out,.inr rfl,hd,rfl,by omega,Loops.fin h (by simp [Ex.toExit])⟩
  have h:=LS.of ok1 (readS_3 x i c out.length out) (by(repeat' (first | exact AllC.nil | refine AllC.cons ?_ ?_));all_goals (first | exact CU.h {} | (simp [hi,h0,h3,cZ]<;>omega) | assumption | rfl))
  rw [zcf] at h
  have e:out.length+1=(out++[(0+c) % 100000000]).length:=by simp
  rw [e] at h
  have hd2:Digs (out++[(0+c) % 100000000]):=by
   intro d hd'
   rcases List.mem_append.1 hd' with h | h
   ·exact hd d h
   ·simp at h;subst h;omega
  obtain ⟨i',c',out',k1,k2,k3,k4,k5⟩:=ih x (i+1) (0+(0+c) / 100000000) (out++[(0+c) % 100000000]) (by omega) (by omega) (by omega) hd2 (by omega) (by omega) (by simp;omega)
  refine ⟨i',c',out',k1,k2,?_,by simp at k4;omega,Loops.go h k5⟩
  have:=zfX out c 0 ((0+c) % 100000000) (0+(0+c) / 100000000) 0 (by omega)
  simp only [Int.add_zero,Int.mul_zero] at this
  rw [k3,this]
def za2 (x:List Int):Prop:=(x.length:Int)≤1099511627776∧∀d∈x,cZ d
theorem readB:∀(k:Nat) (x:List Int) (c:Int) (out:List Int),za2 x→x.length=out.length+k→Digs out→-1000000000000≤c→c≤1000000000000 →
 ∃(i' c':Int) (out':List Int),(c'=0∨c' = -1)∧Digs out'∧vl out'+100000000 ^ out'.length*c'=vl out+100000000 ^ out.length*(c+vl (x.drop out.length))∧out'.length≤2199023255552 ∧
  Loops 1 tP (kZ tP 120 0) (SR x (out.length:Int) c out.length out) (.exit 0,SR x i' c' out'.length out'):=by
 intro k
 induction k with
 | zero=>
  intro x c out hx hk hd h1 h2
  have hx1:=hx.1
  obtain ⟨i',c',out',k1,k2,k3,k4,k5⟩:=readA c.natAbs x out.length c out (Nat.le_refl _) (by omega) (by omega) hd h1 h2 (by omega)
  refine ⟨i',c',out',k1,k2,?_,by omega,k5⟩
  rw [List.drop_eq_nil_of_le (by omega),k3];simp [vl]
 | succ k ih=>
  intro x c out hx hk hd h1 h2
  have hx1:=hx.1
  have hlt:out.length<x.length:=by omega
  have hg:x.getD out.length 0=x[out.length]:=by simp [List.getD,hlt]
  have hnat:Int.toNat (out.length:Int)=out.length:=by omega
  have hb:=hx.2 (x[out.length]) (List.getElem_mem hlt)
  have hb':=hb
  unfold cZ at hb'
  have h:=LS.of ok1 (readS_0 x out.length c out.length out) (by
   rw [hnat,hg]
   exact(by(repeat' (first | exact AllC.nil | refine AllC.cons ?_ ?_));all_goals (first | exact CU.h {} | (simp [hlt,cZ]<;>omega) | assumption | rfl)))
  rw [hnat,hg,zcf] at h
  generalize hq:x[out.length]=xi at *
  have e:out.length+1=(out++[(xi % 100000000+c) % 100000000]).length:=by simp
  have e2:(out.length:Int)+1=((out++[(xi % 100000000+c) % 100000000]).length:Nat):=by simp
  rw [e,e2] at h
  have hd2:Digs (out++[(xi % 100000000+c) % 100000000]):=by
   intro d hd'
   rcases List.mem_append.1 hd' with h | h
   ·exact hd d h
   ·simp at h;subst h;omega
  obtain ⟨i',c',out',k1,k2,k3,k4,k5⟩:=ih x (xi / 100000000+(xi % 100000000+c) / 100000000) (out++[(xi % 100000000+c) % 100000000]) hx (by simp;omega) hd2 (by omega) (by omega)
  refine ⟨i',c',out',k1,k2,?_,k4,Loops.go h k5⟩
  rw [k3]
  have hdrop:x.drop out.length=xi :: x.drop (out.length+1):=by rw [List.drop_eq_getElem_cons hlt,hq]
  rw [hdrop]
  have:=zfX out c xi ((xi % 100000000+c) % 100000000) (xi / 100000000+(xi % 100000000+c) / 100000000) (vl (x.drop (out.length+1))) (by omega)
  simp only [List.length_append,List.length_singleton] at this ⊢
  simp only [vl]
  exact this
theorem readC:∀(suf pre:List Int) (b:Int) (n:Nat),(b=0∨b=1)→Digs pre→Digs suf→n=pre.length+suf.length→n≤4611686018427387 →
 ∃(pre':List Int) (b':Int),Digs pre'∧pre'.length=n∧(b'=0∨b'=1)∧vl pre'-100000000 ^ n*b'=vl pre-100000000 ^ pre.length*(b+vl suf) ∧
  Loops 2 tP (kZ tP 120 1) (SC b pre.length n (pre++suf)) (.exit 2,SC b' n n pre')
 | [],pre,b,n,hb,hp,hs,hn,hl=>by
  simp only [List.length_nil,Nat.add_zero] at hn
  subst hn
  refine ⟨pre,b,hp,rfl,hb,by simp [vl],?_⟩
  rw [List.append_nil]
  exact Loops.fin (LS.of ok1 (readC_2 b pre.length pre.length pre) (by(repeat' (first | exact AllC.nil | refine AllC.cons ?_ ?_));all_goals (first | exact CU.h {} | (simp []<;>omega) | assumption | rfl))) (by simp [Ex.toExit])
 | s :: suf,pre,b,n,hb,hp,hs,hn,hl=>by
  have hs0:=hs s (by simp)
  have hsf:Digs suf:=fun d hd=>hs d (by simp [hd])
  have hk:0+Int.toNat (pre.length:Int)*1=pre.length:=by omega
  simp only [List.length_cons] at hn
  by_cases hneg:0-s-b<0
  ·have h:=LS.of ok1 (readC_0 b pre.length n (pre++s :: suf)) (by
   simp only [hk,zah,zaH]
   exact(by(repeat' (first | exact AllC.nil | refine AllC.cons ?_ ?_));all_goals (first | exact CU.h {} | (simp [hneg,hn]<;>omega) | assumption | rfl)))
   simp only [hk,zah,zaH] at h
   have e:pre++(0-s-b+100000000) :: suf=(pre++[0-s-b+100000000])++suf:=by simp
   have e2:(pre.length:Int)+1=((pre++[0-s-b+100000000]).length:Nat):=by simp
   rw [e,e2] at h
   obtain ⟨pre',b',k1,k2,k3,k4,k5⟩:=readC suf (pre++[0-s-b+100000000]) 1 n (.inr rfl) (by
    intro d hd
    rcases List.mem_append.1 hd with h | h
    ·exact hp d h
    ·simp at h;subst h;omega) hsf (by simp;omega) hl
   refine ⟨pre',b',k1,k2,k3,?_,Loops.go h k5⟩
   rw [k4,zbG,List.length_append,List.length_singleton,Int.pow_succ]
   simp only [vl]
   have e3:(b+(s+100000000*vl suf)) = -(0-s-b+100000000)+100000000*(1+vl suf):=by omega
   rw [e3]
   exact alg2 _ _ _ _
  ·have hz:0-s-b=0:=by omega
   have h:=LS.of ok1 (readC_1 b pre.length n (pre++s :: suf)) (by
    simp only [hk,zah,zaH]
    exact(by(repeat' (first | exact AllC.nil | refine AllC.cons ?_ ?_));all_goals (first | exact CU.h {} | (simp [hneg,hn]<;>omega) | assumption | rfl)))
   simp only [hk,zah,zaH] at h
   have e:pre++(0-s-b) :: suf=(pre++[0-s-b])++suf:=by simp
   have e2:(pre.length:Int)+1=((pre++[0-s-b]).length:Nat):=by simp
   rw [e,e2] at h
   obtain ⟨pre',b',k1,k2,k3,k4,k5⟩:=readC suf (pre++[0-s-b]) 0 n (.inl rfl) (by
    intro d hd
    rcases List.mem_append.1 hd with h | h
    ·exact hp d h
    ·simp at h;subst h;omega) hsf (by simp;omega) hl
   refine ⟨pre',b',k1,k2,k3,?_,Loops.go h k5⟩
   rw [k4,zbG,List.length_append,List.length_singleton,Int.pow_succ]
   simp only [vl]
   have e3:(b+(s+100000000*vl suf)) = -(0-s-b)+100000000*(0+vl suf):=by omega
   rw [e3]
   exact alg2 _ _ _ _
theorem zar (l:List Int):l.take l.length=l:=List.take_length
instance decRead {x:List Int}:Decidable (za2 x):=inferInstanceAs (Decidable (_∧_))
theorem read_fc (x:List Int) (h:za2 x):FC tP 120 [.sq x] (W (vl x)):=by
 have hx1:=h.1
 have main:(∃(i:Int) (out:List Int),Digs out∧vl out=vl x∧out.length≤2199023255552∧Loops 1 tP (kZ tP 120 0) (SN x) (.exit 0,SR x i 0 out.length out)) ∨
  (∃(i:Int) (out:List Int),Digs out∧vl out-100000000 ^ out.length=vl x∧out.length≤2199023255552∧Loops 1 tP (kZ tP 120 0) (SN x) (.exit 0,SR x i (-1) out.length out)) ∨
  (x=[]∧Loops 1 tP (kZ tP 120 0) (SN x) (.exit 0,SN x)):=by
  cases x with
  | nil=>
   refine .inr (.inr ⟨rfl,Loops.fin (LS.of ok1 (readE_2 []) (by(repeat' (first | exact AllC.nil | refine AllC.cons ?_ ?_));all_goals (first | exact CU.h {} | (simp []<;>omega) | assumption | rfl))) (by simp [Ex.toExit])⟩)
  | cons d x=>
   have hb:=h.2 d (by simp)
   have hb':=hb
   unfold cZ at hb'
   have hlt:0<(d :: x).length:=by simp
   have hg:(d :: x).getD 0 0=d:=rfl
   have hg2:(d :: x).getD (Int.toNat 0) 0=d:=rfl
   have hstep:=LS.of ok1 (readN_0 (d :: x)) (by
    rw [hg]
    exact(by(repeat' (first | exact AllC.nil | refine AllC.cons ?_ ?_));all_goals (first | exact CU.h {} | (simp [cZ]<;>omega) | assumption | rfl)))
   rw [hg] at hstep
   have hd2:Digs [(d % 100000000+0) % 100000000]:=by
    intro y hy
    simp at hy;subst hy;omega
   obtain ⟨i',c',out',k1,k2,k3,k4,k5⟩:=readB x.length (d :: x) (d / 100000000+(d % 100000000+0) / 100000000) [(d % 100000000+0) % 100000000] h (by simp;omega) hd2 (by omega) (by omega)
   have hv:vl out'+100000000 ^ out'.length*c'=vl (d :: x):=by
    rw [k3]
    simp only [vl,List.length_singleton,List.drop_succ_cons,List.drop_zero,Int.pow_succ,Int.pow_zero]
    omega
   rcases k1 with rfl | rfl
   ·exact .inl ⟨i',out',k2,by omega,k4,Loops.go hstep k5⟩
   ·refine .inr (.inl ⟨i',out',k2,?_,k4,Loops.go hstep k5⟩)
    rw [← hv,Int.mul_neg,Int.mul_one];omega
 rcases main with ⟨i,out,hd,hv,hl,hL⟩ | ⟨i,out,hd,hv,hl,hL⟩ | ⟨rfl,hL⟩
 ·have:=lZ ok1 (readF_0 x i out out.length) (.cons hL (.cons (Nat.le_refl _) (.cons (by rw [zar];unfold MZ;omega) .nil)))
  rw [zar] at this
  have h0:0≤vl x:=by rw [← hv];exact FZ hd
  refine this.res fun E v hr=>hr.toW (b:=false) rfl rfl (by simp;omega) ?_
  rw [zas hd,hv]
  congr 1
  omega
 ·obtain ⟨out2,b',k1,k2,k3,k4,k5⟩:=readC out [] 0 out.length (.inl rfl) (fun d hd=>by cases hd) hd (by simp) (by omega)
  simp only [vl,List.length_nil,Int.pow_zero,Int.zero_add,Int.one_mul,List.nil_append] at k4 k5
  have hlt:=zfW hd
  have hneg:vl x<0:=by omega
  have hL2:Loops 2 tP (kZ tP 120 1) (SC 0 0 out.length out) (.exit 2,SC b' (out.length:Int) out.length out2):=k5
  have ht:List.take out.length out2=out2:=by rw [← k2,zar]
  rcases k3 with rfl | rfl
  ·-- all of them are 0
   have:=lZ ok1 (readH_0 x i out out2 out.length 0 (out.length:Int)) (by
    have e:List.take (out.length+1) (List.take out.length out2++List.take 1 [1])=out2++[1]:=by
     rw [ht,← k2];exact List.take_of_length_le (l:=out2++[1]) (by simp)
    refine .cons hL (.cons hL2 ?_)
    rw [e,ht]
    exact(by(repeat' (first | exact AllC.nil | refine AllC.cons ?_ ?_));all_goals (first | exact CU.h {} | (simp [k2,MZ]<;>omega) | assumption | rfl)))
   have e:List.take (out.length+1) (List.take out.length out2++List.take 1 [1])=out2++[1]:=by
    rw [ht,← k2];exact List.take_of_length_le (l:=out2++[1]) (by simp)
   rw [e,zcJ out2 1 (by decide)] at this
   refine this.res fun E v hr=>hr.toW (b:=true) rfl rfl (by simp;omega) ?_
   have hdd:Digs (out2++[1]):=by
    intro d hd'
    rcases List.mem_append.1 hd' with h | h
    ·exact k1 d h
    ·simp at h;subst h;omega
   have hval:vl (out2++[1]) = - vl x:=by rw [zbG,k2];omega
   rw [← zmx hdd (zcJ out2 1 (by decide)),hval]
   congr 1
   omega
  ·have:=lZ ok1 (readH_1 x i out out2 out.length 1 (out.length:Int)) (by
   refine .cons hL (.cons hL2 ?_)
   rw [ht]
   exact(by(repeat' (first | exact AllC.nil | refine AllC.cons ?_ ?_));all_goals (first | exact CU.h {} | (simp [k2,MZ]<;>omega) | assumption | rfl)))
   rw [ht] at this
   refine this.res fun E v hr=>hr.toW (b:=true) rfl rfl (by simp;omega) ?_
   rw [zas k1]
   have hval:vl out2 = - vl x:=by omega
   rw [hval]
   congr 1
   omega
 ·have:=lZ ok1 (readG_0 []) (.cons hL (.cons (by unfold MZ;decide) .nil))
  exact this.res fun E v hr=>hr.toW (b:=false) rfl rfl (by simp [vl]) (by simp [vl,QZ])
def zkw:Ctr:=(120,cL za2 (fun x=>W (vl x))) :: zma
theorem znp:∀p∈zkw,jZ tP p.1 p.2:=CAll.cons (zjt read_fc) zno
theorem ok2:(eZ tP zkw bw).OK:=JZ znp
end Go.Proofs.YtagbldogmjhdpaaGreatDoor
end
section
open Go Go.Ev
namespace Go.Proofs.YtagbldogmjhdpaaGreatDoor
open Go.Proofs
abbrev SLs (a:Bool) (z:Int) (n:Nat) (k:Int) (l:List Int):St:=⟨sp 28 [(3,.own 2 0 n 1),(10,.own 2 0 n 1),(11,lI (n:Int)),(12,lI k)],[.flat [.lit (.bool a),.wd z] true,.dead,.ints l true],[0,1,2]⟩
end Go.Proofs.YtagbldogmjhdpaaGreatDoor
end
section
open Go Go.Ev Go.RowKit
namespace Go.Proofs.YtagbldogmjhdpaaGreatDoor
open Go.Proofs
set_option maxRecDepth 100000
set_option maxHeartbeats 1000000
set_option linter.unusedVariables false
set_option linter.unusedSimpArgs false
noncomputable section
theorem listL_0 (a:Bool) (z:Int) (n:Nat) (k:Int) (l:List Int):RndI (eZ tP zkw bw) 60 (kZ tP 96 0) 3 [] [3,10,11,12] [0,1,2] (SLs a z n k l) [1] [] [1,2,1,3,4,2,1,3,5] (Ex.normal) (⟨sp 28 [(3,.own 2 0 n 1),(10,.own 2 0 n 1),(11,aI (n:Int)),(12,aI (k+1))],[.flat [.lit (.bool a),.wd z] true,.dead,.ints (l.set (0+k.toNat*1) (0-l.getD (0+k.toNat*1) 0)) true],[0,1,2]⟩) [decide (k<(n:Int))=true,decide (0≤k)=true,decide (0+k.toNat*1<l.length)=true,inR .i64 (0-l.getD (0+k.toNat*1) 0)=true,inR .i64 (k+1)=true]:={}
theorem listL_1 (a:Bool) (z:Int) (n:Nat) (k:Int) (l:List Int):RndI (eZ tP zkw bw) 60 (kZ tP 96 0) 3 [] [3,10,11,12] [0,1,2] (SLs a z n k l) [0] [] [1] (Ex.exit 0) (⟨sp 28 [(3,.own 2 0 n 1),(10,.own 2 0 n 1),(11,aI (n:Int)),(12,aI k)],[.flat [.lit (.bool a),.wd z] true,.dead,.ints l true],[0,1,2]⟩) [decide (k<(n:Int))=false]:={}
abbrev zlh (a:Bool) (z:Int):St:=⟨sp 28 [(3,.own 2 0 (digs z.natAbs).length 1),(10,.own 2 0 (digs z.natAbs).length 1),(11,aI (↑((digs z.natAbs).length):Int)),(12,aI 0)],[.flat [.lit (.bool a),.wd z] true,.dead,.ints (digs z.natAbs) true],[0,1,2]⟩
theorem list_1 (a:Bool) (z:Int) (b:List Int) (k:Int):FunI (eZ tP zkw bw) 60 96 [.agg [.lit (.bool a),.wd z]] [1,0] [some (zdZ tP (kZ tP 96 0) [] [3,10,11,12] [0,1,2] (SLs a z (digs z.natAbs).length 0 (digs z.natAbs)) (.exit 0,SLs a z (digs z.natAbs).length k b))] [1,2,3,0,4,5,6,7,8,9] (.sq (b.take (digs z.natAbs).length)) [(!(digs z.natAbs).isEmpty)=true,decide ((0+(digs z.natAbs).length)*8≤140737488355328)=true,decide (0+(digs z.natAbs).length≤4611686018427387904)=true,decide ((digs z.natAbs).length=(digs z.natAbs).length)=true,a=true,(⟨sp 28 [(3,.own 2 0 (0+(digs z.natAbs).length) 1),(10,.own 2 0 (0+(digs z.natAbs).length) 1),(11,aI (↑(0+(digs z.natAbs).length):Int)),(12,aI 0)],[.flat [.lit (.bool a),.wd z] true,.dead,.ints (List.take 0 []++digs z.natAbs) true],[0,1,2]⟩:St)=(zlh a z),Loops 3 tP (kZ tP 96 0) (zlh a z) (Ex.exit 0,⟨sp 28 [(3,.own 2 0 (digs z.natAbs).length 1),(10,.own 2 0 (digs z.natAbs).length 1),(11,aI (↑((digs z.natAbs).length):Int)),(12,aI k)],[.flat [.lit (.bool a),.wd z] true,.dead,.ints b true],[0,1,2]⟩),((↑((digs z.natAbs).length):Int)==0)=false,(digs z.natAbs).length≤b.length]:={}
theorem listF_1 (z:Int):FunI (eZ tP zkw bw) 60 96 [.agg [.lit (.bool false),.wd z]] [0,0] [] [1,2,3,0,4,0,5,6] (.sq ((List.take 0 []++digs z.natAbs).take (0+(digs z.natAbs).length))) [(!(digs z.natAbs).isEmpty)=true,decide ((0+(digs z.natAbs).length)*8≤140737488355328)=true,decide (0+(digs z.natAbs).length≤4611686018427387904)=true,decide ((digs z.natAbs).length=(digs z.natAbs).length)=true,((↑(0+(digs z.natAbs).length):Int)==0)=false,0+(digs z.natAbs).length≤(List.take 0 []++digs z.natAbs).length]:={}
theorem listZ_0 (a:Addr) (c:Nat):FunI (eZ tP zkw bw) 60 96 [.lit (.agg #[.bool false,.slice (some a) 0 c])] [0,1] [] [0,0,0,0,0,0] (aN) []:={}
theorem listY_0 (c:Nat):FunI (eZ tP zkw bw) 60 96 [.lit (.agg #[.bool false,.slice none 0 c])] [0,1] [] [0,0] (aN) []:={}
theorem small_0 (n:Int):FunI (eZ tP zkw bw) 60 94 [lI n] [] [] [1,2] (.agg [.lit (.bool (decide (vl (List.take 1 [n])<0))),.wd (vl (List.take 1 [n]))]) [1≤List.length [n],za2 (List.take 1 [n])]:={}
theorem sign_0 (a:Bool) (z:Int):FunI (eZ tP zkw bw) 60 123 [.agg [.lit (.bool a),.wd z]] [1] [] [1] (aI 0) [((↑((digs z.natAbs).length):Int)==0)=true]:={}
theorem sign_1 (a:Bool) (z:Int):FunI (eZ tP zkw bw) 60 123 [.agg [.lit (.bool a),.wd z]] [0,1] [] [1,2] (aI (-1)) [((↑((digs z.natAbs).length):Int)==0)=false,a=true]:={}
theorem sign_2 (a:Bool) (z:Int):FunI (eZ tP zkw bw) 60 123 [.agg [.lit (.bool a),.wd z]] [0,0] [] [1,2] (aI 1) [((↑((digs z.natAbs).length):Int)==0)=false,a=false]:={}
theorem minus_0 (a:Bool) (z:Int):FunI (eZ tP zkw bw) 60 105 [.agg [.lit (.bool a),.wd z]] [1] [] [1] (.agg [.lit (.bool (decide ((↑((digs z.natAbs).length):Int) > 0))),.wd z]) [(!a)=true]:={}
theorem minus_1 (a:Bool) (z:Int):FunI (eZ tP zkw bw) 60 105 [.agg [.lit (.bool a),.wd z]] [0] [] [1] (.agg [.ff,.wd z]) [(!a)=false]:={}
theorem cmpi_3 (a b:Int):FunI (eZ tP zkw bw) 60 177 [lI a,lI b] [0,0,1] [] [1,2,3] (aI (-1)) [(a != a)=false,(b != b)=false,decide (a<b)=true]:={}
theorem cmpi_4 (a b:Int):FunI (eZ tP zkw bw) 60 177 [lI a,lI b] [0,0,0,1] [] [1,2,3,4] (aI 1) [(a != a)=false,(b != b)=false,decide (a<b)=false,decide (a > b)=true]:={}
theorem cmpi_5 (a b:Int):FunI (eZ tP zkw bw) 60 177 [lI a,lI b] [0,0,0,0] [] [1,2,3,4] (aI 0) [(a != a)=false,(b != b)=false,decide (a<b)=false,decide (a > b)=false]:={}
end
theorem negL:∀(suf pre:List Int) (n:Nat) (nb:Bool) (z:Int),n=pre.length+suf.length→n≤4611686018427387904→(∀d∈suf,0≤d∧d<100000000) →
 Loops 3 tP (kZ tP 96 0) (SLs nb z n pre.length (pre++suf)) (.exit 0,SLs nb z n n (pre++suf.map fun d=>-d))
 | [],pre,n,nb,z,hn,hl,hs=>by
  simp only [List.length_nil,Nat.add_zero] at hn
  subst hn
  rw [List.append_nil,List.map_nil,List.append_nil]
  exact Loops.fin (LS.of ok2 (listL_1 nb z pre.length pre.length pre) (by(repeat' (first | exact AllC.nil | refine AllC.cons ?_ ?_));all_goals (first | exact CU.h {} | (simp []<;>omega) | assumption | rfl))) (by simp [Ex.toExit])
 | s :: suf,pre,n,nb,z,hn,hl,hs=>by
  have hs0:=hs s (by simp)
  have hk:0+Int.toNat (pre.length:Int)*1=pre.length:=by omega
  simp only [List.length_cons] at hn
  have h:=LS.of ok2 (listL_0 nb z n pre.length (pre++s :: suf)) (by
   simp only [hk,zah,zaH]
   exact(by(repeat' (first | exact AllC.nil | refine AllC.cons ?_ ?_));all_goals (first | exact CU.h {} | (simp [hn]<;>omega) | assumption | rfl)))
  simp only [hk,zah,zaH] at h
  have e:pre++(0-s) :: suf=(pre++[-s])++suf:=by simp
  have e2:(pre.length:Int)+1=((pre++[-s]).length:Nat):=by simp
  rw [e,e2] at h
  have:=negL suf (pre++[-s]) n nb z (by simp;omega) hl (fun d hd=>hs d (by simp [hd]))
  have e3:pre++(s :: suf).map (fun d=>-d)=(pre++[-s])++suf.map (fun d=>-d):=by simp
  rw [e3]
  exact Loops.go h this
theorem zbJ {z:Int} (h:z≠0):0<(digs z.natAbs).length:=by
 rcases Nat.eq_zero_or_pos (digs z.natAbs).length with h0 | h0
 ·have:=(zbI z.natAbs).1 (List.eq_nil_of_length_eq_zero h0)
  omega
 ·exact h0
theorem zd8 {z:Int} (hz:z≠0):digs z.natAbs≠[]:=by
 have hp:=zbJ hz
 intro h;rw [h] at hp;simp at hp
theorem list_fc (z:Int) (h:zag z):FC tP 96 [W z] (.ni z):=by
 unfold zag dl at h
 by_cases hz:z=0
 ·subst hz
  refine FC.cases1 fun E v hv=>?_
  cases hv with
  | @agg _ vs hl hr=>
   obtain ⟨v0,v1,rfl⟩:∃v0 v1,vs = #[v0,v1]:=by
    obtain ⟨l⟩:=vs
    match l,hl with
    | [a,b],_=>exact ⟨a,b,rfl⟩
   have h0:v0=.bool false:=(hr 0 (by simp)).lit_inv
   have h1:Rd E (.wd 0) v1:=hr 1 (by simp)
   obtain ⟨a,cap,h2,_,_⟩:=zaU (l:=[]) rfl h1
   subst h0;subst h2
   refine ⟨.lit (.agg #[.bool false,.slice a 0 cap]),.lit _,fun _=>.lit _,?_⟩
   have toni:∀(E:Env) (v:Value),Rd E (.lit (.slice none 0 0)) v→Rd E (.ni 0) v:=fun E v h=>h.toNi (l:=[]) rfl rfl
   cases a with
   | none=>exact(lZ ok2 (listY_0 cap) (by(repeat' (first | exact AllC.nil | refine AllC.cons ?_ ?_));all_goals (first | exact CU.h {} | (simp []<;>omega) | assumption | rfl))).res toni
   | some a=>exact(lZ ok2 (listZ_0 a cap) (by(repeat' (first | exact AllC.nil | refine AllC.cons ?_ ?_));all_goals (first | exact CU.h {} | (simp []<;>omega) | assumption | rfl))).res toni
 ·have hp:=zbJ hz
  have hne:digs z.natAbs≠[]:=by intro h;rw [h] at hp;simp at hp
  have hsq:∀ {l:List Int},l=aZ z→∀(E:Env) (v:Value),Rd E (.sq l) v→Rd E (.ni z) v:=fun hl E v h=>h.toNi rfl hl
  by_cases hneg:z<0
  ·have hL:=negL (digs z.natAbs) [] (digs z.natAbs).length true z (by simp) (by omega) (oZ _)
   rw [List.nil_append,List.nil_append] at hL
   have hL2:Loops 3 tP (kZ tP 96 0) (SLs true z (digs z.natAbs).length 0 (digs z.natAbs)) (.exit 0,SLs true z (digs z.natAbs).length ((digs z.natAbs).length:Int) ((digs z.natAbs).map fun d=>-d)):=hL
   have:=lZ ok2 (list_1 true z ((digs z.natAbs).map fun d=>-d) ((digs z.natAbs).length:Int)) (by
    simp only [Nat.zero_add]
    exact(by(repeat' (first | exact AllC.nil | refine AllC.cons ?_ ?_));all_goals (first | exact CU.h {} | (simp [hne]<;>omega) | assumption | rfl)))
   have e:W z=.agg [.lit (.bool true),.wd z]:=by unfold W;simp [hneg]
   rw [e]
   refine this.res (hsq ?_)
   rw [show List.take (digs z.natAbs).length ((digs z.natAbs).map fun d=>-d)=(digs z.natAbs).map fun d=>-d from by rw [← List.length_map (f:=fun d:Int=>-d)];exact List.take_length]
   unfold aZ
   rw [if_pos hneg]
  ·have:=lZ ok2 (listF_1 z) (by(repeat' (first | exact AllC.nil | refine AllC.cons ?_ ?_));all_goals (first | exact CU.h {} | (simp [hne]<;>omega) | assumption | rfl))
   have e:W z=.agg [.lit (.bool false),.wd z]:=by unfold W;simp [hneg]
   rw [e]
   refine this.res (hsq ?_)
   unfold aZ
   rw [if_neg hneg]
   simp
theorem small_fc (n:Int) (h:cZ n):FC tP 94 [lI n] (W n):=by
 have:=lZ ok2 (small_0 n) (.cons (by simp) (.cons ⟨by simp,fun d hd=>by simp at hd;subst hd;exact h⟩ .nil))
 have e:vl (List.take 1 [n])=n:=Int.add_zero n
 rw [e] at this
 exact this
theorem sign_fc (z:Int):FC tP 123 [W z] (lI z.sign):=by
 by_cases hz:z=0
 ·subst hz
  exact lZ ok2 (sign_0 _ 0) (.cons (by simp [QZ]) .nil)
 ·have hne:=zd8 hz
  by_cases hneg:z<0
  ·have:=lZ ok2 (sign_1 (decide (z<0)) z) (.cons (by simp [hne]) (.cons (by simpa using hneg) .nil))
   rw [Int.sign_eq_neg_one_of_neg hneg];exact this
  ·have:=lZ ok2 (sign_2 (decide (z<0)) z) (.cons (by simp [hne]) (.cons (by simpa using hneg) .nil))
   rw [Int.sign_eq_one_of_pos (by omega)];exact this
theorem minus_fc (z:Int):FC tP 105 [W z] (W (-z)):=by
 by_cases hneg:z<0
 ·have:=lZ ok2 (minus_1 (decide (z<0)) z) (.cons (by simpa using hneg) .nil)
  exact this.res fun E v h=>h.toW (l:=digs z.natAbs) rfl rfl (by simp;omega) (by rw [Int.natAbs_neg])
 ·have:=lZ ok2 (minus_0 (decide (z<0)) z) (.cons (by simpa using hneg) .nil)
  refine this.res fun E v h=>h.toW (l:=digs z.natAbs) rfl rfl ?_ (by rw [Int.natAbs_neg])
  by_cases hz:z=0
  ·subst hz;simp [QZ]
  ·have hp:=zbJ hz
   rw [decide_eq_decide]
   omega
def zcR (a b:Int):Int:=if a<b then -1 else if b<a then 1 else 0
theorem cmpi_fc (a b:Int):FC tP 177 [lI a,lI b] (lI (zcR a b)):=by
 unfold zcR
 by_cases h1:a<b
 ·rw [if_pos h1]
  exact lZ ok2 (cmpi_3 a b) (.cons (by simp) (.cons (by simp) (.cons (by simpa using h1) .nil)))
 ·by_cases h2:b<a
  ·rw [if_neg h1,if_pos h2]
   exact lZ ok2 (cmpi_4 a b) (.cons (by simp) (.cons (by simp) (.cons (by simpa using h1) (.cons (by simpa using h2) .nil))))
  ·rw [if_neg h1,if_neg h2]
   exact lZ ok2 (cmpi_5 a b) (.cons (by simp) (.cons (by simp) (.cons (by simpa using h1) (.cons (by simpa using h2) .nil))))
def ctr3:Ctr:=(96,c1 zag .ni) :: (94,cI cZ W) :: (123,c1 (fun _=>True) (fun z=>lI z.sign)) :: (105,c1 (fun _=>True) (fun z=>W (-z))) ::
 (177,cII (fun _ _=>True) (fun a b=>lI (zcR a b))) :: zkw
theorem znq:∀p∈ctr3,jZ tP p.1 p.2:=CAll.cons (c1_ok list_fc)<|CAll.cons (cI_ok small_fc)<|CAll.cons (c1_ok fun z _=>sign_fc z)<|CAll.cons (c1_ok fun z _=>minus_fc z) <|
 CAll.cons (cII_ok fun a b _=>cmpi_fc a b) znp
theorem ok3:(eZ tP ctr3 bw).OK:=JZ znq
noncomputable section
theorem sizesL_0 (a b i:Int):RndI (eZ tP ctr3 bw) 60 (kZ tP 144 0) 0 [] [0,1,4,5] [] ⟨sp 41 [(0,.wd a),(1,.wd b),(4,lI 0),(5,lI i)],[],[]⟩ [1,1] [] [1,2,3,4,2,5,6,7,2,3,4,2,5,6,0] (Ex.ret) (⟨sp 41 [(0,.wd a),(1,.wd b),(4,aI (zcR ((digs a.natAbs).getD i.toNat 0) ((digs b.natAbs).getD i.toNat 0))),(5,aI i)],[],[]⟩) [decide (i≥0)=true,decide (0≤i)=true,decide (i<(↑((digs a.natAbs).length):Int))=true,decide (i.toNat<(digs a.natAbs).length)=true,decide (i<(↑((digs b.natAbs).length):Int))=true,decide (i.toNat<(digs b.natAbs).length)=true,((digs a.natAbs).getD i.toNat 0 != (digs b.natAbs).getD i.toNat 0)=true]:={}
theorem sizesL_1 (a b i:Int):RndI (eZ tP ctr3 bw) 60 (kZ tP 144 0) 0 [] [0,1,4,5] [] ⟨sp 41 [(0,.wd a),(1,.wd b),(4,lI 0),(5,lI i)],[],[]⟩ [1,0] [] [1,2,3,4,2,5,6,7,8] (Ex.normal) (⟨sp 41 [(0,.wd a),(1,.wd b),(4,aI 0),(5,aI (i-1))],[],[]⟩) [decide (i≥0)=true,decide (0≤i)=true,decide (i<(↑((digs a.natAbs).length):Int))=true,decide (i.toNat<(digs a.natAbs).length)=true,decide (i<(↑((digs b.natAbs).length):Int))=true,decide (i.toNat<(digs b.natAbs).length)=true,((digs a.natAbs).getD i.toNat 0 != (digs b.natAbs).getD i.toNat 0)=false,inR .i64 (i-1)=true]:={}
theorem sizesL_2 (a b i:Int):RndI (eZ tP ctr3 bw) 60 (kZ tP 144 0) 0 [] [0,1,4,5] [] ⟨sp 41 [(0,.wd a),(1,.wd b),(4,lI 0),(5,lI i)],[],[]⟩ [0] [] [1] (Ex.exit 0) (⟨sp 41 [(0,.wd a),(1,.wd b),(4,aI 0),(5,aI i)],[],[]⟩) [decide (i≥0)=false]:={}
theorem sizes_1 (a b i c:Int):FunI (eZ tP ctr3 bw) 60 144 [.wd a,.wd b] [0] [some (zdZ tP (kZ tP 144 0) [] [0,1,4,5] [] ⟨sp 41 [(0,.wd a),(1,.wd b),(4,lI 0),(5,lI (((digs b.natAbs).length:Int)-1))],[],[]⟩ (.ret,⟨sp 41 [(0,.wd a),(1,.wd b),(4,lI c),(5,lI i)],[],[]⟩))] [1,2,3,4] (aI c) [((↑((digs a.natAbs).length):Int) != (↑((digs b.natAbs).length):Int))=false,inR .i64 ((↑((digs a.natAbs).length):Int)-1)=true,(⟨sp 41 [(0,.wd a),(1,.wd b),(4,aI 0),(5,aI ((↑((digs a.natAbs).length):Int)-1))],[],[]⟩:St)=⟨sp 41 [(0,.wd a),(1,.wd b),(4,aI 0),(5,aI ((↑((digs b.natAbs).length):Int)-1))],[],[]⟩,Loops 0 tP (kZ tP 144 0) ⟨sp 41 [(0,.wd a),(1,.wd b),(4,aI 0),(5,aI ((↑((digs b.natAbs).length):Int)-1))],[],[]⟩ (Ex.ret,⟨sp 41 [(0,.wd a),(1,.wd b),(4,aI c),(5,aI i)],[],[]⟩)]:={}
theorem sizeE_1 (a b i:Int):FunI (eZ tP ctr3 bw) 60 144 [.wd a,.wd b] [0] [some (zdZ tP (kZ tP 144 0) [] [0,1,4,5] [] ⟨sp 41 [(0,.wd a),(1,.wd b),(4,lI 0),(5,lI (((digs b.natAbs).length:Int)-1))],[],[]⟩ (.exit 0,⟨sp 41 [(0,.wd a),(1,.wd b),(4,lI 0),(5,lI i)],[],[]⟩))] [1,2,3,4] (aI 0) [((↑((digs a.natAbs).length):Int) != (↑((digs b.natAbs).length):Int))=false,inR .i64 ((↑((digs a.natAbs).length):Int)-1)=true,(⟨sp 41 [(0,.wd a),(1,.wd b),(4,aI 0),(5,aI ((↑((digs a.natAbs).length):Int)-1))],[],[]⟩:St)=⟨sp 41 [(0,.wd a),(1,.wd b),(4,aI 0),(5,aI ((↑((digs b.natAbs).length):Int)-1))],[],[]⟩,Loops 0 tP (kZ tP 144 0) ⟨sp 41 [(0,.wd a),(1,.wd b),(4,aI 0),(5,aI ((↑((digs b.natAbs).length):Int)-1))],[],[]⟩ (Ex.exit 0,⟨sp 41 [(0,.wd a),(1,.wd b),(4,aI 0),(5,aI i)],[],[]⟩)]:={}
theorem sizeN_0 (a b:Int):FunI (eZ tP ctr3 bw) 60 144 [.wd a,.wd b] [1] [] [1,0] (aI (zcR (↑((digs a.natAbs).length):Int) (↑((digs b.natAbs).length):Int))) [((↑((digs a.natAbs).length):Int) != (↑((digs b.natAbs).length):Int))=true]:={}
end
theorem top_lt {a a':List Int} (x y:Int) (d:List Int) (ha:Digs a) (ha':Digs a') (hl:a.length=a'.length) (h:x<y):vl (a++x :: d)<vl (a'++y :: d):=by
 have h1:=zfW ha
 have h2:=FZ ha'
 rw [zaK,zaK,← hl]
 simp only [vl]
 have h3:(100000000:Int) ^ a.length*(x+100000000*vl d+1)≤100000000 ^ a.length*(y+100000000*vl d):=Int.mul_le_mul_of_nonneg_left (by omega) (zn6 _)
 rw [Int.mul_add (100000000 ^ a.length) _ 1,Int.mul_one] at h3
 omega
theorem zos (l:List Int) (k:Nat) (h:k<l.length):l=l.take k++l.getD k 0 :: l.drop (k+1):=by
 have e:l.getD k 0=l[k]:=by simp [List.getD,h]
 rw [e,← List.drop_eq_getElem_cons h,List.take_append_drop]
theorem za0 {l:List Int} (h:Digs l) (k:Nat):Digs (l.take k):=fun d hd=>h d (List.mem_of_mem_take hd)
theorem zcS {l:List Int} (h:Digs l) (k:Nat):Digs (l.drop k):=fun d hd=>h d (List.mem_of_mem_drop hd)
theorem zjh (a b:Int) (hlen:(digs a.natAbs).length=(digs b.natAbs).length) (hf:(digs a.natAbs).length≤1048576):∀k:Nat,k≤(digs a.natAbs).length→(digs a.natAbs).drop k=(digs b.natAbs).drop k →
 (∃i c,c=zcR (a.natAbs:Int) (b.natAbs:Int)∧Loops 0 tP (kZ tP 144 0) ⟨sp 41 [(0,.wd a),(1,.wd b),(4,lI 0),(5,lI ((k:Int)-1))],[],[]⟩ (.ret,⟨sp 41 [(0,.wd a),(1,.wd b),(4,lI c),(5,lI i)],[],[]⟩)) ∨
 (∃i,a.natAbs=b.natAbs∧Loops 0 tP (kZ tP 144 0) ⟨sp 41 [(0,.wd a),(1,.wd b),(4,lI 0),(5,lI ((k:Int)-1))],[],[]⟩ (.exit 0,⟨sp 41 [(0,.wd a),(1,.wd b),(4,lI 0),(5,lI i)],[],[]⟩))
 | 0,hk,hd=>by
  refine .inr ⟨_,?_,Loops.fin (LS.of ok3 (sizesL_2 a b ((0:Nat)-1)) (by(repeat' (first | exact AllC.nil | refine AllC.cons ?_ ?_));all_goals (first | exact CU.h {} | (simp []<;>omega) | assumption | rfl))) (by simp [Ex.toExit])⟩
  rw [List.drop_zero,List.drop_zero] at hd
  have h1:=XZ a.natAbs
  rw [hd,XZ] at h1
  omega
 | k + 1,hk,hd=>by
  have hnat:Int.toNat (((k+1:Nat):Int)-1)=k:=by omega
  have hka:k<(digs a.natAbs).length:=by omega
  have hkb:k<(digs b.natAbs).length:=by omega
  by_cases hne:(digs a.natAbs).getD k 0=(digs b.natAbs).getD k 0
  ·have hx:((digs a.natAbs).getD k 0 != (digs b.natAbs).getD k 0)=false:=by rw [hne];exact bne_self_eq_false (α:=Int) _
   have h:=LS.of ok3 (sizesL_1 a b (((k+1:Nat):Int)-1)) (by
    rw [hnat]
    exact(by(repeat' (first | exact AllC.nil | refine AllC.cons ?_ ?_));all_goals (first | exact CU.h {} | (simp [hne,hka,hkb]<;>omega) | assumption | rfl)))
   have e:((k+1:Nat):Int)-1-1=(k:Int)-1:=by omega
   rw [e] at h
   have hd2:(digs a.natAbs).drop k=(digs b.natAbs).drop k:=by
    rw [List.drop_eq_getElem_cons hka,List.drop_eq_getElem_cons hkb,hd]
    congr 1
    simpa [List.getD,hka,hkb] using hne
   rcases zjh a b hlen hf k (by omega) hd2 with ⟨i,c,h1,h2⟩ | ⟨i,h1,h2⟩
   ·exact .inl ⟨i,c,h1,Loops.go h h2⟩
   ·exact .inr ⟨i,h1,Loops.go h h2⟩
  ·have hx:((digs a.natAbs).getD k 0 != (digs b.natAbs).getD k 0)=true:=bne_iff_ne.2 hne
   have h:=LS.of ok3 (sizesL_0 a b (((k+1:Nat):Int)-1)) (by
    rw [hnat]
    exact(by(repeat' (first | exact AllC.nil | refine AllC.cons ?_ ?_));all_goals (first | exact CU.h {} | (simp [hne,hka,hkb]<;>omega) | assumption | rfl)))
   rw [hnat] at h
   refine .inl ⟨_,_,?_,Loops.fin h (by simp [Ex.toExit])⟩
   have va:=XZ a.natAbs
   have vb:=XZ b.natAbs
   rw [zos _ k hka] at va
   rw [zos _ k hkb,← hd] at vb
   have hll:((digs a.natAbs).take k).length=((digs b.natAbs).take k).length:=by simp;omega
   unfold zcR
   by_cases hlt:(digs a.natAbs).getD k 0<(digs b.natAbs).getD k 0
   ·have:=top_lt _ _ ((digs a.natAbs).drop (k+1)) (za0 (oZ a.natAbs) k) (za0 (oZ b.natAbs) k) hll hlt
    rw [if_pos hlt,if_pos (by omega)]
   ·have:=top_lt _ _ ((digs a.natAbs).drop (k+1)) (za0 (oZ b.natAbs) k) (za0 (oZ a.natAbs) k) hll.symm (show(digs b.natAbs).getD k 0<(digs a.natAbs).getD k 0 by omega)
    rw [if_neg hlt,if_pos (by omega),if_neg (by omega),if_pos (by omega)]
theorem zb9 {m n:Nat} (h:(digs m).length<(digs n).length):m<n:=by
 have h1:=zjD m
 rcases Nat.lt_or_ge m n with h2 | h2
 ·exact h2
 ·exfalso
  have:=zab n (digs m).length (by omega)
  omega
def pDD (a b:Int):Prop:=zag a∧zag b
instance tstDD {a b:Int}:Tst (pDD a b):=inferInstanceAs (Tst (zag a∧zag b))
theorem sizes_fc (a b:Int) (h:pDD a b):FC tP 144 [.wd a,.wd b] (lI (zcR (a.natAbs:Int) (b.natAbs:Int))):=by
 obtain ⟨ha,hb⟩:=h
 unfold zag dl at ha hb
 by_cases hl:(digs a.natAbs).length=(digs b.natAbs).length
 ·rcases zjh a b hl ha _ (Nat.le_refl _) (by rw [List.drop_length,hl,List.drop_length]) with ⟨i,c,h1,h2⟩ | ⟨i,h1,h2⟩
  ·rw [hl] at h2
   rw [← h1]
   refine lZ ok3 (sizes_1 a b i c) ?_
   rw [hl]
   exact(by(repeat' (first | exact AllC.nil | refine AllC.cons ?_ ?_));all_goals (first | exact CU.h {} | (simp []<;>omega) | assumption | rfl))
  ·rw [hl] at h2
   have e:zcR (a.natAbs:Int) (b.natAbs:Int)=0:=by unfold zcR;rw [if_neg (by omega),if_neg (by omega)]
   rw [e]
   refine lZ ok3 (sizeE_1 a b i) ?_
   rw [hl]
   exact(by(repeat' (first | exact AllC.nil | refine AllC.cons ?_ ?_));all_goals (first | exact CU.h {} | (simp []<;>omega) | assumption | rfl))
 ·have:=lZ ok3 (sizeN_0 a b) (.cons (by simp;omega) .nil)
  have e:zcR ((digs a.natAbs).length:Int) ((digs b.natAbs).length:Int)=zcR (a.natAbs:Int) (b.natAbs:Int):=by
   unfold zcR
   by_cases h1:(digs a.natAbs).length<(digs b.natAbs).length
   ·have:=zb9 h1
    rw [if_pos (by omega),if_pos (by omega)]
   ·have:=zb9 (show(digs b.natAbs).length<(digs a.natAbs).length by omega)
    rw [if_neg (by omega),if_pos (by omega),if_neg (by omega),if_pos (by omega)]
  rw [← e];exact this
def ziv:Ctr:=(144,cDD pDD (fun a b=>lI (zcR (a.natAbs:Int) (b.natAbs:Int)))) :: ctr3
theorem znr:∀p∈ziv,jZ tP p.1 p.2:=CAll.cons (cDD_ok sizes_fc) znq
theorem ok4:(eZ tP ziv bw).OK:=JZ znr
end Go.Proofs.YtagbldogmjhdpaaGreatDoor
end
section
open Go Go.Ev
namespace Go.Proofs.YtagbldogmjhdpaaGreatDoor
open Go.Proofs
abbrev PZ (c d:Bool) (a b p q:Int):St:=⟨sp 97 [(2,.ref 0 0),(4,.ref 2 0),(5,.wd p),(6,.wd q),(7,.own 3 0 0 1),(8,lI 0),(31,.wd p),(32,lI ((digs p.natAbs).length:Int)),(33,lI 0)],[.flat [.lit (.bool c),.wd a] true,.flat [.lit (.bool d),.wd b] true,.flat [.lit (.bool false),.lit (.slice none 0 0)] true,.ints [] true],[3]⟩
abbrev PR (d e:Bool) (a b p q i c:Int) (n:Nat) (f:List Int):St:=⟨sp 97 [(2,.ref 0 0),(4,.ref 2 0),(5,.wd p),(6,.wd q),(7,.own 4 0 n 1),(8,lI c),(31,.wd p),(32,lI ((digs p.natAbs).length:Int)),(33,lI i)],[.flat [.lit (.bool d),.wd a] true,.flat [.lit (.bool e),.wd b] true,.flat [.lit (.bool false),.lit (.slice none 0 0)] true,.dead,.ints f true],[3]⟩
abbrev PL (c d:Bool) (a b q e i:Int) (n:Nat) (l:List Int):St:=⟨sp 47 [(0,.own 4 0 n 1),(1,.wd q),(5,lI e),(7,.own 4 0 n 1),(8,lI (n:Int)),(9,lI i)],[.flat [.lit (.bool c),.wd a] true,.flat [.lit (.bool d),.wd b] true,.flat [.lit (.bool false),.lit (.slice none 0 0)] true,.dead,.ints l true],[3,4]⟩
end Go.Proofs.YtagbldogmjhdpaaGreatDoor
end
section
open Go Go.Ev Go.RowKit
namespace Go.Proofs.YtagbldogmjhdpaaGreatDoor
open Go.Proofs
set_option maxRecDepth 100000
set_option maxHeartbeats 1000000
set_option linter.unusedVariables false
set_option linter.unusedSimpArgs false
noncomputable section
theorem plZ_0 (c d:Bool) (a b p q:Int):RndI (eZ tP ziv bw) 60 (kZ tP 104 0) 4 [5] [2,4,5,6,7,8,31,32,33] [3] (PZ c d a b p q) [1,1] [] [1,0,1,2,3,4,0,4,5,6,0,7,0,0,0,0,8,0] (Ex.normal) (⟨sp 97 [(2,.ref 0 0),(4,.ref 2 0),(5,.wd p),(6,.wd q),(7,.own 4 0 1 1),(8,aI (Int.tdiv ((digs p.natAbs).getD 0 0+0+(digs q.natAbs).getD 0 0) 100000000)),(31,.wd p),(32,aI (↑((digs p.natAbs).length):Int)),(33,aI 1)],[.flat [.lit (.bool c),.wd a] true,.flat [.lit (.bool d),.wd b] true,.flat [aF,aN] true,.dead,.ints [Int.tmod ((digs p.natAbs).getD 0 0+0+(digs q.natAbs).getD 0 0) 100000000] true],[3]⟩) [decide (0<(↑((digs p.natAbs).length):Int))=true,decide (0<(digs p.natAbs).length)=true,inR .i64 ((digs p.natAbs).getD 0 0+0)=true,decide (0<(↑((digs q.natAbs).length):Int))=true,decide (0<(digs q.natAbs).length)=true,inR .i64 ((digs p.natAbs).getD 0 0+0+(digs q.natAbs).getD 0 0)=true,inR .i64 (Int.tdiv ((digs p.natAbs).getD 0 0+0+(digs q.natAbs).getD 0 0) 100000000)=true,decide ((List.take 1 [Int.tmod ((digs p.natAbs).getD 0 0+0+(digs q.natAbs).getD 0 0) 100000000]).length=1)=true]:={}
theorem plZ_1 (c d:Bool) (a b p q:Int):RndI (eZ tP ziv bw) 60 (kZ tP 104 0) 4 [5] [2,4,5,6,7,8,31,32,33] [3] (PZ c d a b p q) [1,0] [] [1,0,1,2,3,4,0,5,0,0,0,0,6,0] (Ex.normal) (⟨sp 97 [(2,.ref 0 0),(4,.ref 2 0),(5,.wd p),(6,.wd q),(7,.own 4 0 1 1),(8,aI (Int.tdiv ((digs p.natAbs).getD 0 0+0) 100000000)),(31,.wd p),(32,aI (↑((digs p.natAbs).length):Int)),(33,aI 1)],[.flat [.lit (.bool c),.wd a] true,.flat [.lit (.bool d),.wd b] true,.flat [aF,aN] true,.dead,.ints [Int.tmod ((digs p.natAbs).getD 0 0+0) 100000000] true],[3]⟩) [decide (0<(↑((digs p.natAbs).length):Int))=true,decide (0<(digs p.natAbs).length)=true,inR .i64 ((digs p.natAbs).getD 0 0+0)=true,decide (0<(↑((digs q.natAbs).length):Int))=false,inR .i64 (Int.tdiv ((digs p.natAbs).getD 0 0+0) 100000000)=true,decide ((List.take 1 [Int.tmod ((digs p.natAbs).getD 0 0+0) 100000000]).length=1)=true]:={}
theorem plX_2 (c d:Bool) (a b p q:Int):RndI (eZ tP ziv bw) 60 (kZ tP 104 0) 4 [] [2,4,5,6,7,8,31,32,33] [3] (PZ c d a b p q) [0] [] [1] (Ex.exit 0) (⟨sp 97 [(2,.ref 0 0),(4,.ref 2 0),(5,.wd p),(6,.wd q),(7,.own 3 0 0 1),(8,aI 0),(31,.wd p),(32,aI (↑((digs p.natAbs).length):Int)),(33,aI 0)],[.flat [.lit (.bool c),.wd a] true,.flat [.lit (.bool d),.wd b] true,.flat [aF,aN] true,.ints [] true],[3]⟩) [decide (0<(↑((digs p.natAbs).length):Int))=false]:={}
theorem plR_0 (d e:Bool) (a b p q i c:Int) (n:Nat) (f:List Int):RndI (eZ tP ziv bw) 60 (kZ tP 104 0) 4 [6] [2,4,5,6,7,8,31,32,33] [3] (PR d e a b p q i c n f) [1,1] [] [1,2,1,3,4,5,2,5,6,7,0,8,0,9,10,11,12,13] (Ex.normal) (⟨sp 97 [(2,.ref 0 0),(4,.ref 2 0),(5,.wd p),(6,.wd q),(7,.own 4 0 (n+1) 1),(8,aI (Int.tdiv ((digs p.natAbs).getD i.toNat 0+c+(digs q.natAbs).getD i.toNat 0) 100000000)),(31,.wd p),(32,aI (↑((digs p.natAbs).length):Int)),(33,aI (i+1))],[.flat [.lit (.bool d),.wd a] true,.flat [.lit (.bool e),.wd b] true,.flat [aF,aN] true,.dead,.ints (f.take n++List.take 1 [Int.tmod ((digs p.natAbs).getD i.toNat 0+c+(digs q.natAbs).getD i.toNat 0) 100000000]) true],[3]⟩) [decide (i<(↑((digs p.natAbs).length):Int))=true,decide (0≤i)=true,decide (i.toNat<(digs p.natAbs).length)=true,inR .i64 ((digs p.natAbs).getD i.toNat 0+c)=true,decide (i<(↑((digs q.natAbs).length):Int))=true,decide (i.toNat<(digs q.natAbs).length)=true,inR .i64 ((digs p.natAbs).getD i.toNat 0+c+(digs q.natAbs).getD i.toNat 0)=true,inR .i64 (Int.tdiv ((digs p.natAbs).getD i.toNat 0+c+(digs q.natAbs).getD i.toNat 0) 100000000)=true,decide ((n+1)*8≤140737488355328)=true,decide (n+1≤4611686018427387904)=true,decide (n≤f.length)=true,decide ((List.take 1 [Int.tmod ((digs p.natAbs).getD i.toNat 0+c+(digs q.natAbs).getD i.toNat 0) 100000000]).length=1)=true,inR .i64 (i+1)=true]:={}
theorem plR_1 (d e:Bool) (a b p q i c:Int) (n:Nat) (f:List Int):RndI (eZ tP ziv bw) 60 (kZ tP 104 0) 4 [6] [2,4,5,6,7,8,31,32,33] [3] (PR d e a b p q i c n f) [1,0] [] [1,2,1,3,4,5,0,6,0,7,8,9,10,11] (Ex.normal) (⟨sp 97 [(2,.ref 0 0),(4,.ref 2 0),(5,.wd p),(6,.wd q),(7,.own 4 0 (n+1) 1),(8,aI (Int.tdiv ((digs p.natAbs).getD i.toNat 0+c) 100000000)),(31,.wd p),(32,aI (↑((digs p.natAbs).length):Int)),(33,aI (i+1))],[.flat [.lit (.bool d),.wd a] true,.flat [.lit (.bool e),.wd b] true,.flat [aF,aN] true,.dead,.ints (f.take n++List.take 1 [Int.tmod ((digs p.natAbs).getD i.toNat 0+c) 100000000]) true],[3]⟩) [decide (i<(↑((digs p.natAbs).length):Int))=true,decide (0≤i)=true,decide (i.toNat<(digs p.natAbs).length)=true,inR .i64 ((digs p.natAbs).getD i.toNat 0+c)=true,decide (i<(↑((digs q.natAbs).length):Int))=false,inR .i64 (Int.tdiv ((digs p.natAbs).getD i.toNat 0+c) 100000000)=true,decide ((n+1)*8≤140737488355328)=true,decide (n+1≤4611686018427387904)=true,decide (n≤f.length)=true,decide ((List.take 1 [Int.tmod ((digs p.natAbs).getD i.toNat 0+c) 100000000]).length=1)=true,inR .i64 (i+1)=true]:={}
theorem plE_2 (d e:Bool) (a b p q i c:Int) (n:Nat) (f:List Int):RndI (eZ tP ziv bw) 60 (kZ tP 104 0) 4 [4] [2,4,5,6,7,8,31,32,33] [3] (PR d e a b p q i c n f) [0] [] [1] (Ex.exit 0) (⟨sp 97 [(2,.ref 0 0),(4,.ref 2 0),(5,.wd p),(6,.wd q),(7,.own 4 0 n 1),(8,aI c),(31,.wd p),(32,aI (↑((digs p.natAbs).length):Int)),(33,aI i)],[.flat [.lit (.bool d),.wd a] true,.flat [.lit (.bool e),.wd b] true,.flat [aF,aN] true,.dead,.ints f true],[3]⟩) [decide (i<(↑((digs p.natAbs).length):Int))=false]:={}
theorem leL_0 (c d:Bool) (a b q e i:Int) (n:Nat) (l:List Int):RndI (eZ tP ziv bw) 60 (kZ tP 145 0) 5 [] [0,1,5,7,8,9] [3,4] (PL c d a b q e i n l) [1,1,1] [] [1,2,1,3,4,2,1,3,5,2,1,2,5,6,7,8,2,1,7,2,1,9,10,2,1,9,11,2,1,9,12] (Ex.normal) (⟨sp 47 [(0,.own 4 0 n 1),(1,.wd q),(5,aI 1),(7,.own 4 0 n 1),(8,aI (n:Int)),(9,aI (i+1))],[.flat [.lit (.bool c),.wd a] true,.flat [.lit (.bool d),.wd b] true,.flat [aF,aN] true,.dead,.ints (((l.set (0+i.toNat*1) (l.getD (0+i.toNat*1) 0-e)).set (0+i.toNat*1) ((l.set (0+i.toNat*1) (l.getD (0+i.toNat*1) 0-e)).getD (0+i.toNat*1) 0-(digs q.natAbs).getD i.toNat 0)).set (0+i.toNat*1) (((l.set (0+i.toNat*1) (l.getD (0+i.toNat*1) 0-e)).set (0+i.toNat*1) ((l.set (0+i.toNat*1) (l.getD (0+i.toNat*1) 0-e)).getD (0+i.toNat*1) 0-(digs q.natAbs).getD i.toNat 0)).getD (0+i.toNat*1) 0+100000000)) true],[3,4]⟩) [decide (i<(n:Int))=true,decide (0≤i)=true,decide (0+i.toNat*1<l.length)=true,inR .i64 (l.getD (0+i.toNat*1) 0-e)=true,decide (i<(↑((digs q.natAbs).length):Int))=true,decide (i.toNat<(digs q.natAbs).length)=true,decide (0+i.toNat*1<(l.set (0+i.toNat*1) (l.getD (0+i.toNat*1) 0-e)).length)=true,inR .i64 ((l.set (0+i.toNat*1) (l.getD (0+i.toNat*1) 0-e)).getD (0+i.toNat*1) 0-(digs q.natAbs).getD i.toNat 0)=true,decide (0+i.toNat*1<((l.set (0+i.toNat*1) (l.getD (0+i.toNat*1) 0-e)).set (0+i.toNat*1) ((l.set (0+i.toNat*1) (l.getD (0+i.toNat*1) 0-e)).getD (0+i.toNat*1) 0-(digs q.natAbs).getD i.toNat 0)).length)=true,decide (((l.set (0+i.toNat*1) (l.getD (0+i.toNat*1) 0-e)).set (0+i.toNat*1) ((l.set (0+i.toNat*1) (l.getD (0+i.toNat*1) 0-e)).getD (0+i.toNat*1) 0-(digs q.natAbs).getD i.toNat 0)).getD (0+i.toNat*1) 0<0)=true,inR .i64 (((l.set (0+i.toNat*1) (l.getD (0+i.toNat*1) 0-e)).set (0+i.toNat*1) ((l.set (0+i.toNat*1) (l.getD (0+i.toNat*1) 0-e)).getD (0+i.toNat*1) 0-(digs q.natAbs).getD i.toNat 0)).getD (0+i.toNat*1) 0+100000000)=true,inR .i64 (i+1)=true]:={}
theorem leL_1 (c d:Bool) (a b q e i:Int) (n:Nat) (l:List Int):RndI (eZ tP ziv bw) 60 (kZ tP 145 0) 5 [] [0,1,5,7,8,9] [3,4] (PL c d a b q e i n l) [1,1,0] [] [1,2,1,3,4,2,1,3,5,2,1,2,5,6,7,8,2,1,7,2,1,9,10,11] (Ex.normal) (⟨sp 47 [(0,.own 4 0 n 1),(1,.wd q),(5,aI 0),(7,.own 4 0 n 1),(8,aI (n:Int)),(9,aI (i+1))],[.flat [.lit (.bool c),.wd a] true,.flat [.lit (.bool d),.wd b] true,.flat [aF,aN] true,.dead,.ints ((l.set (0+i.toNat*1) (l.getD (0+i.toNat*1) 0-e)).set (0+i.toNat*1) ((l.set (0+i.toNat*1) (l.getD (0+i.toNat*1) 0-e)).getD (0+i.toNat*1) 0-(digs q.natAbs).getD i.toNat 0)) true],[3,4]⟩) [decide (i<(n:Int))=true,decide (0≤i)=true,decide (0+i.toNat*1<l.length)=true,inR .i64 (l.getD (0+i.toNat*1) 0-e)=true,decide (i<(↑((digs q.natAbs).length):Int))=true,decide (i.toNat<(digs q.natAbs).length)=true,decide (0+i.toNat*1<(l.set (0+i.toNat*1) (l.getD (0+i.toNat*1) 0-e)).length)=true,inR .i64 ((l.set (0+i.toNat*1) (l.getD (0+i.toNat*1) 0-e)).getD (0+i.toNat*1) 0-(digs q.natAbs).getD i.toNat 0)=true,decide (0+i.toNat*1<((l.set (0+i.toNat*1) (l.getD (0+i.toNat*1) 0-e)).set (0+i.toNat*1) ((l.set (0+i.toNat*1) (l.getD (0+i.toNat*1) 0-e)).getD (0+i.toNat*1) 0-(digs q.natAbs).getD i.toNat 0)).length)=true,decide (((l.set (0+i.toNat*1) (l.getD (0+i.toNat*1) 0-e)).set (0+i.toNat*1) ((l.set (0+i.toNat*1) (l.getD (0+i.toNat*1) 0-e)).getD (0+i.toNat*1) 0-(digs q.natAbs).getD i.toNat 0)).getD (0+i.toNat*1) 0<0)=false,inR .i64 (i+1)=true]:={}
theorem leL_2 (c d:Bool) (a b q e i:Int) (n:Nat) (l:List Int):RndI (eZ tP ziv bw) 60 (kZ tP 145 0) 5 [] [0,1,5,7,8,9] [3,4] (PL c d a b q e i n l) [1,0,1] [] [1,2,1,3,4,2,1,3,5,2,1,6,7,2,1,6,8,2,1,6,9] (Ex.normal) (⟨sp 47 [(0,.own 4 0 n 1),(1,.wd q),(5,aI 1),(7,.own 4 0 n 1),(8,aI (n:Int)),(9,aI (i+1))],[.flat [.lit (.bool c),.wd a] true,.flat [.lit (.bool d),.wd b] true,.flat [aF,aN] true,.dead,.ints ((l.set (0+i.toNat*1) (l.getD (0+i.toNat*1) 0-e)).set (0+i.toNat*1) ((l.set (0+i.toNat*1) (l.getD (0+i.toNat*1) 0-e)).getD (0+i.toNat*1) 0+100000000)) true],[3,4]⟩) [decide (i<(n:Int))=true,decide (0≤i)=true,decide (0+i.toNat*1<l.length)=true,inR .i64 (l.getD (0+i.toNat*1) 0-e)=true,decide (i<(↑((digs q.natAbs).length):Int))=false,decide (0+i.toNat*1<(l.set (0+i.toNat*1) (l.getD (0+i.toNat*1) 0-e)).length)=true,decide ((l.set (0+i.toNat*1) (l.getD (0+i.toNat*1) 0-e)).getD (0+i.toNat*1) 0<0)=true,inR .i64 ((l.set (0+i.toNat*1) (l.getD (0+i.toNat*1) 0-e)).getD (0+i.toNat*1) 0+100000000)=true,inR .i64 (i+1)=true]:={}
theorem leL_3 (c d:Bool) (a b q e i:Int) (n:Nat) (l:List Int):RndI (eZ tP ziv bw) 60 (kZ tP 145 0) 5 [] [0,1,5,7,8,9] [3,4] (PL c d a b q e i n l) [1,0,0] [] [1,2,1,3,4,2,1,3,5,2,1,6,7,8] (Ex.normal) (⟨sp 47 [(0,.own 4 0 n 1),(1,.wd q),(5,aI 0),(7,.own 4 0 n 1),(8,aI (n:Int)),(9,aI (i+1))],[.flat [.lit (.bool c),.wd a] true,.flat [.lit (.bool d),.wd b] true,.flat [aF,aN] true,.dead,.ints (l.set (0+i.toNat*1) (l.getD (0+i.toNat*1) 0-e)) true],[3,4]⟩) [decide (i<(n:Int))=true,decide (0≤i)=true,decide (0+i.toNat*1<l.length)=true,inR .i64 (l.getD (0+i.toNat*1) 0-e)=true,decide (i<(↑((digs q.natAbs).length):Int))=false,decide (0+i.toNat*1<(l.set (0+i.toNat*1) (l.getD (0+i.toNat*1) 0-e)).length)=true,decide ((l.set (0+i.toNat*1) (l.getD (0+i.toNat*1) 0-e)).getD (0+i.toNat*1) 0<0)=false,inR .i64 (i+1)=true]:={}
theorem leL_4 (c d:Bool) (a b q e i:Int) (n:Nat) (l:List Int):RndI (eZ tP ziv bw) 60 (kZ tP 145 0) 5 [] [0,1,5,7,8,9] [3,4] (PL c d a b q e i n l) [0] [] [1] (Ex.exit 0) (⟨sp 47 [(0,.own 4 0 n 1),(1,.wd q),(5,aI e),(7,.own 4 0 n 1),(8,aI (n:Int)),(9,aI i)],[.flat [.lit (.bool c),.wd a] true,.flat [.lit (.bool d),.wd b] true,.flat [aF,aN] true,.dead,.ints l true],[3,4]⟩) [decide (i<(n:Int))=false]:={}
theorem plA_2 (d e:Bool) (a b i c:Int) (n:Nat) (f:List Int):FunI (eZ tP ziv bw) 60 104 [.agg [.lit (.bool d),.wd a],.agg [.lit (.bool e),.wd b]] [1,0,1] [some (zdZ tP (kZ tP 104 0) [] [2,4,5,6,7,8,31,32,33] [3] (PZ d e a b a b) (.exit 0,PR d e a b a b i c n f))] [1,2,3,0,4,5,6,0,7,8,9,10,11,0,12] (.agg [.lit (.bool d),.sq ((f.take n++List.take 1 [c]).take (n+1))]) [(d==e)=true,decide ((↑((digs a.natAbs).length):Int)<(↑((digs b.natAbs).length):Int))=false,inR .i64 ((↑((digs a.natAbs).length):Int)+1)=true,decide (0≤(↑((digs a.natAbs).length):Int)+1)=true,decide (8*((↑((digs a.natAbs).length):Int)+1)≤281474976710656)=true,decide ((↑((digs a.natAbs).length):Int)+1≤9223372036854775807)=true,Loops 4 tP (kZ tP 104 0) ⟨sp 97 [(2,.ref 0 0),(4,.ref 2 0),(5,.wd a),(6,.wd b),(7,.own 3 0 0 1),(8,aI 0),(31,.wd a),(32,aI (↑((digs a.natAbs).length):Int)),(33,aI 0)],[.flat [.lit (.bool d),.wd a] true,.flat [.lit (.bool e),.wd b] true,.flat [aF,aN] true,.ints [] true],[3]⟩ (Ex.exit 0,⟨sp 97 [(2,.ref 0 0),(4,.ref 2 0),(5,.wd a),(6,.wd b),(7,.own 4 0 n 1),(8,aI c),(31,.wd a),(32,aI (↑((digs a.natAbs).length):Int)),(33,aI i)],[.flat [.lit (.bool d),.wd a] true,.flat [.lit (.bool e),.wd b] true,.flat [aF,aN] true,.dead,.ints f true],[3]⟩),decide (c > 0)=true,decide ((n+1)*8≤140737488355328)=true,decide (n+1≤4611686018427387904)=true,decide (n≤f.length)=true,n+1≤(f.take n++List.take 1 [c]).length]:={}
theorem plA_3 (d e:Bool) (a b i c:Int) (n:Nat) (f:List Int):FunI (eZ tP ziv bw) 60 104 [.agg [.lit (.bool d),.wd a],.agg [.lit (.bool e),.wd b]] [1,0,0] [some (zdZ tP (kZ tP 104 0) [] [2,4,5,6,7,8,31,32,33] [3] (PZ d e a b a b) (.exit 0,PR d e a b a b i c n f))] [1,2,3,0,4,5,6,0,7,8,9] (.agg [.lit (.bool d),.sq (f.take n)]) [(d==e)=true,decide ((↑((digs a.natAbs).length):Int)<(↑((digs b.natAbs).length):Int))=false,inR .i64 ((↑((digs a.natAbs).length):Int)+1)=true,decide (0≤(↑((digs a.natAbs).length):Int)+1)=true,decide (8*((↑((digs a.natAbs).length):Int)+1)≤281474976710656)=true,decide ((↑((digs a.natAbs).length):Int)+1≤9223372036854775807)=true,Loops 4 tP (kZ tP 104 0) ⟨sp 97 [(2,.ref 0 0),(4,.ref 2 0),(5,.wd a),(6,.wd b),(7,.own 3 0 0 1),(8,aI 0),(31,.wd a),(32,aI (↑((digs a.natAbs).length):Int)),(33,aI 0)],[.flat [.lit (.bool d),.wd a] true,.flat [.lit (.bool e),.wd b] true,.flat [aF,aN] true,.ints [] true],[3]⟩ (Ex.exit 0,⟨sp 97 [(2,.ref 0 0),(4,.ref 2 0),(5,.wd a),(6,.wd b),(7,.own 4 0 n 1),(8,aI c),(31,.wd a),(32,aI (↑((digs a.natAbs).length):Int)),(33,aI i)],[.flat [.lit (.bool d),.wd a] true,.flat [.lit (.bool e),.wd b] true,.flat [aF,aN] true,.dead,.ints f true],[3]⟩),decide (c > 0)=false,n≤f.length]:={}
theorem plB_0 (d e:Bool) (a b i c:Int) (n:Nat) (f:List Int):FunI (eZ tP ziv bw) 60 104 [.agg [.lit (.bool d),.wd a],.agg [.lit (.bool e),.wd b]] [1,1,1] [some (zdZ tP (kZ tP 104 0) [] [2,4,5,6,7,8,31,32,33] [3] (PZ d e a b b a) (.exit 0,PR d e a b b a i c n f))] [1,2,3,0,4,5,6,0,7,8,9,10,11,0,12] (.agg [.lit (.bool d),.sq ((f.take n++List.take 1 [c]).take (n+1))]) [(d==e)=true,decide ((↑((digs a.natAbs).length):Int)<(↑((digs b.natAbs).length):Int))=true,inR .i64 ((↑((digs b.natAbs).length):Int)+1)=true,decide (0≤(↑((digs b.natAbs).length):Int)+1)=true,decide (8*((↑((digs b.natAbs).length):Int)+1)≤281474976710656)=true,decide ((↑((digs b.natAbs).length):Int)+1≤9223372036854775807)=true,Loops 4 tP (kZ tP 104 0) ⟨sp 97 [(2,.ref 0 0),(4,.ref 2 0),(5,.wd b),(6,.wd a),(7,.own 3 0 0 1),(8,aI 0),(31,.wd b),(32,aI (↑((digs b.natAbs).length):Int)),(33,aI 0)],[.flat [.lit (.bool d),.wd a] true,.flat [.lit (.bool e),.wd b] true,.flat [aF,aN] true,.ints [] true],[3]⟩ (Ex.exit 0,⟨sp 97 [(2,.ref 0 0),(4,.ref 2 0),(5,.wd b),(6,.wd a),(7,.own 4 0 n 1),(8,aI c),(31,.wd b),(32,aI (↑((digs b.natAbs).length):Int)),(33,aI i)],[.flat [.lit (.bool d),.wd a] true,.flat [.lit (.bool e),.wd b] true,.flat [aF,aN] true,.dead,.ints f true],[3]⟩),decide (c > 0)=true,decide ((n+1)*8≤140737488355328)=true,decide (n+1≤4611686018427387904)=true,decide (n≤f.length)=true,n+1≤(f.take n++List.take 1 [c]).length]:={}
theorem plB_1 (d e:Bool) (a b i c:Int) (n:Nat) (f:List Int):FunI (eZ tP ziv bw) 60 104 [.agg [.lit (.bool d),.wd a],.agg [.lit (.bool e),.wd b]] [1,1,0] [some (zdZ tP (kZ tP 104 0) [] [2,4,5,6,7,8,31,32,33] [3] (PZ d e a b b a) (.exit 0,PR d e a b b a i c n f))] [1,2,3,0,4,5,6,0,7,8,9] (.agg [.lit (.bool d),.sq (f.take n)]) [(d==e)=true,decide ((↑((digs a.natAbs).length):Int)<(↑((digs b.natAbs).length):Int))=true,inR .i64 ((↑((digs b.natAbs).length):Int)+1)=true,decide (0≤(↑((digs b.natAbs).length):Int)+1)=true,decide (8*((↑((digs b.natAbs).length):Int)+1)≤281474976710656)=true,decide ((↑((digs b.natAbs).length):Int)+1≤9223372036854775807)=true,Loops 4 tP (kZ tP 104 0) ⟨sp 97 [(2,.ref 0 0),(4,.ref 2 0),(5,.wd b),(6,.wd a),(7,.own 3 0 0 1),(8,aI 0),(31,.wd b),(32,aI (↑((digs b.natAbs).length):Int)),(33,aI 0)],[.flat [.lit (.bool d),.wd a] true,.flat [.lit (.bool e),.wd b] true,.flat [aF,aN] true,.ints [] true],[3]⟩ (Ex.exit 0,⟨sp 97 [(2,.ref 0 0),(4,.ref 2 0),(5,.wd b),(6,.wd a),(7,.own 4 0 n 1),(8,aI c),(31,.wd b),(32,aI (↑((digs b.natAbs).length):Int)),(33,aI i)],[.flat [.lit (.bool d),.wd a] true,.flat [.lit (.bool e),.wd b] true,.flat [aF,aN] true,.dead,.ints f true],[3]⟩),decide (c > 0)=false,n≤f.length]:={}
abbrev zn5 (c d:Bool) (a b:Int):St:=⟨sp 97 [(2,.ref 0 0),(4,.ref 2 0),(5,.wd a),(6,.wd b),(7,.own 3 0 0 1),(8,aI 0),(31,.wd a),(32,aI (↑((digs a.natAbs).length):Int)),(33,aI 0)],[.flat [.lit (.bool c),.wd a] true,.flat [.lit (.bool d),.wd b] true,.flat [aF,aN] true,.ints [] true],[3]⟩
theorem plO_1 (c d:Bool) (a b:Int):FunI (eZ tP ziv bw) 60 104 [.agg [.lit (.bool c),.wd a],.agg [.lit (.bool d),.wd b]] [1,0,0] [some (zdZ tP (kZ tP 104 0) [] [2,4,5,6,7,8,31,32,33] [3] (PZ c d a b a b) (.exit 0,PZ c d a b a b))] [1,2,3,0,4,5,6,0,7,0,8] (.agg [.lit (.bool c),.sq []]) [(c==d)=true,decide ((↑((digs a.natAbs).length):Int)<(↑((digs b.natAbs).length):Int))=false,inR .i64 ((↑((digs a.natAbs).length):Int)+1)=true,decide (0≤(↑((digs a.natAbs).length):Int)+1)=true,decide (8*((↑((digs a.natAbs).length):Int)+1)≤281474976710656)=true,decide ((↑((digs a.natAbs).length):Int)+1≤9223372036854775807)=true,Loops 4 tP (kZ tP 104 0) (zn5 c d a b) (Ex.exit 0,(zn5 c d a b)),0≤0]:={}
abbrev zn3 (c d:Bool) (a b:Int):St:=⟨sp 47 [(0,.own 4 0 (digs a.natAbs).length 1),(1,.wd b),(5,aI 0),(7,.own 4 0 (digs a.natAbs).length 1),(8,aI (↑((digs a.natAbs).length):Int)),(9,aI 0)],[.flat [.lit (.bool c),.wd a] true,.flat [.lit (.bool d),.wd b] true,.flat [aF,aN] true,.dead,.ints (digs a.natAbs) true],[3,4]⟩
theorem plC_1 (c d:Bool) (a b i:Int) (l:List Int):FunI (eZ tP ziv bw) 60 104 [.agg [.lit (.bool c),.wd a],.agg [.lit (.bool d),.wd b]] [0,0,1] [some (zdZ tP (kZ tP 145 0) [] [0,1,5,7,8,9] [3,4] (PL c d a b b 0 0 (digs a.natAbs).length (digs a.natAbs)) (.exit 0,PL c d a b b 0 i (digs a.natAbs).length l))] [1,2,3,4,5,6,7,0,8,9,10,11,12] (.agg [.lit (.bool c),.sq (trm (l.take (digs a.natAbs).length))]) [(c==d)=false,pDD a b,(zcR (a.natAbs:Int) (b.natAbs:Int)==0)=false,(zcR (a.natAbs:Int) (b.natAbs:Int)==1)=true,(!(digs a.natAbs).isEmpty)=true,decide ((0+(digs a.natAbs).length)*8≤140737488355328)=true,decide (0+(digs a.natAbs).length≤4611686018427387904)=true,decide ((digs a.natAbs).length=(digs a.natAbs).length)=true,(⟨sp 47 [(0,.own 4 0 (0+(digs a.natAbs).length) 1),(1,.wd b),(5,aI 0),(7,.own 4 0 (0+(digs a.natAbs).length) 1),(8,aI (↑(0+(digs a.natAbs).length):Int)),(9,aI 0)],[.flat [.lit (.bool c),.wd a] true,.flat [.lit (.bool d),.wd b] true,.flat [aF,aN] true,.dead,.ints (List.take 0 []++digs a.natAbs) true],[3,4]⟩:St)=(zn3 c d a b),Loops 5 tP (kZ tP 145 0) (zn3 c d a b) (Ex.exit 0,⟨sp 47 [(0,.own 4 0 (digs a.natAbs).length 1),(1,.wd b),(5,aI 0),(7,.own 4 0 (digs a.natAbs).length 1),(8,aI (↑((digs a.natAbs).length):Int)),(9,aI i)],[.flat [.lit (.bool c),.wd a] true,.flat [.lit (.bool d),.wd b] true,.flat [aF,aN] true,.dead,.ints l true],[3,4]⟩),(digs a.natAbs).length≤l.length,MZ (l.take (digs a.natAbs).length)]:={}
abbrev zn4 (c d:Bool) (a b:Int):St:=⟨sp 47 [(0,.own 4 0 (digs b.natAbs).length 1),(1,.wd a),(5,aI 0),(7,.own 4 0 (digs b.natAbs).length 1),(8,aI (↑((digs b.natAbs).length):Int)),(9,aI 0)],[.flat [.lit (.bool c),.wd a] true,.flat [.lit (.bool d),.wd b] true,.flat [aF,aN] true,.dead,.ints (digs b.natAbs) true],[3,4]⟩
theorem plD_2 (c d:Bool) (a b i:Int) (l:List Int):FunI (eZ tP ziv bw) 60 104 [.agg [.lit (.bool c),.wd a],.agg [.lit (.bool d),.wd b]] [0,0,0] [some (zdZ tP (kZ tP 145 0) [] [0,1,5,7,8,9] [3,4] (PL c d a b a 0 0 (digs b.natAbs).length (digs b.natAbs)) (.exit 0,PL c d a b a 0 i (digs b.natAbs).length l))] [1,2,3,4,5,6,7,0,8,9,10,11,12] (.agg [.lit (.bool d),.sq (trm (l.take (digs b.natAbs).length))]) [(c==d)=false,pDD a b,(zcR (a.natAbs:Int) (b.natAbs:Int)==0)=false,(zcR (a.natAbs:Int) (b.natAbs:Int)==1)=false,(!(digs b.natAbs).isEmpty)=true,decide ((0+(digs b.natAbs).length)*8≤140737488355328)=true,decide (0+(digs b.natAbs).length≤4611686018427387904)=true,decide ((digs b.natAbs).length=(digs b.natAbs).length)=true,(⟨sp 47 [(0,.own 4 0 (0+(digs b.natAbs).length) 1),(1,.wd a),(5,aI 0),(7,.own 4 0 (0+(digs b.natAbs).length) 1),(8,aI (↑(0+(digs b.natAbs).length):Int)),(9,aI 0)],[.flat [.lit (.bool c),.wd a] true,.flat [.lit (.bool d),.wd b] true,.flat [aF,aN] true,.dead,.ints (List.take 0 []++digs b.natAbs) true],[3,4]⟩:St)=(zn4 c d a b),Loops 5 tP (kZ tP 145 0) (zn4 c d a b) (Ex.exit 0,⟨sp 47 [(0,.own 4 0 (digs b.natAbs).length 1),(1,.wd a),(5,aI 0),(7,.own 4 0 (digs b.natAbs).length 1),(8,aI (↑((digs b.natAbs).length):Int)),(9,aI i)],[.flat [.lit (.bool c),.wd a] true,.flat [.lit (.bool d),.wd b] true,.flat [aF,aN] true,.dead,.ints l true],[3,4]⟩),(digs b.natAbs).length≤l.length,MZ (l.take (digs b.natAbs).length)]:={}
theorem plN_0 (c d:Bool) (a b:Int):FunI (eZ tP ziv bw) 60 104 [.agg [.lit (.bool c),.wd a],.agg [.lit (.bool d),.wd b]] [0,1] [] [1,2,3] (.agg [aF,aN]) [(c==d)=false,pDD a b,(zcR (a.natAbs:Int) (b.natAbs:Int)==0)=true]:={}
end
theorem zan (l:List Int) (i:Nat):vl (l.drop i)=l.getD i 0+100000000*vl (l.drop (i+1)):=by
 by_cases h:i<l.length
 ·rw [List.drop_eq_getElem_cons h]
  simp [vl,List.getD,h]
 ·rw [List.drop_eq_nil_of_le (by omega),List.drop_eq_nil_of_le (by omega)]
  simp [vl,List.getD,h]
theorem GZ {l:List Int} (h:Digs l) (i:Nat):0≤l.getD i 0∧l.getD i 0<100000000:=by
 by_cases hi:i<l.length
 ·have:l.getD i 0=l[i]:=by simp [List.getD,hi]
  rw [this];exact h _ (List.getElem_mem hi)
 simp_all
theorem zcT {l:List Int} (h:Digs l) {d:Int} (h0:0≤d) (h1:d<100000000):Digs (l++[d]):=by
 intro x hx
 rcases List.mem_append.1 hx with hx | hx
 ·exact h x hx
 simp_all
theorem zjl:∀ {l:List Int},l.length≤(trm l).length→trm l=l
 | [],_=>rfl
 | d :: l,h=>by
  simp only [trm] at h ⊢
  split
  ·simp_all
  ·rename_i hc
   rw [if_neg hc] at h
   simp only [List.length_cons] at h
   rw [zjl (l:=l) (by omega)]
theorem tdm {t:Int} (h:0≤t):Int.tdiv t 100000000=t / 100000000∧Int.tmod t 100000000=t % 100000000:=
 ⟨Int.tdiv_eq_ediv_of_nonneg h,Int.tmod_eq_emod_of_nonneg h⟩
theorem plusR (na nb:Bool) (a b p q:Int) (hp:zag p) (hq:zag q):∀(k:Nat) (out:List Int) (c:Int),(digs p.natAbs).length=out.length+k→Digs out→(c=0∨c=1) →
    ∃(i' c':Int) (out':List Int),(c'=0∨c'=1)∧Digs out'∧out'.length=(digs p.natAbs).length ∧
      vl out'+100000000 ^ out'.length*c'=vl out+100000000 ^ out.length*(c+(vl ((digs p.natAbs).drop out.length)+vl ((digs q.natAbs).drop out.length)))-100000000 ^ (digs p.natAbs).length*vl ((digs q.natAbs).drop (digs p.natAbs).length) ∧
      Loops 4 tP (kZ tP 104 0) (PR na nb a b p q out.length c out.length out) (.exit 0,PR na nb a b p q i' c' out'.length out')
  | 0,out,c,hk,hd,hc=>by
    unfold zag dl at hp hq
    refine ⟨_,c,out,hc,hd,by omega,?_,Loops.fin (LS.of ok4 (plE_2 na nb a b p q out.length c out.length out) (by(repeat' (first | exact AllC.nil | refine AllC.cons ?_ ?_));all_goals (first | exact CU.h {} | (simp [hk]<;>omega) | assumption | rfl))) (by simp [Ex.toExit])⟩
    have e:(digs p.natAbs).length=out.length:=by omega
    rw [e,List.drop_eq_nil_of_le (show(digs p.natAbs).length≤out.length by omega)]
    simp only [vl,Int.zero_add,Int.mul_add]
    omega
  | k + 1, out,c,hk,hd,hc=>by
    have hp':=hp
    have hq':=hq
    unfold zag dl at hp' hq'
    have hnat:Int.toNat (out.length:Int)=out.length:=by omega
    have hx:=GZ (oZ p.natAbs) out.length
    have hy:=GZ (oZ q.natAbs) out.length
    have hlt:out.length<(digs p.natAbs).length:=by omega
    have e0:out.length+1=(out++[((digs p.natAbs).getD out.length 0+c+(digs q.natAbs).getD out.length 0) % 100000000]).length:=by simp
    have e2:(out.length:Int)+1=((out++[((digs p.natAbs).getD out.length 0+c+(digs q.natAbs).getD out.length 0) % 100000000]).length:Nat):=by simp
    have hd2:Digs (out++[((digs p.natAbs).getD out.length 0+c+(digs q.natAbs).getD out.length 0) % 100000000]):=zcT hd (by omega) (by omega)
    have hstep:LS 4 tP (kZ tP 104 0) (PR na nb a b p q out.length c out.length out)
        (.normal,PR na nb a b p q ((out.length:Int)+1) (((digs p.natAbs).getD out.length 0+c+(digs q.natAbs).getD out.length 0) / 100000000) (out.length+1) (out++[((digs p.natAbs).getD out.length 0+c+(digs q.natAbs).getD out.length 0) % 100000000])):=by
      by_cases hq2:out.length<(digs q.natAbs).length
      · obtain ⟨t1,t2⟩:=tdm (t:=(digs p.natAbs).getD out.length 0+c+(digs q.natAbs).getD out.length 0) (by omega)
        have h:=LS.of ok4 (plR_0 na nb a b p q out.length c out.length out) (by
          rw [hnat,t1]
          exact(by(repeat' (first | exact AllC.nil | refine AllC.cons ?_ ?_));all_goals (first | exact CU.h {} | (simp [hlt,hq2]<;>omega) | assumption | rfl)))
        rw [hnat,t1,t2,zcf] at h
        exact h
      · have hz:(digs q.natAbs).getD out.length 0=0:=by
          have:¬out.length<(digs q.natAbs).length:=hq2
          simp [List.getD,this]
        rw [hz,Int.add_zero]
        obtain ⟨t1,t2⟩:=tdm (t:=(digs p.natAbs).getD out.length 0+c) (by omega)
        have h:=LS.of ok4 (plR_1 na nb a b p q out.length c out.length out) (by
          rw [hnat,t1]
          exact(by(repeat' (first | exact AllC.nil | refine AllC.cons ?_ ?_));all_goals (first | exact CU.h {} | (simp [hlt,hq2]<;>omega) | assumption | rfl)))
        rw [hnat,t1,t2,zcf] at h
        exact h
    rw [e0,e2] at hstep
    obtain ⟨i',c',out',k1,k2,k3,k4,k5⟩:=plusR na nb a b p q hp hq k (out++[((digs p.natAbs).getD out.length 0+c+(digs q.natAbs).getD out.length 0) % 100000000]) (((digs p.natAbs).getD out.length 0+c+(digs q.natAbs).getD out.length 0) / 100000000)
      (by simp;omega) hd2 (by omega)
    refine ⟨i',c',out',k1,k2,k3,?_,Loops.go hstep k5⟩
    rw [k4]
    have:=zfX out c ((digs p.natAbs).getD out.length 0+(digs q.natAbs).getD out.length 0) (((digs p.natAbs).getD out.length 0+c+(digs q.natAbs).getD out.length 0) % 100000000)
      (((digs p.natAbs).getD out.length 0+c+(digs q.natAbs).getD out.length 0) / 100000000) (vl ((digs p.natAbs).drop (out.length+1))+vl ((digs q.natAbs).drop (out.length+1))) (by omega)
    have e4:c+(vl ((digs p.natAbs).drop out.length)+vl ((digs q.natAbs).drop out.length))=c+((digs p.natAbs).getD out.length 0+(digs q.natAbs).getD out.length 0+100000000*(vl ((digs p.natAbs).drop (out.length+1))+vl ((digs q.natAbs).drop (out.length+1)))):=by
      rw [zan (digs p.natAbs) out.length,zan (digs q.natAbs) out.length];omega
    rw [e4,← this]
    simp only [List.length_append,List.length_singleton]
theorem plus0 (na nb:Bool) (a b p q:Int) (hp:zag p) (hq:zag q) (hl:(digs q.natAbs).length≤(digs p.natAbs).length) (h0:0<(digs p.natAbs).length) :
 ∃(i' c':Int) (out':List Int),(c'=0∨c'=1)∧Digs out'∧out'.length=(digs p.natAbs).length ∧
  vl out'+100000000 ^ out'.length*c'=(p.natAbs:Int)+(q.natAbs:Int) ∧
  Loops 4 tP (kZ tP 104 0) (PZ na nb a b p q) (.exit 0,PR na nb a b p q i' c' out'.length out'):=by
 have hx:=GZ (oZ p.natAbs) 0
 have hy:=GZ (oZ q.natAbs) 0
 have hd2:Digs [((digs p.natAbs).getD 0 0+0+(digs q.natAbs).getD 0 0) % 100000000]:=zcT (l:=[]) (fun d hd=>by cases hd) (by omega) (by omega)
 have hstep:LS 4 tP (kZ tP 104 0) (PZ na nb a b p q)
  (.normal,PR na nb a b p q 1 (((digs p.natAbs).getD 0 0+0+(digs q.natAbs).getD 0 0) / 100000000) 1 [((digs p.natAbs).getD 0 0+0+(digs q.natAbs).getD 0 0) % 100000000]):=by
  by_cases hq2:0<(digs q.natAbs).length
  ·obtain ⟨t1,t2⟩:=tdm (t:=(digs p.natAbs).getD 0 0+0+(digs q.natAbs).getD 0 0) (by omega)
   have h:=LS.of ok4 (plZ_0 na nb a b p q) (by
    rw [t1]
    exact(by(repeat' (first | exact AllC.nil | refine AllC.cons ?_ ?_));all_goals (first | exact CU.h {} | (simp [h0,hq2]<;>omega) | assumption | rfl)))
   rw [t1,t2] at h
   exact h
  ·have hz:(digs q.natAbs).getD 0 0=0:=by simp [List.getD,hq2]
   rw [hz,Int.add_zero]
   obtain ⟨t1,t2⟩:=tdm (t:=(digs p.natAbs).getD 0 0+0) (by omega)
   have h:=LS.of ok4 (plZ_1 na nb a b p q) (by
    rw [t1]
    exact(by(repeat' (first | exact AllC.nil | refine AllC.cons ?_ ?_));all_goals (first | exact CU.h {} | (simp [h0,hq2]<;>omega) | assumption | rfl)))
   rw [t1,t2] at h
   exact h
 obtain ⟨i',c',out',k1,k2,k3,k4,k5⟩:=plusR na nb a b p q hp hq ((digs p.natAbs).length-1) [((digs p.natAbs).getD 0 0+0+(digs q.natAbs).getD 0 0) % 100000000] (((digs p.natAbs).getD 0 0+0+(digs q.natAbs).getD 0 0) / 100000000) (by simp;omega) hd2 (by omega)
 refine ⟨i',c',out',k1,k2,k3,?_,Loops.go hstep k5⟩
 rw [k4,List.drop_eq_nil_of_le hl]
 have e1:=zan (digs p.natAbs) 0
 have e2:=zan (digs q.natAbs) 0
 rw [List.drop_zero,XZ,Nat.zero_add] at e1 e2
 simp only [vl,List.length_singleton,Int.pow_succ,Int.pow_zero]
 omega
theorem lessL (na nb:Bool) (a b q:Int) (n:Nat) (hn:n≤1048576) (hq:(digs q.natAbs).length≤n):∀(suf pre:List Int) (bo:Int),(bo=0∨bo=1)→Digs pre→Digs suf→n=pre.length+suf.length →
 ∃(pre':List Int) (bo':Int),Digs pre'∧pre'.length=n∧(bo'=0∨bo'=1)∧vl pre'-100000000 ^ n*bo'=vl pre+100000000 ^ pre.length*(vl suf-bo-vl ((digs q.natAbs).drop pre.length)) ∧
  Loops 5 tP (kZ tP 145 0) (PL na nb a b q bo pre.length n (pre++suf)) (.exit 0,PL na nb a b q bo' n n pre')
 | [],pre,bo,hb,hp,hs,hk=>by
  simp only [List.length_nil,Nat.add_zero] at hk
  subst hk
  refine ⟨pre,bo,hp,rfl,hb,?_,?_⟩
  ·rw [List.drop_eq_nil_of_le hq]
   simp only [vl,Int.sub_zero,Int.zero_sub,Int.mul_neg]
   omega
  ·rw [List.append_nil]
   exact Loops.fin (LS.of ok4 (leL_4 na nb a b q bo pre.length pre.length pre) (by(repeat' (first | exact AllC.nil | refine AllC.cons ?_ ?_));all_goals (first | exact CU.h {} | (simp []<;>omega) | assumption | rfl))) (by simp [Ex.toExit])
 | s :: suf,pre,bo,hb,hp,hs,hk=>by
  have hs0:=hs s (by simp)
  have hsf:Digs suf:=fun d hd=>hs d (by simp [hd])
  have hkk:0+Int.toNat (pre.length:Int)*1=pre.length:=by omega
  have hnat:Int.toNat (pre.length:Int)=pre.length:=by omega
  have hy:=GZ (oZ q.natAbs) pre.length
  simp only [List.length_cons] at hk
  have main:∀(dg bo1:Int),(bo1=0∨bo1=1)→0≤dg→dg<100000000→dg-100000000*bo1=s-bo-(digs q.natAbs).getD pre.length 0 →
   LS 5 tP (kZ tP 145 0) (PL na nb a b q bo pre.length n (pre++s :: suf)) (.normal,PL na nb a b q bo1 ((pre.length:Int)+1) n (pre++dg :: suf)) →
   ∃(pre':List Int) (bo':Int),Digs pre'∧pre'.length=n∧(bo'=0∨bo'=1)∧vl pre'-100000000 ^ n*bo'=vl pre+100000000 ^ pre.length*(vl (s :: suf)-bo-vl ((digs q.natAbs).drop pre.length)) ∧
    Loops 5 tP (kZ tP 145 0) (PL na nb a b q bo pre.length n (pre++s :: suf)) (.exit 0,PL na nb a b q bo' n n pre'):=by
   intro dg bo1 h1 h2 h3 h4 h
   have e:pre++dg :: suf=(pre++[dg])++suf:=by simp
   have e2:(pre.length:Int)+1=((pre++[dg]).length:Nat):=by simp
   rw [e,e2] at h
   obtain ⟨pre',bo',k1,k2,k3,k4,k5⟩:=lessL na nb a b q n hn hq suf (pre++[dg]) bo1 h1 (zcT hp h2 h3) hsf (by simp;omega)
   refine ⟨pre',bo',k1,k2,k3,?_,Loops.go h k5⟩
   rw [k4,zbG,List.length_append,List.length_singleton,Int.pow_succ,zan (digs q.natAbs) pre.length]
   simp only [vl]
   have e3:s+100000000*vl suf-bo-((digs q.natAbs).getD pre.length 0+100000000*vl ((digs q.natAbs).drop (pre.length+1))) =
    dg+100000000*(vl suf-bo1-vl ((digs q.natAbs).drop (pre.length+1))):=by omega
   rw [e3,alg1,Int.add_assoc]
  by_cases hq2:pre.length<(digs q.natAbs).length
  ·by_cases hneg:s-bo-(digs q.natAbs).getD pre.length 0<0
   ·have h:=LS.of ok4 (leL_0 na nb a b q bo pre.length n (pre++s :: suf)) (by
    simp only [hnat,Nat.zero_add,Nat.mul_one,zah,zaH]
    exact(by(repeat' (first | exact AllC.nil | refine AllC.cons ?_ ?_));all_goals (first | exact CU.h {} | (simp [hneg,hk,hq2]<;>omega) | assumption | rfl)))
    simp only [hnat,Nat.zero_add,Nat.mul_one,zah,zaH] at h
    exact main _ 1 (.inr rfl) (by omega) (by omega) (by omega) h
   ·have h:=LS.of ok4 (leL_1 na nb a b q bo pre.length n (pre++s :: suf)) (by
    simp only [hnat,Nat.zero_add,Nat.mul_one,zah,zaH]
    exact(by(repeat' (first | exact AllC.nil | refine AllC.cons ?_ ?_));all_goals (first | exact CU.h {} | (simp [hneg,hk,hq2]<;>omega) | assumption | rfl)))
    simp only [hnat,Nat.zero_add,Nat.mul_one,zah,zaH] at h
    exact main _ 0 (.inl rfl) (by omega) (by omega) (by omega) h
  ·have hz:(digs q.natAbs).getD pre.length 0=0:=by simp [List.getD,hq2]
   by_cases hneg:s-bo<0
   ·have h:=LS.of ok4 (leL_2 na nb a b q bo pre.length n (pre++s :: suf)) (by
    simp only [hnat,Nat.zero_add,Nat.mul_one,zah,zaH]
    exact(by(repeat' (first | exact AllC.nil | refine AllC.cons ?_ ?_));all_goals (first | exact CU.h {} | (simp [hneg,hk,hq2]<;>omega) | assumption | rfl)))
    simp only [hnat,Nat.zero_add,Nat.mul_one,zah,zaH] at h
    exact main _ 1 (.inr rfl) (by omega) (by omega) (by omega) h
   ·have h:=LS.of ok4 (leL_3 na nb a b q bo pre.length n (pre++s :: suf)) (by
    simp only [hnat,Nat.zero_add,Nat.mul_one,zah,zaH]
    exact(by(repeat' (first | exact AllC.nil | refine AllC.cons ?_ ?_));all_goals (first | exact CU.h {} | (simp [hneg,hk,hq2]<;>omega) | assumption | rfl)))
    simp only [hnat,Nat.zero_add,Nat.mul_one,zah,zaH] at h
    exact main _ 0 (.inl rfl) (by omega) (by omega) (by omega) h
theorem zgY {out:List Int} {m n:Nat} (hd:Digs out) (hv:vl out=(n:Int)) (hl:out.length=(digs m).length) (hmn:m≤n):out=digs n:=by
 have h1:=zas hd
 rw [hv,Int.toNat_natCast] at h1
 have h2:(digs m).length≤(digs n).length:=by
  rcases Nat.lt_or_ge (digs n).length (digs m).length with h | h
  ·have:=zb9 h;omega
  ·exact h
 rw [← h1]
 exact(zjl (by rw [h1];omega)).symm
theorem zc7 (a b:Int) (ha:zag a) (hb:zag b) (hs:decide (a<0)=decide (b<0)) (nb:Bool) (hnb:nb=decide (a<0)) (l:List Int) (hl:l=digs (a.natAbs+b.natAbs)) :
 ∀(E:Env) (v:Value),Rd E (.agg [.lit (.bool nb),.sq l]) v→Rd E (W (a+b)) v:=by
 intro E v h
 have hs':(a<0)↔(b<0):=by simpa using hs
 refine h.toW (b:=nb) rfl rfl ?_ ?_
 ·grind
 ·rw [hl];congr 1;omega
theorem plus_fc (a b:Int) (h:pDD a b):FC tP 104 [W a,W b] (W (a+b)):=by
  obtain ⟨ha,hb⟩:=h
  have ha':=ha
  have hb':=hb
  unfold zag dl at ha' hb'
  by_cases hs:decide (a<0)=decide (b<0)
  · have hbe:(decide (a<0)==decide (b<0))=true:=by simpa using hs
    by_cases hl:(digs a.natAbs).length<(digs b.natAbs).length
    · -- the second one is longer
      obtain ⟨i',c',out,k1,k2,k3,k4,k5⟩:=plus0 (decide (a<0)) (decide (b<0)) a b b a hb ha (by omega) (by omega)
      rcases k1 with rfl | rfl
      · have:=lZ ok4 (plB_1 (decide (a<0)) (decide (b<0)) a b i' 0 out.length out) (by(repeat' (first | exact AllC.nil | refine AllC.cons ?_ ?_));all_goals (first | exact CU.h {} | (simp [hbe,hl]<;>omega) | assumption | rfl))
        rw [zar] at this
        refine this.res (zc7 a b ha hb hs _ rfl out ?_)
        exact zgY (m:=b.natAbs) (n:=a.natAbs+b.natAbs) k2 (by rw [Int.mul_zero] at k4;omega) k3 (by omega)
      · have:=lZ ok4 (plB_0 (decide (a<0)) (decide (b<0)) a b i' 1 out.length out) (by(repeat' (first | exact AllC.nil | refine AllC.cons ?_ ?_));all_goals (first | exact CU.h {} | (simp [hbe,hl]<;>omega) | assumption | rfl))
        have e:List.take (out.length+1) (List.take out.length out++List.take 1 [1])=out++[1]:=by
          rw [zcf];exact List.take_of_length_le (by simp)
        rw [e] at this
        refine this.res (zc7 a b ha hb hs _ rfl _ ?_)
        have hv:vl (out++[1])=((a.natAbs+b.natAbs:Nat):Int):=by rw [zbG];omega
        have:=zmx (zcT k2 (d:=1) (by omega) (by omega)) (zcJ out 1 (by decide))
        rw [hv,Int.toNat_natCast] at this
        exact this.symm
    · by_cases h0:0<(digs a.natAbs).length
      · obtain ⟨i',c',out,k1,k2,k3,k4,k5⟩:=plus0 (decide (a<0)) (decide (b<0)) a b a b ha hb (by omega) h0
        rcases k1 with rfl | rfl
        · have:=lZ ok4 (plA_3 (decide (a<0)) (decide (b<0)) a b i' 0 out.length out) (by(repeat' (first | exact AllC.nil | refine AllC.cons ?_ ?_));all_goals (first | exact CU.h {} | (simp [hbe,hl]<;>omega) | assumption | rfl))
          rw [zar] at this
          refine this.res (zc7 a b ha hb hs _ rfl out ?_)
          exact zgY (m:=a.natAbs) (n:=a.natAbs+b.natAbs) k2 (by rw [Int.mul_zero] at k4;omega) k3 (by omega)
        · have:=lZ ok4 (plA_2 (decide (a<0)) (decide (b<0)) a b i' 1 out.length out) (by(repeat' (first | exact AllC.nil | refine AllC.cons ?_ ?_));all_goals (first | exact CU.h {} | (simp [hbe,hl]<;>omega) | assumption | rfl))
          have e:List.take (out.length+1) (List.take out.length out++List.take 1 [1])=out++[1]:=by
            rw [zcf];exact List.take_of_length_le (by simp)
          rw [e] at this
          refine this.res (zc7 a b ha hb hs _ rfl _ ?_)
          have hv:vl (out++[1])=((a.natAbs+b.natAbs:Nat):Int):=by rw [zbG];omega
          have:=zmx (zcT k2 (d:=1) (by omega) (by omega)) (zcJ out 1 (by decide))
          rw [hv,Int.toNat_natCast] at this
          exact this.symm
      · have ea:a.natAbs=0:=(zbI _).1 (List.eq_nil_of_length_eq_zero (by omega))
        have eb:b.natAbs=0:=(zbI _).1 (List.eq_nil_of_length_eq_zero (by omega))
        have hL:=Loops.fin (LS.of ok4 (plX_2 (decide (a<0)) (decide (b<0)) a b a b) (by(repeat' (first | exact AllC.nil | refine AllC.cons ?_ ?_));all_goals (first | exact CU.h {} | (simp [h0]<;>omega) | assumption | rfl))) (by simp [Ex.toExit])
        have:=lZ ok4 (plO_1 (decide (a<0)) (decide (b<0)) a b) (by(repeat' (first | exact AllC.nil | refine AllC.cons ?_ ?_));all_goals (first | exact CU.h {} | (simp [hbe,hl]<;>omega) | assumption | rfl))
        refine this.res (zc7 a b ha hb hs _ rfl _ ?_)
        rw [ea,eb];rfl
  · have hbe:(decide (a<0)==decide (b<0))=false:=by
      cases h1:decide (a<0)<;>cases h2:decide (b<0)<;>simp_all
    have hs':¬((a<0)↔(b<0)):=by simpa using hs
    rcases Nat.lt_trichotomy a.natAbs b.natAbs with hlt | heq | hgt
    · -- the second one is greater
      obtain ⟨out,bo,k1,k2,k3,k4,k5⟩:=lessL (decide (a<0)) (decide (b<0)) a b a (digs b.natAbs).length hb' (by
        rcases Nat.lt_or_ge (digs b.natAbs).length (digs a.natAbs).length with h | h
        · have:=zb9 h;omega
        · exact h) (digs b.natAbs) [] 0 (.inl rfl) (fun d hd=>by cases hd) (oZ _) (by simp)
      simp only [List.length_nil,List.nil_append,vl,Int.pow_zero,Int.one_mul,Int.zero_add,List.drop_zero,XZ,Int.sub_zero] at k4 k5
      have hv:=zfW k1
      rw [k2] at hv
      have hbo:bo=0:=by
        rcases k3 with h | h
        · exact h
        · subst h;omega
      subst hbo
      have hcmp:zcR (a.natAbs:Int) (b.natAbs:Int) = -1:=by unfold zcR;rw [if_pos (by omega)]
      have hbn:b≠0:=by omega
      have hne:=zd8 hbn
      have k5':Loops 5 tP (kZ tP 145 0) (PL (decide (a<0)) (decide (b<0)) a b a 0 0 (digs b.natAbs).length (digs b.natAbs)) (.exit 0,PL (decide (a<0)) (decide (b<0)) a b a 0 ((digs b.natAbs).length:Int) (digs b.natAbs).length out):=k5
      have hP:pDD a b:=⟨ha,hb⟩
      have ht:List.take (digs b.natAbs).length out=out:=by rw [← k2,zar]
      have:=lZ ok4 (plD_2 (decide (a<0)) (decide (b<0)) a b ((digs b.natAbs).length:Int) out) (by
        rw [hcmp,ht]
        simp only [Nat.zero_add,List.take_zero,List.nil_append]
        exact(by(repeat' (first | exact AllC.nil | refine AllC.cons ?_ ?_));all_goals (first | exact CU.h {} | (simp [hbe,hne,MZ]<;>omega) | assumption | rfl)))
      rw [ht] at this
      refine this.res fun E v h=>h.toW (b:=decide (b<0)) rfl rfl ?_ ?_
      · rw [decide_eq_decide];omega
      · rw [zas k1];congr 1;omega
    · have:=lZ ok4 (plN_0 (decide (a<0)) (decide (b<0)) a b) (by
        have hP:pDD a b:=⟨ha,hb⟩
        have hcmp:zcR (a.natAbs:Int) (b.natAbs:Int)=0:=by unfold zcR;rw [if_neg (by omega),if_neg (by omega)]
        rw [hcmp]
        exact(by(repeat' (first | exact AllC.nil | refine AllC.cons ?_ ?_));all_goals (first | exact CU.h {} | (simp [hbe]<;>omega) | assumption | rfl)))
      refine this.res fun E v h=>h.toW (b:=false) (l:=[]) rfl rfl ?_ ?_
      · simp;omega
      · rw [show(a+b).natAbs=0 by omega];rfl
    · obtain ⟨out,bo,k1,k2,k3,k4,k5⟩:=lessL (decide (a<0)) (decide (b<0)) a b b (digs a.natAbs).length ha' (by
        rcases Nat.lt_or_ge (digs a.natAbs).length (digs b.natAbs).length with h | h
        · have:=zb9 h;omega
        · exact h) (digs a.natAbs) [] 0 (.inl rfl) (fun d hd=>by cases hd) (oZ _) (by simp)
      simp only [List.length_nil,List.nil_append,vl,Int.pow_zero,Int.one_mul,Int.zero_add,List.drop_zero,XZ,Int.sub_zero] at k4 k5
      have hv:=zfW k1
      rw [k2] at hv
      have hbo:bo=0:=by
        rcases k3 with h | h
        · exact h
        · subst h;omega
      subst hbo
      have hcmp:zcR (a.natAbs:Int) (b.natAbs:Int)=1:=by unfold zcR;rw [if_neg (by omega),if_pos (by omega)]
      have hbn:a≠0:=by omega
      have hne:=zd8 hbn
      have k5':Loops 5 tP (kZ tP 145 0) (PL (decide (a<0)) (decide (b<0)) a b b 0 0 (digs a.natAbs).length (digs a.natAbs)) (.exit 0,PL (decide (a<0)) (decide (b<0)) a b b 0 ((digs a.natAbs).length:Int) (digs a.natAbs).length out):=k5
      have hP:pDD a b:=⟨ha,hb⟩
      have ht:List.take (digs a.natAbs).length out=out:=by rw [← k2,zar]
      have:=lZ ok4 (plC_1 (decide (a<0)) (decide (b<0)) a b ((digs a.natAbs).length:Int) out) (by
        rw [hcmp,ht]
        simp only [Nat.zero_add,List.take_zero,List.nil_append]
        exact(by(repeat' (first | exact AllC.nil | refine AllC.cons ?_ ?_));all_goals (first | exact CU.h {} | (simp [hbe,hne,MZ]<;>omega) | assumption | rfl)))
      rw [ht] at this
      refine this.res fun E v h=>h.toW (b:=decide (a<0)) rfl rfl ?_ ?_
      · rw [decide_eq_decide];omega
      · rw [zas k1];congr 1;omega
def ctr5:Ctr:=(104,c2 pDD (fun a b=>W (a+b))) :: ziv
theorem zns:∀p∈ctr5,jZ tP p.1 p.2:=CAll.cons (c2_ok plus_fc) znr
theorem ok5:(eZ tP ctr5 bw).OK:=JZ zns
end Go.Proofs.YtagbldogmjhdpaaGreatDoor
end
section
open Go Go.Ev
namespace Go.Proofs.YtagbldogmjhdpaaGreatDoor
open Go.Proofs
abbrev TO (c d:Bool) (a b i:Int) (n:Nat) (l:List Int):St:=⟨sp 86 [(2,.ref 0 0),(3,.ref 1 0),(4,.ref 2 0),(5,.own 3 0 n 1),(32,.wd a),(33,lI ((digs a.natAbs).length:Int)),(34,lI i)],[.flat [.lit (.bool c),.wd a] true,.flat [.lit (.bool d),.wd b] true,.flat [.lit (.bool false),.lit (.slice none 0 0)] true,.ints l true],[3]⟩
abbrev TN (e f:Bool) (a b i d c k:Int) (n:Nat) (l:List Int):St:=⟨sp 86 [(2,.ref 0 0),(3,.ref 1 0),(4,.ref 2 0),(5,.own 3 0 n 1),(6,lI i),(7,lI d),(8,lI c),(32,.wd a),(33,lI ((digs a.natAbs).length:Int)),(34,lI i),(40,.wd b),(41,lI ((digs b.natAbs).length:Int)),(42,lI k)],[.flat [.lit (.bool e),.wd a] true,.flat [.lit (.bool f),.wd b] true,.flat [.lit (.bool false),.lit (.slice none 0 0)] true,.ints l true],[3]⟩
end Go.Proofs.YtagbldogmjhdpaaGreatDoor
end
