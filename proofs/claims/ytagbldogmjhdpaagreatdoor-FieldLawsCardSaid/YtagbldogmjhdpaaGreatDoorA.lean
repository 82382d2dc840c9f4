/- Part of a proof about a given program: see the last module of the claim. -/
import Derived.WalkKit
import Derived.OrdersHeld
import Derived.Laws.Append
import Derived.Laws.Strings
import Derived.LoopN
import Derived.LoopNIn
import Derived.RangeFuncLeaves
import Derived.RangeFuncNested
import Derived.RangeFuncBound
section
namespace Go.Ev
inductive ZK where
 | W | N
 deriving Inhabited,DecidableEq
inductive EK where
 | int (k:IntKind)
 | bool
 | str
 | whole
 | un
 | pr (a b:EK)
 | sl (e:EK)
 deriving DecidableEq,Inhabited
@[reducible] def EK.ty:EK→Type
 | .int _=>Int
 | .bool=>Bool
 | .str=>ByteArray
 | .whole=>Int
 | .un=>Unit
 | .pr a b=>a.ty × b.ty
 | .sl e=>List e.ty
def EK.dflt:(k:EK)→k.ty
 | .int _=>(0:Int)
 | .bool=>false
 | .str=>ByteArray.empty
 | .whole=>(0:Int)
 | .un=>()
 | .pr a b=>(a.dflt,b.dflt)
 | .sl _=>[]
def EK.sz:EK→Nat
 | .int _=>1
 | .bool=>1
 | .str=>1
 | .whole=>2
 | .un=>0
 | .pr a b=>a.sz+b.sz
 | .sl _=>1
def EK.agg:EK→Bool
 | .whole=>true
 | .un=>true
 | .pr ..=>true
 | _=>false
inductive AV where
 | lit (v:Value)
 | tt | ff
 | junk
 | ref (r off:Nat)
 | own (r off n sz:Nat)
 | sl (cells:List AV) (n:Nat)
 | sq (l:List Int)
 | qel (l:List Int) (i:Nat)
 | pd (cells:List AV) (off:Nat)
 | agg (cells:List AV)
 | tup (vs:List AV)
 | fn (f:FuncId) (caps:List AV)
 | wd (z:Int)
 | ni (z:Int)
 | zl (k:ZK) (l:List Int)
 | lst (k:EK) (l:List k.ty)
 | rel (r i sz fo:Nat)
 deriving Inhabited
def slA:(e:EK)→List e.ty→AV
 | .int .i64,l=>.sq l
 | e,l=>.lst e l
def EK.cells:(k:EK)→k.ty→List AV
 | .int ik,n=>[.lit (.int ik n)]
 | .bool,b=>[.lit (.bool b)]
 | .str,s=>[.lit (.string s)]
 | .whole,z=>[.lit (.bool (decide ((z:Int)<0))),.wd z]
 | .un,_=>[]
 | .pr a b,p=>a.cells p.1++b.cells p.2
 | .sl e,l=>[slA e l]
def hZ (k:EK):List k.ty→List AV
 | []=>[]
 | x :: l=>k.cells x++hZ k l
def EK.val (k:EK) (x:k.ty):AV:=match k.agg with | true=>.agg (k.cells x) | false=>(k.cells x).getD 0 .junk
def zgm:ZK→Int→List AV
 | .W,z=>[.lit (.bool (decide (z<0))),.wd z]
 | .N,z=>[.ni z]
def uZ (k:ZK):List Int→List AV
 | []=>[]
 | z :: l=>zgm k z++uZ k l
inductive Row where
 | flat (cs:List AV) (live:Bool)
 | ints (l:List Int) (live:Bool)
 | lst (k:EK) (l:List k.ty) (live:Bool)
 | dead
 deriving Inhabited
structure Q (α:Type) where
 a:α
 b:α
 c:α
 d:α
 deriving Inhabited
def Q.const {α:Type} (x:α):Q α:=⟨x,x,x,x⟩
def Q.pick {α:Type} (q:Q α) (i:Nat):α:=match q with | ⟨a,b,c,d⟩=>match i with | 0=>a | 1=>b | 2=>c | _=>d
def Q.put {α:Type} (q:Q α) (i:Nat) (x:α):Q α:=match q with | ⟨a,b,c,d⟩=>match i with | 0=>⟨x,b,c,d⟩ | 1=>⟨a,x,c,d⟩ | 2=>⟨a,b,x,d⟩ | _=>⟨a,b,c,x⟩
def Q.force {α β:Type} (q:Q α) (k:Q α→β):β:=match q with | ⟨a,b,c,d⟩=>k ⟨a,b,c,d⟩
abbrev Q2:=Q (Q AV)
abbrev Q3:=Q Q2
abbrev Q4:=Q Q3
abbrev Q5:=Q Q4
def get2 (q:Q2) (i:Nat):AV:=(q.pick (Nat.mod i 4)).pick (Nat.mod (Nat.div i 4) 4)
def get3 (q:Q3) (i:Nat):AV:=get2 (q.pick (Nat.mod i 4)) (Nat.div i 4)
def get4 (q:Q4) (i:Nat):AV:=get3 (q.pick (Nat.mod i 4)) (Nat.div i 4)
def get5 (q:Q5) (i:Nat):AV:=get4 (q.pick (Nat.mod i 4)) (Nat.div i 4)
def set2 (q:Q2) (i:Nat) (x:AV):Q2:=((q.pick (Nat.mod i 4)).put (Nat.mod (Nat.div i 4) 4) x).force fun p=>q.put (Nat.mod i 4) p
def set3 (q:Q3) (i:Nat) (x:AV):Q3:=(set2 (q.pick (Nat.mod i 4)) (Nat.div i 4) x).force fun p=>q.put (Nat.mod i 4) p
def set4 (q:Q4) (i:Nat) (x:AV):Q4:=(set3 (q.pick (Nat.mod i 4)) (Nat.div i 4) x).force fun p=>q.put (Nat.mod i 4) p
def set5 (q:Q5) (i:Nat) (x:AV):Q5:=(set4 (q.pick (Nat.mod i 4)) (Nat.div i 4) x).force fun p=>q.put (Nat.mod i 4) p
def q5:Q5:=.const (.const (.const (.const (.const .junk))))
structure Fm where
 n:Nat
 q:Q5
 deriving Inhabited
def Fm.get (f:Fm) (i:Nat):AV:=match f with
 | ⟨n,q⟩=>match Nat.blt i n with
  | true=>match Nat.blt i 1024 with
   | true=>get5 q i
   | false=>.junk
  | false=>.junk
def Fm.set (f:Fm) (i:Nat) (x:AV):Fm:=match f with
 | ⟨n,q⟩=>match Nat.blt i n with
  | true=>match Nat.blt i 1024 with
   | true=>(set5 q i x).force fun p=>⟨n,p⟩
   | false=>⟨n,q⟩
  | false=>⟨n,q⟩
def Fm.fill:Fm→Nat→List AV→Fm
 | f,_,[]=>f
 | f,i,x :: l=>(f.set i x).fill (i+1) l
def Fm.args (n:Nat) (l:List AV):Fm:=Fm.fill ⟨n,q5⟩ 0 l
def sp (n:Nat):List (Nat × AV)→Fm
 | []=>⟨n,q5⟩
 | (i,x) :: l=>(sp n l).set i x
theorem Q.pick_put {α:Type} (q:Q α) (i j:Nat) (x:α) (hi:i<4) (hj:j<4):(q.put i x).pick j=if j=i then x else q.pick j:=by
 obtain ⟨a,b,c,d⟩:=q
 have h1:i=0∨i=1∨i=2∨i=3:=by omega
 have h2:j=0∨j=1∨j=2∨j=3:=by omega
 rcases h1 with rfl | rfl | rfl | rfl<;>rcases h2 with rfl | rfl | rfl | rfl<;>rfl
theorem Q.force_eq {α β:Type} (q:Q α) (k:Q α→β):q.force k=k q:=by cases q;rfl
theorem div4 (i:Nat):Nat.div i 4=i / 4:=rfl
theorem mod4 (i:Nat):Nat.mod i 4=i % 4:=rfl
theorem get_set2 (q:Q2) (i j:Nat) (x:AV):get2 (set2 q i x) j=if j % 16=i % 16 then x else get2 q j:=by
 unfold get2 set2
 rw [Q.force_eq]
 simp only [div4,mod4]
 rw [Q.pick_put _ _ _ _ (by omega) (by omega)]
 by_cases h:j % 4=i % 4
 ·rw [if_pos h,Q.pick_put _ _ _ _ (by omega) (by omega),← h]
  grind
 grind
theorem get_set3 (q:Q3) (i j:Nat) (x:AV):get3 (set3 q i x) j=if j % 64=i % 64 then x else get3 q j:=by
 unfold get3 set3
 rw [Q.force_eq]
 simp only [div4,mod4]
 rw [Q.pick_put _ _ _ _ (by omega) (by omega)]
 by_cases h:j % 4=i % 4
 ·rw [if_pos h,get_set2,← h]
  grind
 grind
theorem get_set4 (q:Q4) (i j:Nat) (x:AV):get4 (set4 q i x) j=if j % 256=i % 256 then x else get4 q j:=by
 unfold get4 set4
 rw [Q.force_eq]
 simp only [div4,mod4]
 rw [Q.pick_put _ _ _ _ (by omega) (by omega)]
 by_cases h:j % 4=i % 4
 ·rw [if_pos h,get_set3,← h]
  grind
 grind
theorem get_set5 (q:Q5) (i j:Nat) (x:AV):get5 (set5 q i x) j=if j % 1024=i % 1024 then x else get5 q j:=by
 unfold get5 set5
 rw [Q.force_eq]
 simp only [div4,mod4]
 rw [Q.pick_put _ _ _ _ (by omega) (by omega)]
 by_cases h:j % 4=i % 4
 ·rw [if_pos h,get_set4,← h]
  grind
 grind
theorem Fm.get_q5 (n i:Nat):Fm.get ⟨n,q5⟩ i=.junk:=by
 have pc:∀ {α:Type} (x:α) (i:Nat),(Q.const x).pick i=x:=by
  intro α x i
  unfold Q.const Q.pick
  dsimp only
  split<;>rfl
 unfold Fm.get
 dsimp only
 split
 ·split
  ·simp only [get5,get4,get3,get2,q5,pc]
  ·rfl
 ·rfl
theorem blt_eq (a b:Nat):Nat.blt a b=decide (a<b):=by
 rw [Bool.eq_iff_iff,Nat.blt_eq,decide_eq_true_eq]
theorem Fm.get_out (f:Fm) (i:Nat) (h:f.n≤i):f.get i=.junk:=by
 obtain ⟨n,q⟩:=f
 have h2:¬i<n:=by simpa using h
 unfold Fm.get
 simp only [blt_eq,h2,decide_false]
theorem Fm.set_n (f:Fm) (i:Nat) (x:AV):(f.set i x).n=f.n:=by
 obtain ⟨n,q⟩:=f
 unfold Fm.set
 dsimp only
 split
 ·split
  ·rw [Q.force_eq]
  ·rfl
 ·rfl
theorem Fm.get_set (f:Fm) (i j:Nat) (x:AV):(f.set i x).get j=f.get j∧j≠i∨(f.set i x).get j=x∧j=i∧i<f.n∨(f.set i x).get j=f.get j∧f.n≤i∨(f.set i x).get j=.junk:=by
  by_cases hjn:j<f.n
  · obtain ⟨n,q⟩:=f
    have hjn':j<n:=hjn
    by_cases hj:j<1024
    · by_cases hn:i<n
      · by_cases hi:i<1024
        · have e:(Fm.set ⟨n,q⟩ i x).get j=get5 (set5 q i x) j:=by
            unfold Fm.set Fm.get
            simp only [blt_eq,hn,hi,hj,hjn',decide_true,Q.force_eq]
          have e2:Fm.get ⟨n,q⟩ j=get5 q j:=by
            unfold Fm.get
            simp only [blt_eq,hj,hjn',decide_true]
          rw [e,e2,get_set5,Nat.mod_eq_of_lt hj,Nat.mod_eq_of_lt hi]
          grind
        · left
          have e:Fm.set ⟨n,q⟩ i x=⟨n,q⟩:=by
            unfold Fm.set
            simp only [blt_eq,hn,hi,decide_true,decide_false]
          grind
      · right;right;left
        have e:Fm.set ⟨n,q⟩ i x=⟨n,q⟩:=by
          unfold Fm.set
          simp only [blt_eq,hn,decide_false]
        simp_all
    · right;right;right
      have e:∀f:Fm,f.get j=.junk:=by
        rintro ⟨n,q⟩
        unfold Fm.get
        simp only [blt_eq,hj,decide_false]
        split<;>rfl
      exact e _
  · right;right;right
    exact Fm.get_out _ _ (by rw [Fm.set_n];omega)
structure St where
 tm:Fm
 rows:List Row
 wr:List Nat
 deriving Inhabited
inductive Ex where
 | normal
 | exit (id:Nat)
 | ret
 deriving Inhabited
def Ex.out (id:Nat):Ex→Ex
 | .normal=>.normal
 | .ret=>.ret
 | .exit i=>if i=id then .normal else .exit i
def Ex.toExit:Ex→Exit
 | .normal=>.normal
 | .exit id=>.exit id
 | .ret=>.ret
inductive Cnd where
 | p (p:Prop)
 | s (a b:St)
 | b (a b:Bool)
def Cnd.ok:Cnd→Prop
 | .p q=>q
 | .s x y=>x=y
 | .b x y=>x=y
structure Via where
 src:List Nat
 keep:List Nat
 wr:List Nat
 st0:St
 r:Ex × St
abbrev zay:=Option Via
structure Sup where
 os:List (Nat × Bool)
 lp:List (Option zay)
 sk:Nat
 stop:Bool
instance:Coe Bool (Nat × Bool):=⟨fun b=>(0,b)⟩
inductive Res (α:Type) where
 | ok (x:α) (s:Sup) (cs:List Cnd)
 | need (b:Bool)
 | atLoop (b:Code) (st:St)
 | fail (n:Nat)
def M (α:Type):=Bool→Sup→Res α
def M.pure {α:Type} (x:α):M α:=fun _ s=>.ok x s []
def M.bind {α β:Type} (m:M α) (f:α→M β):M β:=fun c s=>
 match m c s with
 | .ok x s1 c1=>
  match f x c s1 with
  | .ok y s2 c2=>.ok y s2 (c1++c2)
  | .need b=>.need b
  | .atLoop b st=>.atLoop b st
  | .fail n=>.fail n
 | .need b=>.need b
 | .atLoop b st=>.atLoop b st
 | .fail n=>.fail n
instance:Monad M where
 pure:=M.pure
 bind:=M.bind
def fail {α:Type} (n:Nat):M α:=fun _ _=>.fail n
def tellC (p:Cnd):M Unit:=fun _ s=>.ok () s [p]
def tell (p:Prop):M Unit:=tellC (.p p)
def chk (b:Bool):M Unit:=fun c s=>
 match c with
 | true=>match b with | true=>.ok () s [] | false=>.fail 1
 | false=>.ok () s [.b b true]
def dec (b:Bool):M Bool:=fun c s=>
 match c with
 | true=>.ok b s []
 | false=>match s with
  | ⟨os,lp,sk,stop⟩=>match os with
   | []=>match sk with
    | 0=>.need b
    | k+1=>.ok b ⟨[],lp,k,stop⟩ []
   | (n,o) :: os=>match n with
    | 0=>.ok o ⟨os,lp,sk,stop⟩ [.b b o]
    | n+1=>.ok b ⟨(n,o) :: os,lp,sk,stop⟩ []
def nextLoop:M (Option zay):=fun _ s=>
 match s.lp with
 | []=>.ok none s []
 | f :: lp=>.ok f { s with lp } []
def loopFor (b:Code) (st:St):M (Option zay):=fun _ s=>
 match s.lp with
 | []=>match s.stop with
  | true=>.atLoop b st
  | false=>.ok none s []
 | f :: lp=>.ok f { s with lp } []
def tellD (p:Prop) (d:Bool):M Unit:=fun c s=>
 match c with
 | true=>match d with | true=>.ok () s [] | false=>.fail 1
 | false=>.ok () s [.p p]
def zey {α:Type} (n:Nat) (k:Nat→α):α:=match n with
 | 0=>k 0
 | m+1=>k (m+1)
def zle {α:Type} (z:Int) (k:Int→α):α:=match z with
 | .ofNat n=>zey n fun m=>k (.ofNat m)
 | .negSucc n=>zey n fun m=>k (.negSucc m)
def tellAll (ps:List Prop):M Unit:=fun _ s=>.ok () s (ps.map .p)
def ofOpt {α:Type} (n:Nat):Option α→M α
 | some x=>M.pure x
 | none=>fail n
def Spec {α:Type} (m:M α) (Q:α→Prop):Prop:=
 ∀c s x s' cs,m c s=.ok x s' cs→(∀p∈cs,p.ok)→Q x
theorem Spec.pure {α:Type} {x:α} {Q:α→Prop} (h:Q x):Spec (Pure.pure x:M α) Q:=by
 intro c os y os' cs he _
 cases he
 exact h
theorem Spec.pure' {α:Type} {x:α} {Q:α→Prop} (h:Q x):Spec (M.pure x:M α) Q:=Spec.pure h
theorem Spec.bind {α β:Type} {m:M α} {f:α→M β} {Q:β→Prop} (h:Spec m fun x=>Spec (f x) Q):Spec (m >>= f) Q:=by
 intro c os y os' cs he hc
 change M.bind m f c os=_ at he
 unfold M.bind at he
 cases h1:m c os with
 | ok x os1 c1=>
  rw [h1] at he
  simp only at he
  cases h2:f x c os1 with
  | ok y' os2 c2=>
   rw [h2] at he
   simp only [Res.ok.injEq] at he
   obtain ⟨rfl,rfl,rfl⟩:=he
   exact h c os x os1 c1 h1 (fun b hb=>hc b (List.mem_append_left _ hb)) c os1 y' os2 c2 h2 (fun b hb=>hc b (List.mem_append_right _ hb))
  | need b=>rw [h2] at he;cases he
  | atLoop b st=>rw [h2] at he;cases he
  | fail n=>rw [h2] at he;cases he
 | need b=>rw [h1] at he;cases he
 | atLoop b st=>rw [h1] at he;cases he
 | fail n=>rw [h1] at he;cases he
theorem Spec.mono {α:Type} {m:M α} {Q Q':α→Prop} (h:Spec m Q) (hq:∀x,Q x→Q' x):Spec m Q':=
 fun c os x os' cs he hc=>hq x (h c os x os' cs he hc)
theorem Spec.fail {α:Type} {n:Nat} {Q:α→Prop}:Spec (fail n:M α) Q:=by
 intro c os x os' cs he _;cases he
theorem Spec.tellC {p:Cnd} {Q:Unit→Prop} (h:p.ok→Q ()):Spec (tellC p) Q:=by
 intro c os x os' cs he hc
 cases he
 exact h (hc p (by simp))
theorem Spec.tell {p:Prop} {Q:Unit→Prop} (h:p→Q ()):Spec (tell p) Q:=Spec.tellC h
theorem Spec.tellD {p:Prop} {d:Bool} {Q:Unit→Prop} (hd:d=true→p) (h:p→Q ()):Spec (tellD p d) Q:=by
 intro c os x os' cs he hc
 cases c with
 | true=>
  cases d with
  | true=>exact h (hd rfl)
  | false=>cases he
 | false=>
  cases he
  exact h (hc (.p p) (by simp))
theorem zhi {α:Type} (n:Nat) (k:Nat→α):zey n k=k n:=by cases n<;>rfl
theorem zhh {α:Type} (z:Int) (k:Int→α):zle z k=k z:=by
 cases z<;>simp only [zle,zhi]
theorem Spec.tellAll {ps:List Prop} {Q:Unit→Prop} (h:(∀p∈ps,p)→Q ()):Spec (tellAll ps) Q:=by
 intro c os x os' cs he hc
 cases he
 exact h fun p hp=>hc (.p p) (List.mem_map_of_mem hp)
theorem Spec.loopFor {b:Code} {st:St} {Q:Option zay→Prop} (h:∀o,Q o):Spec (loopFor b st) Q:=fun _ _ x _ _ _ _=>h x
theorem Spec.nextLoop {Q:Option zay→Prop} (h:∀o,Q o):Spec nextLoop Q:=fun _ _ x _ _ _ _=>h x
theorem Spec.chk {b:Bool} {Q:Unit→Prop} (h:b=true→Q ()):Spec (chk b) Q:=by
 intro c os x os' cs he hc
 cases c with
 | true=>cases b with
  | true=>exact h rfl
  | false=>cases he
 | false=>
  simp only [Ev.chk,Res.ok.injEq] at he
  obtain ⟨_,_,rfl⟩:=he
  exact h (hc (.b b true) (by simp))
theorem Spec.dec {b:Bool} {Q:Bool→Prop} (h:Q b):Spec (dec b) Q:=by
 intro c s x os' cs he hc
 cases c with
 | true=>cases he;exact h
 | false=>
  obtain ⟨os,lp,sk,stop⟩:=s
  cases os with
  | nil=>cases sk with
   | zero=>cases he
   | succ k=>cases he;exact h
  | cons o os=>
   obtain ⟨n,o⟩:=o
   cases n with
   | zero=>
    simp only [Ev.dec,Res.ok.injEq] at he
    obtain ⟨rfl,_,rfl⟩:=he
    have:b=o:=hc (.b b o) (by simp)
    exact this▸h
   | succ n=>cases he;exact h
theorem Spec.ofOpt {α:Type} {n:Nat} {o:Option α} {Q:α→Prop} (h:∀x,o=some x→Q x):Spec (ofOpt n o) Q:=by
 cases o with
 | none=>exact Spec.fail
 | some x=>exact Spec.pure' (h x rfl)
inductive TK where
 | bool
 | int (k:IntKind)
 | str
 | ptr (e:TypeId)
 | slice (e:TypeId)
 | arr (n:Nat) (e:TypeId)
 | struct (fs:List (TypeId × Nat))
 | other
 deriving Inhabited
structure TI where
 tk:TK
 size:Nat
 bytes:Nat
 zero:List Value
 deriving Inhabited
def zdM:TypeDesc→TK
 | .bool=>.bool
 | .int k=>.int k
 | .string=>.str
 | .pointer e=>.ptr e
 | .slice e=>.slice e
 | .array n e=>.arr n e
 | .struct fs=>.struct (fs.toList.map fun f=>(f.type,f.offset))
 | _=>.other
def tiOf (P:Program) (t:TypeId):Option TI:=
 match P.info? t,P.underlying t with
 | some i,some d=>match i.zero with
  | some z=>some { tk:=zdM d,size:=i.size,bytes:=i.bytes,zero:=z.cells.toList }
  | none=>none
 | _,_=>none
def zk7:Nat→Nat→List Int
 | 0,_=>[]
 | f+1,n=>if n=0 then [] else((n % 100000000:Nat):Int) :: zk7 f (n / 100000000)
def digs (n:Nat):List Int:=zk7 n n
def aZ (z:Int):List Int:=if z<0 then(digs z.natAbs).map (fun d=>-d) else digs z.natAbs
structure Cfg where
 P:Program
 has:List FuncId
 C:FuncId→List AV→M AV
 /-- The closures of slices.Backward: over elements of one cell, or of two. -/
 bw:List (FuncId × Nat):=[]
 /-- Functions with a contract that are walked where the supply says so. -/
 opt:List FuncId:=[]
 /-- The kinds of the types of elements. -/
 kd:List (TypeId × EK):=[]
def look {α:Type}:List (Nat × α)→Nat→Option α
 | [],_=>none
 | (k,x) :: l,n=>if k==n then some x else look l n
def zci:List UInt8→List UInt8→Bool
 | [],[]=>true
 | a :: l,b :: q=>Nat.beq a.toNat b.toNat&&zci l q
 | _,_=>false
theorem zfC:∀ {l q:List UInt8},zci l q=true→l=q
 | [],[],_=>rfl
 | a :: l,b :: q,h=>by
  simp only [zci,Bool.and_eq_true,Nat.beq_eq] at h
  rw [UInt8.toNat.inj h.1,zfC h.2]
 | [],_ :: _,h=>by simp [zci] at h
 | _ :: _,[],h=>by simp [zci] at h
theorem zf0:∀l:List UInt8,zci l l=true
 | []=>rfl
 | a :: l=>by simp [zci,zf0 l]
def zrt (a b:ByteArray):Bool:=zci a.data.toList b.data.toList
theorem strEq_eq (a b:ByteArray):(a.toList==b.toList)=zrt a b:=by
 rw [ByteArray.toList_eq,ByteArray.toList_eq,Bool.eq_iff_iff,beq_iff_eq]
 exact ⟨fun h=>by unfold zrt;rw [h];exact zf0 _,fun h=>zfC h⟩
section
variable (g:Cfg)
def ty (t:TypeId):M TI:=ofOpt 2 (tiOf g.P t)
def fnOf (P:Program) (f:FuncId):Option Func:=match P.funcs[f]? with
 | some fn=>match fn.body with
  | some _=>some fn
  | none=>none
 | none=>none
def zap:TK→Bool
 | .struct _ | .arr ..=>true
 | _=>false
def zmq:Value→AV
 | .bool true=>.tt
 | .bool false=>.ff
 | v=>.lit v
def pZ (tm:Fm):Operand→AV
 | .tmp t=>tm.get t
 | .const v=>zmq v
 | .global b=>.lit (.pointer (some ⟨b,0,none⟩))
 | .func f=>.fn f []
def zjm:AV→Option (List AV)
 | .agg cs=>some cs
 | .lit (.agg a)=>some (a.toList.map .lit)
 | .junk | .tup _=>none
 | .lit (.tuple _)=>none
 | v=>some [v]
def asB:AV→Option Bool
 | .tt=>some true
 | .ff=>some false
 | .lit (.bool b)=>some b
 | _=>none
def decB:AV→M Bool
 | .tt=>M.pure true
 | .ff=>M.pure false
 | .lit (.bool b)=>dec b
 | _=>fail 3
def ofB (b:Bool):AV:=match b with | true=>.tt | false=>.ff
def ints?:AV→Option (List Int)
 | .sq l=>some l
 | .wd z=>some (digs z.natAbs)
 | .ni z=>some (aZ z)
 | .lit (.slice _ 0 _)=>some []
 | _=>none
def nilA (x:AV):M Bool:=match x with
 | .lit (.slice none _ _)=>M.pure true
 | .lit (.slice (some _) _ _)=>M.pure false
 | .own ..=>M.pure false
 | .sl _ n=>do
  chk (!decide (n=0))
  M.pure false
 | .zl _ l=>do
  chk (!l.isEmpty)
  M.pure false
 | .lst _ l=>do
  chk (!l.isEmpty)
  M.pure false
 | x => match ints? x with
  | some l=>do
   chk (!l.isEmpty)
   M.pure false
  | none=>fail 8
def inR (k:IntKind) (n:Int):Bool:=decide (k.min≤n)&&decide (n≤k.max)
def arith (op:BinOp) (k:IntKind) (a b:Int):M AV:=
 match op with
 | .add=>do chk (inR k (a+b));M.pure (.lit (.int k (a+b)))
 | .sub=>do chk (inR k (a-b));M.pure (.lit (.int k (a-b)))
 | .mul=>do chk (inR k (a*b));M.pure (.lit (.int k (a*b)))
 | .quo=>do chk (!decide (b=0));chk (inR k (a.tdiv b));M.pure (.lit (.int k (a.tdiv b)))
 | .rem=>do chk (!decide (b=0));M.pure (.lit (.int k (a.tmod b)))
 | .eql=>M.pure (.lit (.bool (a==b)))
 | .neq=>M.pure (.lit (.bool (a != b)))
 | .lss=>M.pure (.lit (.bool (decide (a<b))))
 | .leq=>M.pure (.lit (.bool (decide (a≤b))))
 | .gtr=>M.pure (.lit (.bool (decide (a > b))))
 | .geq=>M.pure (.lit (.bool (decide (a≥b))))
 | _=>fail 4
def zmJ:AV→Bool
 | .ref .. | .pd .. | .qel .. | .rel ..=>true
 | _=>false
def binop (op:BinOp) (t:TypeId) (x y:AV):M AV:=
 match x,y with
 | .lit (.int k a),.lit (.int k' b)=>if k=k' then arith op k a b else fail 5
 | _, _=>do
  let ti ← ty g t
  match ti.tk with
  | .bool=>do
   let a ← ofOpt 6 (asB x)
   let b ← ofOpt 6 (asB y)
   match op with
   | .eql=>M.pure (.lit (.bool (a==b)))
   | .neq=>M.pure (.lit (.bool (!(a==b))))
   | _=>fail 7
  | .ptr _=>
   match x,y,op with
   | .lit (.pointer none),.lit (.pointer none),.eql=>M.pure .tt
   | .lit (.pointer none),.lit (.pointer none),.neq=>M.pure .ff
   | x,.lit (.pointer none),.eql=>if zmJ x then M.pure .ff else fail 8
   | x,.lit (.pointer none),.neq=>if zmJ x then M.pure .tt else fail 8
   | _,_,_=>fail 8
  | .str=>
   match x,y,op with
   | .lit (.string a),.lit (.string b),.eql=>M.pure (.lit (.bool (zrt a b)))
   | .lit (.string a),.lit (.string b),.neq=>M.pure (.lit (.bool (!(zrt a b))))
   | .lit (.string a),.lit (.string b),.add=>do
    chk (decide (((a.size+b.size:Nat):Int)≤9223372036854775807))
    M.pure (.lit (.string (a++b)))
   | _,_,_=>fail 8
  | .slice _=>
   match y with
   | .lit (.slice none 0 0)=>do
    let b ← nilA x
    match op with
    | .eql=>M.pure (ofB b)
    | .neq=>M.pure (ofB (!b))
    | _=>fail 8
   | _=>fail 8
  | _=>fail 9
def unop (op:UnOp) (x:AV):M AV:=
 match op,x with
 | .not,.tt=>M.pure .ff
 | .not,.ff=>M.pure .tt
 | .not,.lit (.bool b)=>M.pure (.lit (.bool !b))
 | .neg,.lit (.int k n)=>do chk (inR k (0-n));M.pure (.lit (.int k (0-n)))
 | _,_=>fail 10
def over (cs:List AV) (off:Nat) (vc:List AV):List AV:=cs.take off++vc++cs.drop (off+vc.length)
def zli (rows:List Row) (ti:TI) (a:AV):M AV:=
 match a with
 | .ref r off=>match rows.getD r .dead with
  | .flat cs _=>
   if zap ti.tk then(if off+ti.size≤cs.length then M.pure (.agg ((cs.drop off).take ti.size)) else fail 11)
   else if off<cs.length then M.pure (cs.getD off .junk) else fail 11
  | .ints l _=>if zap ti.tk then fail 12 else do chk (decide (off<l.length));M.pure (.lit (.int .i64 (l.getD off 0)))
  | .lst ..=>fail 13
  | .dead=>fail 13
 | .pd cs off=>
  if zap ti.tk then(if off+ti.size≤cs.length then M.pure (.agg ((cs.drop off).take ti.size)) else fail 14)
  else if off<cs.length then M.pure (cs.getD off .junk) else fail 14
 | .qel l i=>if zap ti.tk then fail 12 else do chk (decide (i<l.length));M.pure (.lit (.int .i64 (l.getD i 0)))
 | _=>fail 15
def zcN:AV→Bool
 | .lit v=>v.oneCell'
 | .junk | .agg _ | .tup _=>false
 | _=>true
def zlZ (rows:List Row) (ti:TI) (a v:AV):M (List Row):=
 match a with
 | .ref r off=>match rows.getD r .dead with
  | .flat cs true=>do
   let vc ← ofOpt 16 (zjm v)
   if vc.length=ti.size∧off+vc.length≤cs.length∧vc.all zcN=true then M.pure (rows.set r (.flat (over cs off vc) true)) else fail 17
  | .ints l true=>match v with
   | .lit (.int .i64 n)=>if ti.size=1 then do chk (decide (off<l.length));M.pure (rows.set r (.ints (l.set off n) true)) else fail 18
   | _=>fail 18
  | _=>fail 19
 | _=>fail 20
def fieldA (s:TypeId) (a:AV) (f:Nat):M AV:=do
 let ti ← ty g s
 match ti.tk with
 | .struct fs=>
  let (ft,fo) ← ofOpt 21 fs[f]?
  let fti ← ty g ft
  if fti.size=0 then fail 22 else
  match a with
  | .ref r off=>M.pure (.ref r (off+fo))
  | .pd cs off=>M.pure (.pd cs (off+fo))
  | .rel r i sz o=>M.pure (.rel r i sz (o+fo))
  | _=>fail 23
 | _=>fail 24
def zpB (ti:TI) (cs:List AV) (off:Nat):M AV:=
 if zap ti.tk then(if off+ti.size≤cs.length then M.pure (.agg ((cs.drop off).take ti.size)) else fail 25)
 else if off<cs.length then M.pure (cs.getD off .junk) else fail 25
def zdP:AV→Option (List AV)
 | .agg cs=>some cs
 | .lit (.agg a)=>some (a.toList.map .lit)
 | _=>none
def asI:AV→Option Int
 | .lit (.int _ n)=>some n
 | _=>none
def zdy (t:TypeId) (x i:AV):M AV:=do
 let ti ← ty g t
 let i ← ofOpt 26 (asI i)
 match ti.tk with
 | .slice e=>
  let eti ← ty g e
  match x with
  | .own r off n sz=>if sz=eti.size then do chk (decide (0≤i));chk (decide (i<(n:Int)));M.pure (.ref r (off+i.toNat*sz)) else fail 27
  | .sl cs n=>do chk (decide (0≤i));chk (decide (i<(n:Int)));M.pure (.pd cs (i.toNat*eti.size))
  | x=>match ints? x with
   | some l=>if eti.size=1 then do chk (decide (0≤i));chk (decide (i<(l.length:Int)));M.pure (.qel l i.toNat) else fail 27
   | none=>fail 28
 | .arr n e=>
  let eti ← ty g e
  match x with
  | .ref r off=>do chk (decide (0≤i));chk (decide (i<(n:Int)));M.pure (.ref r (off+i.toNat*eti.size))
  | .pd cs off=>do chk (decide (0≤i));chk (decide (i<(n:Int)));M.pure (.pd cs (off+i.toNat*eti.size))
  | _=>fail 29
 | _=>fail 30
def ziB (place:Nat→Option (Nat × Nat)) (cells:List AV):List (Nat × AV)→Option (List AV)
 | []=>some cells
 | (i,v) :: rest=>
  match place i,zjm v with
  | some (off,size),some vc=>if vc.length=size∧off+vc.length≤cells.length then ziB place (over cells off vc) rest else none
  | _,_=>none
def zj0 (g:Cfg):List (TypeId × Nat)→Option (List (Nat × Nat))
 | []=>some []
 | (t,o) :: fs=>match tiOf g.P t,zj0 g fs with
  | some ti,some l=>some ((o,ti.size) :: l)
  | _,_=>none
def buildA (t:TypeId) (parts:List (Nat × AV)):M AV:=do
 let ti ← ty g t
 match ti.tk with
 | .struct fs=>
  let pl ← ofOpt 31 (zj0 g fs)
  let cs ← ofOpt 32 (ziB (fun i=>pl[i]?) (ti.zero.map .lit) parts)
  M.pure (.agg cs)
 | .arr _ e=>
  let eti ← ty g e
  let cs ← ofOpt 32 (ziB (fun i=>some (i*eti.size,eti.size)) (ti.zero.map .lit) parts)
  M.pure (.agg cs)
 | _=>fail 33
def zeB:List AV→Option (List Int)
 | []=>some []
 | .lit (.int .i64 n) :: l=>match zeB l with | some r=>some (n :: r) | none=>none
 | _=>none
def rowOf (isInt:Bool) (cs:List AV):Row:=
 match isInt,zeB cs with
 | true,some l=>.ints l true
 | _,_=>.flat cs true
def isI64:TK→Bool
 | .int .i64=>true
 | _=>false
def zmd:Nat→List AV→List AV
 | 0,_=>[]
 | n+1,z=>z++zmd n z
def zch (rows:List Row) (t:TypeId) (len:Nat) (parts:List (Nat × AV)):M (AV × List Row):=do
 let ti ← ty g t
 match ti.tk with
 | .slice e=>
  let eti ← ty g e
  if eti.size=0∨16777216<len*eti.size∨eti.zero.length≠eti.size then fail 34 else
  let cs ← ofOpt 35 (ziB (fun i=>some (i*eti.size,eti.size)) (zmd len (eti.zero.map .lit)) parts)
  if cs.all zcN=true then M.pure (.own rows.length 0 len eti.size,rows++[rowOf (isI64 eti.tk) cs]) else fail 36
 | _=>fail 37
def boxA (rows:List Row) (v:AV):M (AV × List Row):=do
 let vc ← ofOpt 38 (zjm v)
 M.pure (.ref rows.length 0,rows++[.flat vc true])
def allocA (rows:List Row) (t:TypeId):M (AV × List Row):=do
 let ti ← ty g t
 M.pure (.ref rows.length 0,rows++[.flat (ti.zero.map .lit) true])
def zdA (rows:List Row) (t:TypeId) (len cap:AV):M (AV × List Row):=do
 let ti ← ty g t
 match ti.tk with
 | .slice e=>
  let eti ← ty g e
  let l ← ofOpt 39 (asI len)
  let c ← ofOpt 39 (asI cap)
  chk (decide (0≤l));chk (decide (l≤c));chk (decide (eti.bytes*c≤281474976710656));chk (decide (c≤9223372036854775807))
  if isI64 eti.tk∧zeB (eti.zero.map .lit)=some [0]∧eti.size=1 then
   M.pure (.own rows.length 0 l.toNat 1,rows++[.ints (List.replicate l.toNat 0) true])
  else if eti.size=0∨eti.zero.length≠eti.size then fail 40
  else M.pure (.own rows.length 0 l.toNat eti.size,rows++[.flat (zmd l.toNat (eti.zero.map .lit)) true])
 | _=>fail 41
def ziw (d:Nat):Option AV→M Int
 | none=>M.pure (d:Int)
 | some x=>ofOpt 42 (asI x)
def sliceA (rows:List Row) (t:TypeId) (x:AV) (lo hi:Option AV):M AV:=do
 let ti ← ty g t
 match ti.tk with
 | .slice e=>
  let eti ← ty g e
  match x with
  | .own r off n sz=>match lo with
   | none=>do
    let h ← ziw n hi
    chk (decide (0≤h));chk (decide (h≤(n:Int)))
    M.pure (.own r off h.toNat sz)
   | some _=>fail 43
  | .sl cs n=>do
   let h ← ziw n hi
   let l ← ziw 0 lo
   chk (decide (0≤l));chk (decide (l≤h));chk (decide (h≤(n:Int)))
   if cs.length=n*eti.size then M.pure (.sl ((cs.take (h.toNat*eti.size)).drop (l.toNat*eti.size)) (h-l).toNat) else fail 44
  | x => match ints? x with
   | some q=>do
    if eti.size=1 then M.pure () else fail 44
    let h ← ziw q.length hi
    let l ← ziw 0 lo
    chk (decide (0≤l));chk (decide (l≤h));chk (decide (h≤(q.length:Int)))
    M.pure (.sq ((q.take h.toNat).drop l.toNat))
   | none=>fail 45
 | .arr n e=>
  let eti ← ty g e
  match x with
  | .ref r off=>do
   let h ← ziw n hi
   let l ← ziw 0 lo
   chk (decide (0≤l));chk (decide (l≤h));chk (decide (h≤(n:Int)))
   match rows.getD r .dead with
   | .flat cs _=>if off+n*eti.size≤cs.length∧n≠l.toNat then M.pure (.own r (off+l.toNat*eti.size) (h-l).toNat eti.size) else fail 46
   | _=>fail 46
  | _=>fail 46
 | _=>fail 47
def convA (src dst:TypeId) (x:AV):M AV:=do
 let si ← ty g src
 let di ← ty g dst
 match si.tk,di.tk,x with
 | .int _,.int k,.lit (.int _ n)=>do chk (inR k n);M.pure (.lit (.int k n))
 | _,_,_=>fail 48
def lenA (t:TypeId) (x:AV):M AV:=do
 let ti ← ty g t
 match ti.tk,x with
 | .slice _,.own _ _ n _=>M.pure (.lit (.int .i64 (n:Int)))
 | .slice _,.sl _ n=>M.pure (.lit (.int .i64 (n:Int)))
 | .slice _,.lit (.slice _ n _)=>M.pure (.lit (.int .i64 (n:Int)))
 | .slice _,.zl _ l=>M.pure (.lit (.int .i64 (l.length:Int)))
 | .slice _,.lst _ l=>M.pure (.lit (.int .i64 (l.length:Int)))
 | .slice _,x=>do
  let l ← ofOpt 49 (ints? x)
  M.pure (.lit (.int .i64 (l.length:Int)))
 | .str,.lit (.string s)=>M.pure (.lit (.int .i64 (s.size:Int)))
 | .arr n _,_=>M.pure (.lit (.int .i64 (n:Int)))
 | _,_=>fail 50
def zln (isMax:Bool):List AV→M AV
 | [.lit (.int k a),.lit (.int k' b)]=>
  if k=k' then M.pure (.lit (.int k (match isMax with | true=>if b > a then b else a | false=>if b<a then b else a))) else fail 51
 | _=>fail 51
end
def BZ:Nat→AV→Bool
 | 0,_=>false
 | _+1,.ref ..=>false
 | _+1,.own ..=>false
 | _+1,.rel ..=>false
 | f+1,.sl cs _=>cs.all (BZ f)
 | f+1,.pd cs _=>cs.all (BZ f)
 | f+1,.agg cs=>cs.all (BZ f)
 | f+1,.tup cs=>cs.all (BZ f)
 | f+1,.fn _ cs=>cs.all (BZ f)
 | _+1,_=>true
end Go.Ev
end
section
namespace Go.Ev
open Go.RowKit (Below)
structure Env where
 heap:Array Obj
 M:Nat→Prop
 rho:List Nat
def AZ (h:Array Obj) (b o:Nat):Option Value:=
 match h[b]? with
 | some (.cells c _ _)=>c[o]?
 | _=>none
def YZ (h:Array Obj) (b:Nat):Nat:=
 match h[b]? with
 | some (.cells c _ _)=>c.size
 | _=>0
theorem cell?_eq (w:World) (b o:Nat):w.cell? ⟨b,o,none⟩=AZ w.heap b o:=by
 rfl
def IntsAt (E:Env) (l:List Int) (a:Option Addr):Prop:=
 l=[]∨∃b o,a=some ⟨b,o,none⟩∧¬E.M b∧∀i,i<l.length→AZ E.heap b (o+i)=some (.int .i64 (l.getD i 0))
inductive Rd (E:Env):AV→Value→Prop
 | lit (v:Value):Rd E (.lit v) v
 | tt:Rd E .tt (.bool true)
 | ff:Rd E .ff (.bool false)
 | junk (v:Value):Rd E .junk v
 | ref {r off b:Nat} (h:E.rho[r]? = some b):Rd E (.ref r off) (.pointer (some ⟨b,off,none⟩))
 | own {r off n sz b cap:Nat} (h:E.rho[r]? = some b) (hs:b<E.heap.size) (hc:n≤cap) (hb:off+cap*sz≤YZ E.heap b):Rd E (.own r off n sz) (.slice (some ⟨b,off,none⟩) n cap)
 | sl0 {cells:List AV} {a:Option Addr} {cap:Nat}:Rd E (.sl cells 0) (.slice a 0 cap)
 | sl {cells:List AV} {n b o cap:Nat} (vals:Nat→Value) (hs:b<E.heap.size) (hM:¬E.M b) (hc:n≤cap)
  (hv:∀i,i<cells.length→AZ E.heap b (o+i)=some (vals i)) (hr:∀i,i<cells.length→Rd E (cells.getD i .junk) (vals i)) :
  Rd E (.sl cells n) (.slice (some ⟨b,o,none⟩) n cap)
 | sq {l:List Int} {a:Option Addr} {cap:Nat} (h:IntsAt E l a) (hc:l.length≤cap):Rd E (.sq l) (.slice a l.length cap)
 | qel {l:List Int} {i b o:Nat} (hs:b<E.heap.size) (hM:¬E.M b) (h:∀j,j<l.length→AZ E.heap b (o+j)=some (.int .i64 (l.getD j 0))) :
  Rd E (.qel l i) (.pointer (some ⟨b,o+i,none⟩))
 | pd {cells:List AV} {off b o:Nat} (vals:Nat→Value) (hs:b<E.heap.size) (hM:¬E.M b)
  (hv:∀i,i<cells.length→AZ E.heap b (o+i)=some (vals i)) (hr:∀i,i<cells.length→Rd E (cells.getD i .junk) (vals i)) :
  Rd E (.pd cells off) (.pointer (some ⟨b,o+off,none⟩))
 | agg {cells:List AV} {vs:Array Value} (hl:cells.length=vs.size) (hr:∀i,i<cells.length→Rd E (cells.getD i .junk) (vs.getD i undef)):Rd E (.agg cells) (.agg vs)
 | tup {cells:List AV} {vs:Array Value} (hl:cells.length=vs.size) (hr:∀i,i<cells.length→Rd E (cells.getD i .junk) (vs.getD i undef)):Rd E (.tup cells) (.tuple vs)
 | fn {f:FuncId} {caps:List AV} {vs:Array Value} (hl:caps.length=vs.size) (hr:∀i,i<caps.length→Rd E (caps.getD i .junk) (vs.getD i undef)):Rd E (.fn f caps) (.func (.func f) #[] vs)
 | wd {z:Int} {a:Option Addr} {cap:Nat} (h:IntsAt E (digs z.natAbs) a) (hc:(digs z.natAbs).length≤cap):Rd E (.wd z) (.slice a (digs z.natAbs).length cap)
 | ni {z:Int} {a:Option Addr} {cap:Nat} (h:IntsAt E (aZ z) a) (hc:(aZ z).length≤cap):Rd E (.ni z) (.slice a (aZ z).length cap)
 | zl {k:ZK} {l:List Int} {v:Value} (h:Rd E (.sl (uZ k l) l.length) v):Rd E (.zl k l) v
 | lst {k:EK} {l:List k.ty} {v:Value} (h:Rd E (.sl (hZ k l) l.length) v):Rd E (.lst k l) v
 | rel {r i sz fo b:Nat} (h:E.rho[r]? = some b):Rd E (.rel r i sz fo) (.pointer (some ⟨b,i*sz+fo,none⟩))
structure Ext (E E':Env):Prop where
 size:E.heap.size≤E'.heap.size
 keep:∀b,b<E.heap.size→¬E.M b→E'.heap[b]? = E.heap[b]?∧¬E'.M b
 rho:∀(r b:Nat),E.rho[r]? = some b→E'.rho[r]? = some b
 bsz:∀b,b<E.heap.size→YZ E'.heap b=YZ E.heap b
theorem Ext.refl (E:Env):Ext E E:=⟨Nat.le_refl _,fun _ _ h=>⟨rfl,h⟩,fun _ _ h=>h,fun _ _=>rfl⟩
theorem Ext.trans {A B C:Env} (h:Ext A B) (k:Ext B C):Ext A C where
 size:=Nat.le_trans h.size k.size
 keep b hb hm:=by
  obtain ⟨h1,h2⟩:=h.keep b hb hm
  obtain ⟨k1,k2⟩:=k.keep b (Nat.lt_of_lt_of_le hb h.size) h2
  exact ⟨k1.trans h1,k2⟩
 rho r b hr:=k.rho r b (h.rho r b hr)
 bsz b hb:=(k.bsz b (Nat.lt_of_lt_of_le hb h.size)).trans (h.bsz b hb)
theorem zbM {h:Array Obj} {b o:Nat} {v:Value} (hc:AZ h b o=some v):b<h.size:=by
 by_cases hlt:b<h.size
 ·exact hlt
 ·have hn:h[b]? = none:=by simp;omega
  simp [AZ,hn] at hc
theorem Ext.cell {E E':Env} (h:Ext E E') {b o:Nat} {v:Value} (hM:¬E.M b) (hc:AZ E.heap b o=some v):AZ E'.heap b o=some v∧¬E'.M b:=by
 obtain ⟨h1,h2⟩:=h.keep b (zbM hc) hM
 refine ⟨?_,h2⟩
 unfold AZ at *
 rw [h1];exact hc
theorem IntsAt.ext {E E':Env} (h:Ext E E') {l:List Int} {a:Option Addr} (hi:IntsAt E l a):IntsAt E' l a:=by
 rcases hi with rfl | ⟨b,o,rfl,hM,hv⟩
 ·exact .inl rfl
 ·cases hl:l with
  | nil=>exact .inl rfl
  | cons x t=>
   rw [← hl]
   have h0:=hv 0 (by simp [hl])
   exact .inr ⟨b,o,rfl,(h.cell hM h0).2,fun i hi=>(h.cell hM (hv i hi)).1⟩
theorem Rd.ext {E E':Env} (h:Ext E E') {x:AV} {v:Value} (hr:Rd E x v):Rd E' x v:=by
 induction hr with
 | lit v=>exact .lit v
 | tt=>exact .tt
 | ff=>exact .ff
 | junk v=>exact .junk v
 | ref h1=>exact .ref (h.rho _ _ h1)
 | own h1 hs hc hb=>exact .own (h.rho _ _ h1) (Nat.lt_of_lt_of_le hs h.size) hc (by rw [h.bsz _ hs];exact hb)
 | sl0=>exact .sl0
 | sl vals hs hM hc hv _ ih=>exact .sl vals (Nat.lt_of_lt_of_le hs h.size) (h.keep _ hs hM).2 hc (fun i hi=>(h.cell hM (hv i hi)).1) ih
 | sq h1 hc=>exact .sq (h1.ext h) hc
 | qel hs hM h1=>exact .qel (Nat.lt_of_lt_of_le hs h.size) (h.keep _ hs hM).2 (fun j hj=>(h.cell hM (h1 j hj)).1)
 | pd vals hs hM hv _ ih=>exact .pd vals (Nat.lt_of_lt_of_le hs h.size) (h.keep _ hs hM).2 (fun i hi=>(h.cell hM (hv i hi)).1) ih
 | agg hl _ ih=>exact .agg hl ih
 | tup hl _ ih=>exact .tup hl ih
 | fn hl _ ih=>exact .fn hl ih
 | wd h1 hc=>exact .wd (h1.ext h) hc
 | ni h1 hc=>exact .ni (h1.ext h) hc
 | zl _ ih=>exact .zl ih
 | lst _ ih=>exact .lst ih
 | rel h1=>exact .rel (h.rho _ _ h1)
def Row.live:Row→Bool
 | .flat _ b=>b
 | .ints _ b=>b
 | .lst _ _ b=>b
 | .dead=>false
def Row.alive:Row→Bool
 | .dead=>false
 | _=>true
def zcU (M0:Nat→Prop) (rows:List Row) (rho:List Nat) (b:Nat):Prop:=
 M0 b∨∃(r:Nat) (row:Row),rows[r]? = some row∧row.live=true∧rho[r]? = some b
def iZ (M0:Nat→Prop) (rows:List Row) (rho:List Nat) (w:World):Env:=⟨w.heap,zcU M0 rows rho,rho⟩
def RowAt (E:Env) (row:Row) (b:Nat):Prop:=
 match row with
 | .dead=>True
 | .flat cs _=>∃c e,E.heap[b]? = some (.cells c e (0,0))∧cs.length≤c.size∧∀i,i<cs.length→Rd E (cs.getD i .junk) (c.getD i undef)
 | .ints l _=>∃c e,E.heap[b]? = some (.cells c e (0,0))∧l.length≤c.size∧∀i,i<l.length→c[i]? = some (.int .i64 (l.getD i 0))
 | .lst k l _=>∃c e,E.heap[b]? = some (.cells c e (0,0))∧(hZ k l).length≤c.size∧∀i,i<(hZ k l).length→Rd E ((hZ k l).getD i .junk) (c.getD i undef)
structure Mem (B:Nat) (M0:Nat→Prop) (rows:List Row) (rho:List Nat) (w:World):Prop where
 hB:B≤w.heap.size
 m0:∀b,M0 b→b<B
 len:rho.length=rows.length
 bnd:∀(r b:Nat),rho[r]? = some b→B≤b∧b<w.heap.size
 row:∀(r:Nat) (row:Row) (b:Nat),rows[r]? = some row→rho[r]? = some b→RowAt (iZ M0 rows rho w) row b
 inj:∀(r r':Nat) (row row':Row) (b:Nat),rows[r]? = some row→rows[r']? = some row'→row.alive=true→row'.alive=true→rho[r]? = some b→rho[r']? = some b→r=r'
def Fa (E:Env) (l:List AV) (vs:Array Value):Prop:=
 l.length=vs.size∧∀i,i<l.length→Rd E (l.getD i .junk) (vs.getD i undef)
def Fr (E:Env) (tm:Fm) (tmps:Array Value):Prop:=
 tm.n=tmps.size∧∀i,Rd E (tm.get i) (tmps.getD i undef)
theorem Fr.ext {E E':Env} (h:Ext E E') {tm:Fm} {tmps:Array Value} (hf:Fr E tm tmps):Fr E' tm tmps:=
 ⟨hf.1,fun i=>(hf.2 i).ext h⟩
theorem Fr.getD {E:Env} {tm:Fm} {tmps:Array Value} (hf:Fr E tm tmps) (i:Nat):Rd E (tm.get i) (tmps.getD i undef):=hf.2 i
theorem Fr.set {E:Env} {tm:Fm} {tmps:Array Value} (hf:Fr E tm tmps) (d:Nat) {x:AV} {v:Value} (h:Rd E x v):Fr E (tm.set d x) (tmps.setIfInBounds d v):=by
 refine ⟨by rw [Fm.set_n];simp [hf.1],fun i=>?_⟩
 have other:∀i,i≠d→(tmps.setIfInBounds d v).getD i undef=tmps.getD i undef:=fun i hi=>by
  simp [Array.getD_eq_getD_getElem?,Array.getElem?_setIfInBounds_ne (Ne.symm hi)]
 rcases Fm.get_set tm d i x with ⟨h1,h2⟩ | ⟨h1,h2,h3⟩ | ⟨h1,h2⟩ | h1
 ·rw [h1,other i h2];exact hf.2 i
 ·rw [h1,h2]
  have:d<tmps.size:=by rw [← hf.1];exact h3
  simp_all
 ·rw [h1]
  have e:tmps.setIfInBounds d v=tmps:=by
   have:tmps.size≤d:=by rw [← hf.1];exact h2
   grind
  rw [e];exact hf.2 i
 ·rw [h1];exact .junk _
theorem Fr.know {E:Env} {tm:Fm} {tmps:Array Value} (hf:Fr E tm tmps) (d:Nat) {x:AV} (h:Rd E x (tmps.getD d undef)):Fr E (tm.set d x) tmps:=by
 refine ⟨by rw [Fm.set_n];exact hf.1,fun i=>?_⟩
 rcases Fm.get_set tm d i x with ⟨h1,h2⟩ | ⟨h1,h2,h3⟩ | ⟨h1,h2⟩ | h1
 ·rw [h1];exact hf.2 i
 ·rw [h1,h2];exact h
 ·rw [h1];exact hf.2 i
 ·rw [h1];exact .junk _
theorem Fr.base {E:Env} {n:Nat} {tmps:Array Value} (h:n=tmps.size):Fr E ⟨n,q5⟩ tmps:=⟨h,fun i=>by rw [Fm.get_q5];exact .junk _⟩
theorem Fr.fill {E:Env} {tmps:Array Value}:∀ {l:List AV} {i:Nat} {tm:Fm},Fr E tm tmps→(∀j,j<l.length→Rd E (l.getD j .junk) (tmps.getD (i+j) undef))→Fr E (tm.fill i l) tmps
 | [],_,_,hf,_=>hf
 | x :: l,i,tm,hf,h=>by
  have h0:Rd E x (tmps.getD i undef):=h 0 (by simp)
  exact Fr.fill (l:=l) (i:=i+1) (hf.know i h0) fun j hj=>by
   have:=h (j+1) (by simpa using hj)
   grind
theorem Fr.args {E:Env} {l:List AV} {vs:Array Value} {n:Nat} (h:Fa E l vs) (hn:¬n<l.length):Fr E (Fm.args n l) (vs++Array.replicate (n-vs.size) undef):=by
 have hl:=h.1
 refine Fr.fill (Fr.base (by simp;omega)) fun j hj=>?_
 have e:(vs++Array.replicate (n-vs.size) undef).getD (0+j) undef=vs.getD j undef:=by
  rw [Nat.zero_add,Array.getD_eq_getD_getElem?,Array.getD_eq_getD_getElem?,Array.getElem?_append_left (by omega)]
 rw [e];exact h.2 j hj
def Frm (n0:Nat) (rows:List Row) (rho:List Nat) (w:World) (wr:List Nat) (rows':List Row) (rho':List Nat) (w':World) (wr':List Nat):Prop:=
 n0 ≤ rho'.length∧(∀s∈wr,s<n0→s∈wr') ∧
  ∀(r:Nat) (row:Row) (b:Nat),r<n0→rows[r]? = some row→row.alive=true→rho[r]? = some b→r ∉ wr' →
   w'.heap[b]? = w.heap[b]?∧rho'[r]? = some b∧∃row':Row,rows'[r]? = some row'∧row'.alive=true
theorem Frm.refl {rows:List Row} {rho:List Nat} (w:World) (wr:List Nat):Frm rho.length rows rho w wr rows rho w wr:=
 ⟨Nat.le_refl _,fun _ h _=>h,fun _ row _ _ h1 h2 h3 _=>⟨rfl,h3,row,h1,h2⟩⟩
theorem Frm.mono {n0 n1 rows rho w wr rows' rho' w' wr'} (hn:n1≤n0) (h:Frm n0 rows rho w wr rows' rho' w' wr'):Frm n1 rows rho w wr rows' rho' w' wr':=
 ⟨Nat.le_trans hn h.1,fun s hs hl=>h.2.1 s hs (Nat.lt_of_lt_of_le hl hn),fun r row b hr=>h.2.2 r row b (Nat.lt_of_lt_of_le hr hn)⟩
theorem Frm.trans {n0 rows rho w wr rows1 rho1 w1 wr1 rows2 rho2 w2 wr2} (h:Frm n0 rows rho w wr rows1 rho1 w1 wr1) (k:Frm n0 rows1 rho1 w1 wr1 rows2 rho2 w2 wr2):Frm n0 rows rho w wr rows2 rho2 w2 wr2:=by
 refine ⟨k.1,fun s hs hl=>k.2.1 s (h.2.1 s hs hl) hl,fun r row b hr h1 h2 h3 h4=>?_⟩
 obtain ⟨a1,a2,row1,a3,a4⟩:=h.2.2 r row b hr h1 h2 h3 (fun hh=>h4 (k.2.1 r hh hr))
 obtain ⟨b1,b2,b3⟩:=k.2.2 r row1 b hr a3 a4 a2 h4
 simp_all
structure Stp (B:Nat) (M0:Nat→Prop) (rows:List Row) (rho:List Nat) (wr:List Nat) (w:World) (rows':List Row) (rho':List Nat) (wr':List Nat) (w':World):Prop where
 ext:Ext (iZ M0 rows rho w) (iZ M0 rows' rho' w')
 mem:Mem B M0 rows' rho' w'
 below:Below B w w'
 frm:Frm rho.length rows rho w wr rows' rho' w' wr'
theorem Stp.trans {B M0 rows rho wr w rows1 rho1 wr1 w1 rows2 rho2 wr2 w2} (h:Stp B M0 rows rho wr w rows1 rho1 wr1 w1) (k:Stp B M0 rows1 rho1 wr1 w1 rows2 rho2 wr2 w2) :
 Stp B M0 rows rho wr w rows2 rho2 wr2 w2:=
 ⟨h.ext.trans k.ext,k.mem,h.below.trans k.below,h.frm.trans (k.frm.mono h.frm.1)⟩
theorem Stp.refl {B M0 rows rho wr w} (h:Mem B M0 rows rho w):Stp B M0 rows rho wr w rows rho wr w:=
 ⟨Ext.refl _,h,Below.refl _ _,Frm.refl _ _⟩
def fen (ro:Option Nat):Fence:={ Fence.wide with round:=ro }
def markD (r:Nat):Deferred:={ target:=.collected r,args:=#[] }
def Mk (E:Env) (L:Nat) (ds:List Deferred):Prop:=
 L≤E.heap.size∧∃rs:List Nat,ds=rs.map markD∧rs.Nodup∧∀r∈rs,L≤r∧r<E.heap.size∧¬E.M r∧E.heap[r]? = some (.deferred (some []))
theorem Mk.nil {E:Env} {L:Nat} (h:L≤E.heap.size):Mk E L []:=⟨h,[],rfl,List.nodup_nil,fun _ hr=>(by cases hr)⟩
theorem Mk.keep {E E':Env} {L:Nat} {ds:List Deferred} (h:Mk E L ds) (hs:E.heap.size≤E'.heap.size)
 (hk:∀b,b<E.heap.size→¬E.M b→E'.heap[b]? = E.heap[b]?∧¬E'.M b):Mk E' L ds:=by
 obtain ⟨h0,rs,h1,h2,h3⟩:=h
 refine ⟨Nat.le_trans h0 hs,rs,h1,h2,fun r hr=>?_⟩
 grind
theorem Mk.ext {E E':Env} {L:Nat} {ds:List Deferred} (h:Mk E L ds) (hx:Ext E E'):Mk E' L ds:=h.keep hx.size hx.keep
def Post (B:Nat) (M0:Nat→Prop) (L:Nat) (rho:List Nat) (st:St) (w:World) (r:Ex × St):Exit→Act→World→Prop:=fun e a' w'=>
 e=r.1.toExit∧∃rho',Stp B M0 st.rows rho st.wr w r.2.rows rho' r.2.wr w'∧Fr (iZ M0 r.2.rows rho' w') r.2.tm a'.tmps∧Mk (iZ M0 r.2.rows rho' w') L a'.defers
def AWi (i:Bool) (P:Program) (c:Code) (st:St) (r:Ex × St):Prop:=
 ∀B M0 L rho a w ro,ro.isSome=i→Mem B M0 st.rows rho w→Fr (iZ M0 st.rows rho w) st.tm a.tmps→Mk (iZ M0 st.rows rho w) L a.defers→c.wpIn (fen ro) 0 P (Post B M0 L rho st w r) a w
abbrev AW:=AWi false
def FC (P:Program) (f:FuncId) (args:List AV) (res:AV):Prop:=
 ∀(M:Nat→Prop) (w:World) (vs:Array Value),(∀b,M b→b<w.heap.size)→args.length=vs.size →
  (∀i,i<args.length→Rd ⟨w.heap,M,[]⟩ (args.getD i .junk) (vs.getD i undef)) →
  Calls P f vs w fun e w'=>∃v,e=.returned v∧Below w.heap.size w w'∧Rd ⟨w'.heap,M,[]⟩ res v
theorem Post.trans {B M0 L rho st w st1 rho1 w1 r e a' w'} (h:Stp B M0 st.rows rho st.wr w st1.rows rho1 st1.wr w1) (k:Post B M0 L rho1 st1 w1 r e a' w'):Post B M0 L rho st w r e a' w':=by
 obtain ⟨he,rho',hs,hf,hd⟩:=k
 exact ⟨he,rho',h.trans hs,hf,hd⟩
section
variable {P:Program} {i:Bool}
theorem AWi.seq {a b:Code} {st st1:St} {r:Ex × St} (h:AWi i P a st (.normal,st1)) (k:AWi i P b st1 r):AWi i P (.seq a b) st r:=by
 intro B M0 L rho act w ro hi hm hf hd
 refine wpIn_seq (wpIn_mono (h B M0 L rho act w ro hi hm hf hd) ?_)
 rintro e a' w' ⟨he,rho',hs,hf',hd'⟩
 subst he
 exact wpIn_mono (k B M0 L rho' a' w' ro hi hs.mem hf' hd') (fun e a2 w2 hp=>Post.trans hs hp)
theorem AWi.seq_out {a b:Code} {st:St} {r:Ex × St} (h:AWi i P a st r) (hr:r.1.toExit≠.normal):AWi i P (.seq a b) st r:=by
 intro B M0 L rho act w ro hi hm hf hd
 refine wpIn_seq (wpIn_mono (h B M0 L rho act w ro hi hm hf hd) ?_)
 rintro e a' w' hp
 have he:=hp.1
 cases e<;>first | (exact absurd he.symm hr) | exact hp
theorem AWi.skip {st:St}:AWi i P .skip st (.normal,st):=fun _ _ _ rho _ _ _ _ hm hf hd=>wpIn_skip ⟨rfl,rho,Stp.refl hm,hf,hd⟩
theorem AWi.label {st:St} {l:Nat}:AWi i P (.label l) st (.normal,st):=fun _ _ _ rho _ _ _ _ hm hf hd=>wpIn_label ⟨rfl,rho,Stp.refl hm,hf,hd⟩
theorem AWi.exit {st:St} {id:Nat}:AWi i P (.exit id) st (.exit id,st):=fun _ _ _ rho _ _ _ _ hm hf hd=>wpIn_exit ⟨rfl,rho,Stp.refl hm,hf,hd⟩
theorem AWi.ret {st:St}:AWi i P .ret st (.ret,st):=fun _ _ _ rho _ _ _ _ hm hf hd=>wpIn_ret ⟨rfl,rho,Stp.refl hm,hf,hd⟩
theorem AWi.block {b:Code} {st st':St} {id:Nat} {e:Ex} (h:AWi i P b st (e,st')) :
 AWi i P (.block id b) st (e.out id,st'):=by
 intro B M0 L rho act w ro hi hm hf hd
 refine wpIn_block (wpIn_mono (h B M0 L rho act w ro hi hm hf hd) ?_)
 rintro e' a' w' ⟨he,hrest⟩
 subst he
 cases e with
 | normal=>exact ⟨rfl,hrest⟩
 | ret=>exact ⟨rfl,hrest⟩
 | exit j=>
  simp only [Ex.toExit,Ex.out,Exit.inBlock]
  by_cases hj:j=id
  ·simp only [hj,if_true];exact ⟨rfl,hrest⟩
  ·simp only [hj,if_false];exact ⟨rfl,hrest⟩
end
structure StpN (n0:Nat) (B:Nat) (M0:Nat→Prop) (rows:List Row) (rho:List Nat) (wr:List Nat) (w:World) (rows':List Row) (rho':List Nat) (wr':List Nat) (w':World):Prop where
 size:w.heap.size≤w'.heap.size
 keep:∀b,b<w.heap.size→¬zcU M0 rows rho b→w'.heap[b]? = w.heap[b]?∧¬zcU M0 rows' rho' b
 hrho:∀(r b:Nat),r<n0→rho[r]? = some b→rho'[r]? = some b
 bsz:∀b,b<w.heap.size→YZ w'.heap b=YZ w.heap b
 mem:Mem B M0 rows' rho' w'
 below:Below B w w'
 frm:Frm n0 rows rho w wr rows' rho' w' wr'
theorem Stp.toN {n0 B M0 rows rho wr w rows' rho' wr' w'} (hn:n0≤rho.length) (h:Stp B M0 rows rho wr w rows' rho' wr' w'):StpN n0 B M0 rows rho wr w rows' rho' wr' w' where
 size:=h.ext.size
 keep:=h.ext.keep
 hrho r b _ hr:=h.ext.rho r b hr
 bsz:=h.ext.bsz
 mem:=h.mem
 below:=h.below
 frm:=h.frm.mono hn
theorem StpN.toStp {B M0 rows rho wr w rows' rho' wr' w'} (h:StpN rho.length B M0 rows rho wr w rows' rho' wr' w'):Stp B M0 rows rho wr w rows' rho' wr' w' where
 ext:=⟨h.size,h.keep,fun r b hr=>h.hrho r b (List.getElem?_eq_some_iff.1 hr).1 hr,h.bsz⟩
 mem:=h.mem
 below:=h.below
 frm:=h.frm
theorem StpN.trans {n0 B M0 rows rho wr w rows1 rho1 wr1 w1 rows2 rho2 wr2 w2} (h:StpN n0 B M0 rows rho wr w rows1 rho1 wr1 w1) (k:StpN n0 B M0 rows1 rho1 wr1 w1 rows2 rho2 wr2 w2) :
 StpN n0 B M0 rows rho wr w rows2 rho2 wr2 w2 where
 size:=Nat.le_trans h.size k.size
 keep b hb hm:=by
  obtain ⟨h1,h2⟩:=h.keep b hb hm
  obtain ⟨k1,k2⟩:=k.keep b (Nat.lt_of_lt_of_le hb h.size) h2
  exact ⟨k1.trans h1,k2⟩
 hrho r b hn hr:=k.hrho r b hn (h.hrho r b hn hr)
 bsz b hb:=(k.bsz b (Nat.lt_of_lt_of_le hb h.size)).trans (h.bsz b hb)
 mem:=k.mem
 below:=h.below.trans k.below
 frm:=h.frm.trans k.frm
def PostN (n0:Nat) (B:Nat) (M0:Nat→Prop) (L:Nat) (rho:List Nat) (st:St) (w:World) (r:Ex × St):Exit→Act→World→Prop:=fun e a' w'=>
 e=r.1.toExit∧∃rho',StpN n0 B M0 st.rows rho st.wr w r.2.rows rho' r.2.wr w'∧Fr (iZ M0 r.2.rows rho' w') r.2.tm a'.tmps∧Mk (iZ M0 r.2.rows rho' w') L a'.defers
def AWn (n0:Nat) (P:Program) (c:Code) (st:St) (r:Ex × St):Prop:=
 ∀B M0 L rho a w,n0≤rho.length→Mem B M0 st.rows rho w→Fr (iZ M0 st.rows rho w) st.tm a.tmps→Mk (iZ M0 st.rows rho w) L a.defers→c.wpIn (fen none) 0 P (PostN n0 B M0 L rho st w r) a w
theorem AWi.toN {P:Program} {c:Code} {st:St} {r:Ex × St} (n0:Nat) (h:AW P c st r):AWn n0 P c st r:=by
 intro B M0 L rho a w hn hm hf hd
 refine wpIn_mono (h B M0 L rho a w none rfl hm hf hd) ?_
 rintro e a' w' ⟨he,rho',hs,hf',hd'⟩
 exact ⟨he,rho',hs.toN hn,hf',hd'⟩
theorem AWn.toAW {P:Program} {c:Code} {st:St} {r:Ex × St} (h:AWn st.rows.length P c st r):AW P c st r:=by
 intro B M0 L rho a w ro hi hm hf hd
 have hl:=hm.len
 cases ro with
 | some _=>cases hi
 | none=>
  refine wpIn_mono (h B M0 L rho a w (by omega) hm hf hd) ?_
  rintro e a' w' ⟨he,rho',hs,hf',hd'⟩
  rw [← hl] at hs
  exact ⟨he,rho',hs.toStp,hf',hd'⟩
def Weak (n0:Nat) (st st':St):Prop:=
 ∀B M0 rho tmps w,n0≤rho.length→Mem B M0 st.rows rho w→Fr (iZ M0 st.rows rho w) st.tm tmps →
  ∃rho',StpN n0 B M0 st.rows rho st.wr w st'.rows rho' st'.wr w∧Fr (iZ M0 st'.rows rho' w) st'.tm tmps
inductive Loops (n0:Nat) (P:Program) (b:Code):St→Ex × St→Prop
 | out {st:St} {r:Ex × St} (h:AWn n0 P b st r) (hr:r.1.toExit≠.normal):Loops n0 P b st r
 | step {st st1:St} {r:Ex × St} (h:AWn n0 P b st (.normal,st1)) (k:Loops n0 P b st1 r):Loops n0 P b st r
 | weak {st st1:St} {r:Ex × St} (h:Weak n0 st st1) (k:Loops n0 P b st1 r):Loops n0 P b st r
 | weakOut {st st1 st2:St} {e:Ex} (h:Weak n0 st1 st2) (k:Loops n0 P b st (e,st1)):Loops n0 P b st (e,st2)
theorem zbn {P:Program} {F:Fence} {b:Code} {Q Q':Exit→Act→World→Prop} (hq:∀e a w,Q e a w→Q' e a w) (n:Nat):∀(a:Act) (w:World),Code.roundsIn F 0 P b Q n a w→Code.roundsIn F 0 P b Q' n a w:=by
 induction n with
 | zero=>intro a w h;exact h
 | succ n ih=>
  intro a w h
  rw [roundsIn_succ] at h ⊢
  refine wpIn_mono h ?_
  intro e a w hh
  cases e<;>simp only [Exit.then] at hh ⊢ <;> first | exact ih _ _ hh | exact hq _ _ _ hh
def AWL (i:Bool) (P:Program) (b:Code) (st:St) (r:Ex × St):Prop:=
 ∃n,∀B M0 L rho a w ro,ro.isSome=i→Mem B M0 st.rows rho w→Fr (iZ M0 st.rows rho w) st.tm a.tmps→Mk (iZ M0 st.rows rho w) L a.defers→Code.roundsIn (fen ro) 0 P b (Post B M0 L rho st w r) n a w
theorem AWL.aw {i:Bool} {P:Program} {b:Code} {st:St} {r:Ex × St} (h:AWL i P b st r):AWi i P (.loop b) st r:=by
 obtain ⟨n,h⟩:=h
 exact fun B M0 L rho a w ro hi hm hf hd=>wpIn_loop_rounds n (h B M0 L rho a w ro hi hm hf hd)
theorem AWL.out {i:Bool} {P:Program} {b:Code} {st:St} {r:Ex × St} (h:AWi i P b st r) (hr:r.1.toExit≠.normal):AWL i P b st r:=by
 refine ⟨1,fun B M0 L rho a w ro hi hm hf hd=>?_⟩
 rw [roundsIn_succ]
 refine wpIn_mono (h B M0 L rho a w ro hi hm hf hd) ?_
 intro e a' w' hp
 have he:=hp.1
 cases e<;>first | (exact absurd he.symm hr) | exact hp
theorem AWL.step {i:Bool} {P:Program} {b:Code} {st st1:St} {r:Ex × St} (h:AWi i P b st (.normal,st1)) (k:AWL i P b st1 r):AWL i P b st r:=by
 obtain ⟨n,k⟩:=k
 refine ⟨n+1,fun B M0 L rho a w ro hi hm hf hd=>?_⟩
 rw [roundsIn_succ]
 refine wpIn_mono (h B M0 L rho a w ro hi hm hf hd) ?_
 rintro e a' w' ⟨he,rho',hs,hf',hd'⟩
 subst he
 exact zbn (fun e a2 w2 hp=>Post.trans hs hp) n a' w' (k B M0 L rho' a' w' ro hi hs.mem hf' hd')
theorem Loops.rounds {n0:Nat} {P:Program} {b:Code} {st:St} {r:Ex × St} (h:Loops n0 P b st r) :
 ∃n,∀B M0 L rho a w,n0≤rho.length→Mem B M0 st.rows rho w→Fr (iZ M0 st.rows rho w) st.tm a.tmps→Mk (iZ M0 st.rows rho w) L a.defers →
  Code.roundsIn (fen none) 0 P b (PostN n0 B M0 L rho st w r) n a w:=by
 induction h with
 | out h hr=>
  refine ⟨1,fun B M0 L rho a w hn hm hf hd=>?_⟩
  rw [roundsIn_succ]
  refine wpIn_mono (h B M0 L rho a w hn hm hf hd) ?_
  intro e a' w' hp
  have he:=hp.1
  cases e<;>first | (exact absurd he.symm hr) | exact hp
 | step h _ ih=>
  obtain ⟨n,ih⟩:=ih
  refine ⟨n+1,fun B M0 L rho a w hn hm hf hd=>?_⟩
  rw [roundsIn_succ]
  refine wpIn_mono (h B M0 L rho a w hn hm hf hd) ?_
  rintro e a' w' ⟨he,rho',hs,hf',hd'⟩
  subst he
  refine zbn ?_ n a' w' (ih B M0 L rho' a' w' hs.frm.1 hs.mem hf' hd')
  rintro e a2 w2 ⟨he2,rho2,hs2,hf2,hd2⟩
  exact ⟨he2,rho2,hs.trans hs2,hf2,hd2⟩
 | weak h _ ih=>
  obtain ⟨n,ih⟩:=ih
  refine ⟨n,fun B M0 L rho a w hn hm hf hd=>?_⟩
  obtain ⟨rho',hs,hf'⟩:=h B M0 rho a.tmps w hn hm hf
  refine zbn ?_ n a w (ih B M0 L rho' a w hs.frm.1 hs.mem hf' (hd.keep hs.size hs.keep))
  rintro e a2 w2 ⟨he2,rho2,hs2,hf2,hd2⟩
  exact ⟨he2,rho2,hs.trans hs2,hf2,hd2⟩
 | weakOut h _ ih=>
  obtain ⟨n,ih⟩:=ih
  refine ⟨n,fun B M0 L rho a w hn hm hf hd=>zbn ?_ n a w (ih B M0 L rho a w hn hm hf hd)⟩
  rintro e a2 w2 ⟨he2,rho2,hs2,hf2,hd2⟩
  obtain ⟨rho3,hs3,hf3⟩:=h B M0 rho2 a2.tmps w2 hs2.frm.1 hs2.mem hf2
  exact ⟨he2,rho3,hs2.trans hs3,hf3,hd2.keep hs3.size hs3.keep⟩
theorem Loops.aw {P:Program} {b:Code} {st:St} {r:Ex × St} (h:Loops st.rows.length P b st r):AW P (.loop b) st r:=by
 refine AWn.toAW ?_
 intro B M0 L rho a w hn hm hf hd
 obtain ⟨n,hr⟩:=h.rounds
 exact wpIn_loop_rounds n (hr B M0 L rho a w hn hm hf hd)
theorem zji {E:Env} {cells:List AV} {n:Nat} {v:Value} (h:Rd E (.sl cells n) v):∃a cap,v=.slice a n cap∧n≤cap∧(n≠0→a.isNone=false):=by
 cases h with
 | sl0=>simp
 | sl vals hs hM hc=>grind
theorem zdata {k:ZK} {l:List Int} {n:Nat}:BZ 3 (.sl (uZ k l) n)=true:=by
 unfold BZ
 induction l with
 | nil=>rfl
 | cons z l ih=>
  unfold uZ
  rw [List.all_append,ih,Bool.and_true]
  cases k<;>simp [zgm,BZ]
theorem slA_data (e:EK) (l:List e.ty) (f:Nat):BZ (f+1) (slA e l)=true:=by
 unfold slA
 split<;>rfl
theorem zfE (f:Nat):∀(k:EK) (x:k.ty),(k.cells x).all (BZ (f+1))=true
 | .int _,_=>by simp [EK.cells,BZ]
 | .bool,_=>by simp [EK.cells,BZ]
 | .str,_=>by simp [EK.cells,BZ]
 | .whole,_=>by simp [EK.cells,BZ]
 | .un,_=>by simp [EK.cells]
 | .pr a b,p=>by
  unfold EK.cells
  rw [List.all_append,zfE f a,zfE f b];rfl
 | .sl e,l=>by
  unfold EK.cells
  rw [List.all_cons,slA_data];rfl
theorem zd4 (f:Nat) (k:EK):∀l:List k.ty,(hZ k l).all (BZ (f+1))=true
 | []=>rfl
 | x :: l=>by
  unfold hZ
  rw [List.all_append,zfE f k x,zd4 f k l];rfl
theorem ldata {k:EK} {l:List k.ty} {n:Nat}:BZ 2 (.sl (hZ k l) n)=true:=zd4 0 k l
theorem Rd.data {E E':Env} (hh:E'.heap=E.heap) (hM:∀b,¬E.M b→¬E'.M b) {x:AV} {v:Value} (h:Rd E x v):∀f,BZ f x=true→Rd E' x v:=by
 have ints:∀ {l:List Int} {a:Option Addr},IntsAt E l a→IntsAt E' l a:=by
  rintro l a (rfl | ⟨b,o,rfl,hm,hv⟩)
  ·exact .inl rfl
  ·exact .inr ⟨b,o,rfl,hM _ hm,by rw [hh];exact hv⟩
 have all:∀ {cs:List AV} {f:Nat},cs.all (BZ f)=true→∀i,i<cs.length→BZ f (cs.getD i .junk)=true:=by
  simp_all
 induction h with
 | lit v=>intro f _;exact .lit v
 | tt=>intro f _;exact .tt
 | ff=>intro f _;exact .ff
 | junk v=>intro f _;exact .junk v
 | ref h=>intro f hd;cases f<;>simp [BZ] at hd
 | own h=>intro f hd;cases f<;>simp [BZ] at hd
 | sl0=>intro f _;exact .sl0
 | sl vals hs hm hc hv _ ih=>
  intro f hd
  cases f with
  | zero=>simp [BZ] at hd
  | succ f=>exact .sl vals (by rw [hh];exact hs) (hM _ hm) hc (fun i hi=>by rw [hh];exact hv i hi) (fun i hi=>ih i hi f (all hd i hi))
 | sq h1 hc=>intro f _;exact .sq (ints h1) hc
 | qel hs hm h1=>intro f _;exact .qel (by rw [hh];exact hs) (hM _ hm) (by rw [hh];exact h1)
 | pd vals hs hm hv _ ih=>
  intro f hd
  cases f with
  | zero=>simp [BZ] at hd
  | succ f=>exact .pd vals (by rw [hh];exact hs) (hM _ hm) (fun i hi=>by rw [hh];exact hv i hi) (fun i hi=>ih i hi f (all hd i hi))
 | agg hl _ ih=>
  intro f hd
  cases f with
  | zero=>simp [BZ] at hd
  | succ f=>exact .agg hl (fun i hi=>ih i hi f (all hd i hi))
 | tup hl _ ih=>
  intro f hd
  cases f with
  | zero=>simp [BZ] at hd
  | succ f=>exact .tup hl (fun i hi=>ih i hi f (all hd i hi))
 | fn hl _ ih=>
  intro f hd
  cases f with
  | zero=>simp [BZ] at hd
  | succ f=>exact .fn hl (fun i hi=>ih i hi f (all hd i hi))
 | wd h1 hc=>intro f _;exact .wd (ints h1) hc
 | ni h1 hc=>intro f _;exact .ni (ints h1) hc
 | zl _ ih=>intro f _;exact .zl (ih 3 zdata)
 | lst _ ih=>intro f _;exact .lst (ih 2 ldata)
 | rel h=>intro f hd;cases f<;>simp [BZ] at hd
def zmc (σ:Nat→Option Nat):Nat→AV→AV
 | 0,_=>.junk
 | f+1,x=>match x with
  | .ref r off=>match σ r with | some s=>.ref s off | none=>.junk
  | .own r off n sz=>match σ r with | some s=>.own s off n sz | none=>.junk
  | .rel r i sz fo=>match σ r with | some s=>.rel s i sz fo | none=>.junk
  | .sl cs n=>.sl (cs.map (zmc σ f)) n
  | .pd cs off=>.pd (cs.map (zmc σ f)) off
  | .agg cs=>.agg (cs.map (zmc σ f))
  | .tup cs=>.tup (cs.map (zmc σ f))
  | .fn g cs=>.fn g (cs.map (zmc σ f))
  | x=>x
theorem getD_map_junk {f:AV→AV} (_:True) {l:List AV} {i:Nat} (hi:i<l.length):(l.map f).getD i .junk=f (l.getD i .junk):=by
 simp_all
theorem Rd.ren {E E':Env} {σ:Nat→Option Nat} (hh:E'.heap=E.heap) (hM:∀b,¬E.M b→¬E'.M b)
 (hr:∀r s b:Nat,σ r=some s→E.rho[r]? = some b→E'.rho[s]? = some b) {x:AV} {v:Value} (h:Rd E x v):∀f,Rd E' (zmc σ f x) v:=by
 have cell:∀ {l:List AV} {f:Nat} {vals:Nat→Value},(∀i,i<l.length→∀f,Rd E' (zmc σ f (l.getD i .junk)) (vals i)) →
  ∀i,i<(l.map (zmc σ f)).length→Rd E' ((l.map (zmc σ f)).getD i .junk) (vals i):=by
  simp_all
 have ints:∀ {l:List Int} {a:Option Addr},IntsAt E l a→IntsAt E' l a:=by
  rintro l a (rfl | ⟨b,o,rfl,hm,hv⟩)
  ·exact .inl rfl
  ·exact .inr ⟨b,o,rfl,hM _ hm,by rw [hh];exact hv⟩
 induction h with
 | lit v=>intro f;cases f<;>first | exact .junk _ | exact .lit v
 | tt=>intro f;cases f<;>first | exact .junk _ | exact .tt
 | ff=>intro f;cases f<;>first | exact .junk _ | exact .ff
 | junk v=>intro f;cases f<;>exact .junk _
 | @ref r off b h1=>
  intro f
  cases f with
  | zero=>exact .junk _
  | succ f=>
   simp only [zmc]
   cases hs:σ r with
   | none=>exact .junk _
   | some s=>exact .ref (hr r s b hs h1)
 | @own r off n sz b cap h1 hs hc hb=>
  intro f
  cases f with
  | zero=>exact .junk _
  | succ f=>
   simp only [zmc]
   cases hs':σ r with
   | none=>exact .junk _
   | some s=>exact .own (hr r s b hs' h1) (by rw [hh];exact hs) hc (by rw [hh];exact hb)
 | sl0=>intro f;cases f<;>first | exact .junk _ | exact .sl0
 | sl vals hs hm hc hv _ ih=>
  intro f
  cases f with
  | zero=>exact .junk _
  | succ f=>exact .sl vals (by rw [hh];exact hs) (hM _ hm) hc (fun i hi=>by simp_all) (cell ih)
 | sq h1 hc=>intro f;cases f<;>first | exact .junk _ | exact .sq (ints h1) hc
 | qel hs hm h1=>intro f;cases f<;>first | exact .junk _ | exact .qel (by rw [hh];exact hs) (hM _ hm) (by rw [hh];exact h1)
 | pd vals hs hm hv _ ih=>
  intro f
  cases f with
  | zero=>exact .junk _
  | succ f=>exact .pd vals (by rw [hh];exact hs) (hM _ hm) (fun i hi=>by simp_all) (cell ih)
 | @agg cells vs hl _ ih=>
  intro f
  cases f with
  | zero=>exact .junk _
  | succ f=>exact .agg (by simpa using hl) (cell (vals:=fun i=>vs.getD i undef) ih)
 | @tup cells vs hl _ ih=>
  intro f
  cases f with
  | zero=>exact .junk _
  | succ f=>exact .tup (by simpa using hl) (cell (vals:=fun i=>vs.getD i undef) ih)
 | @fn g caps vs hl _ ih=>
  intro f
  cases f with
  | zero=>exact .junk _
  | succ f=>exact .fn (by simpa using hl) (cell (vals:=fun i=>vs.getD i undef) ih)
 | wd h1 hc=>intro f;cases f<;>first | exact .junk _ | exact .wd (ints h1) hc
 | ni h1 hc=>intro f;cases f<;>first | exact .junk _ | exact .ni (ints h1) hc
 | zl h _=>intro f;cases f<;>first | exact .junk _ | exact .zl (Rd.data hh hM h 3 zdata)
 | lst h _=>intro f;cases f<;>first | exact .junk _ | exact .lst (Rd.data hh hM h 2 ldata)
 | @rel r i sz fo b h1=>
  intro f
  cases f with
  | zero=>exact .junk _
  | succ f=>
   simp only [zmc]
   cases hs:σ r with
   | none=>exact .junk _
   | some s=>exact .rel (hr r s b hs h1)
def zeU (σ:Nat→Option Nat):Row→Row
 | .flat cs b=>.flat (cs.map (zmc σ 20)) b
 | r=>r
def zaq (σ:Nat→Option Nat) (src:List Nat):List Row→Nat→List Row
 | [],_=>[]
 | row :: l,i=>(if src.contains i then .dead else zeU σ row) :: zaq σ src l (i+1)
def zcd (n0:Nat) (src:List Nat) (r:Nat):Option Nat:=
 if src.contains r then some (n0+src.idxOf r) else if r<n0 then some r else none
def zhl (σ:Nat→Option Nat) (tm:Fm):List Nat→Fm
 | []=>⟨tm.n,q5⟩
 | i :: l=>(zhl σ tm l).set i (zmc σ 20 (tm.get i))
def canon (n0:Nat) (src keep wr:List Nat) (st:St):Option St:=
 if n0≤st.rows.length∧src.Nodup∧(src.all fun r=>decide (r<st.rows.length))=true∧(src.all fun r=>decide (n0≤r)||wr.contains r)=true ∧
  (st.wr.all fun s=>decide (n0≤s)||wr.contains s)=true then
  some { tm:=zhl (zcd n0 src) st.tm keep,rows:=zaq (zcd n0 src) src (st.rows.take n0) 0++src.map (fun r=>zeU (zcd n0 src) (st.rows.getD r .dead)),wr:=wr }
 else none
theorem zcZ (σ:Nat→Option Nat) (src:List Nat):∀(l:List Row) (i r:Nat),(zaq σ src l i)[r]? = (l[r]?).map fun row=>if src.contains (i+r) then .dead else zeU σ row
 | [],i,r=>by simp [zaq]
 | row :: l,i,0=>by simp [zaq]
 | row :: l,i,r+1=>by
  simp only [zaq,List.getElem?_cons_succ]
  rw [zcZ σ src l (i+1) r,show i+1+r=i+(r+1) by omega]
theorem zc0 (σ:Nat→Option Nat) (src:List Nat):∀(l:List Row) (i:Nat),(zaq σ src l i).length=l.length
 | [],_=>rfl
 | _ :: l,i=>by simp [zaq,zc0 σ src l (i+1)]
theorem zf4 {E:Env} {σ:Nat→Option Nat} {tm:Fm} {tmps:Array Value} (hn:tm.n=tmps.size) (h:∀i,Rd E (zmc σ 20 (tm.get i)) (tmps.getD i undef)):∀keep,Fr E (zhl σ tm keep) tmps
 | []=>Fr.base hn
 | i :: l=>(zf4 hn h l).know i (h i)
theorem zdb (σ:Nat→Option Nat) (row:Row):(zeU σ row).alive=row.alive:=by cases row<;>rfl
theorem zm3 (σ:Nat→Option Nat) (row:Row):(zeU σ row).live=row.live:=by cases row<;>rfl
theorem zbh {row:Row} (h:row.live=true):row.alive=true:=by cases row<;>first | rfl | cases h
theorem zfD {n0:Nat} {src keep wr:List Nat} {st st':St} (h:canon n0 src keep wr st=some st'):Weak n0 st st':=by
  unfold canon at h
  split at h
  case isFalse=>cases h
  rename_i hc
  obtain ⟨c1,c2,c3,c4,c5⟩:=hc
  cases h
  intro B M0 rho tmps w hn hm hf
  have hl:=hm.len
  simp only [List.all_eq_true,decide_eq_true_eq,Bool.or_eq_true] at c3 c4 c5
  let rho':=rho.take n0++src.map (fun r=>rho.getD r 0)
  let rows':=zaq (zcd n0 src) src (st.rows.take n0) 0++src.map (fun r=>zeU (zcd n0 src) (st.rows.getD r .dead))
  have hlen0:(rho.take n0).length=n0:=by simp;omega
  have hlenk:(zaq (zcd n0 src) src (st.rows.take n0) 0).length=n0:=by rw [zc0];simp;omega
  have old:∀(r b:Nat),rho'[r]? = some b→∃r0,rho[r0]? = some b∧((r<n0∧r0=r)∨(n0≤r∧src[r-n0]? = some r0)):=by
    grind
  have oldRow:∀(r:Nat) (row:Row) (b:Nat),rows'[r]? = some row→rho'[r]? = some b→row=.dead ∨
      ∃r0 row0,st.rows[r0]? = some row0∧rho[r0]? = some b∧row=zeU (zcd n0 src) row0∧zcd n0 src r0=some r:=by
    intro r row b hrow hrb
    obtain ⟨r0,hr0,hcase⟩:=old r b hrb
    rcases hcase with ⟨hlt,rfl⟩ | ⟨hge,hs⟩
    · have h1:rows'[r0]? = (zaq (zcd n0 src) src (st.rows.take n0) 0)[r0]?:=List.getElem?_append_left (by omega)
      rw [h1,zcZ,List.getElem?_take] at hrow
      simp only [hlt,if_true,Nat.zero_add] at hrow
      cases ho:st.rows[r0]? with
      | none=>rw [ho] at hrow;cases hrow
      | some row0=>
        rw [ho] at hrow
        simp only [Option.map_some,Option.some.injEq] at hrow
        by_cases hcont:src.contains r0=true
        · simp_all
        · right
          refine ⟨r0,row0,ho,hr0,by rw [← hrow,if_neg hcont],?_⟩
          simp only [zcd,hcont,hlt,if_true,Bool.false_eq_true,if_false]
    · have h1:rows'[r]? = (src.map (fun r=>zeU (zcd n0 src) (st.rows.getD r .dead)))[r-n0]?:=by
        grind
      rw [h1,List.getElem?_map,hs] at hrow
      have hmem:r0∈src:=List.mem_of_getElem? hs
      have hlt0:r0<st.rows.length:=c3 r0 hmem
      right
      refine ⟨r0,st.rows.getD r0 .dead,by simp_all,hr0,?_,?_⟩
      · simpa using hrow.symm
      · have hcont:src.contains r0=true:=by simpa using hmem
        simp only [zcd,hcont,if_true,Option.some.injEq]
        grind
  have liveOld:∀b,¬zcU M0 st.rows rho b→¬zcU M0 rows' rho' b:=by
    rintro b hb (h0 | ⟨r,row,hrow,hlive,hrb⟩)
    · exact hb (.inl h0)
    · rcases oldRow r row b hrow hrb with rfl | ⟨r0,row0,h1,h2,rfl,_⟩
      · cases hlive
      · exact hb (.inr ⟨r0,row0,h1,by rw [← zm3 (zcd n0 src)];exact hlive,h2⟩)
  have sig:∀r s b:Nat,zcd n0 src r=some s→rho[r]? = some b→rho'[s]? = some b:=by
    intro r s b hs hr
    have hrl:r<rho.length:=(List.getElem?_eq_some_iff.1 hr).1
    unfold zcd at hs
    split at hs
    · rename_i hcont
      have hmem:r∈src:=by simpa using hcont
      have hix:src.idxOf r<src.length:=List.idxOf_lt_length_of_mem hmem
      cases hs
      have h1:rho'[n0+src.idxOf r]? = (src.map (fun r=>rho.getD r 0))[src.idxOf r]?:=by
        grind
      simp_all
    grind
  have rd:∀ {x:AV} {v:Value} (f:Nat),Rd (iZ M0 st.rows rho w) x v→Rd (iZ M0 rows' rho' w) (zmc (zcd n0 src) f x) v:=
    fun f hx=>Rd.ren (E:=iZ M0 st.rows rho w) (E':=iZ M0 rows' rho' w) rfl liveOld sig hx f
  refine ⟨rho',⟨Nat.le_refl _,fun b _ hb=>⟨rfl,liveOld b hb⟩,?_,fun _ _=>rfl,⟨hm.hB,hm.m0,?_,?_,?_,?_⟩,Below.refl _ _,?_⟩,?_⟩
  · grind
  · grind
  · intro r b hr
    obtain ⟨r0,h0,_⟩:=old r b hr
    exact hm.bnd r0 b h0
  · intro r row b hrow hrb
    rcases oldRow r row b hrow hrb with rfl | ⟨r0,row0,h1,h2,rfl,_⟩
    · exact trivial
    · have:=hm.row r0 row0 b h1 h2
      cases row0 with
      | dead=>exact trivial
      | ints l lv=>exact this
      | lst k l lv=>
        obtain ⟨c,e,hb,hlc,hcs⟩:=this
        exact ⟨c,e,hb,hlc,fun i hi=>Rd.data (E:=iZ M0 st.rows rho w) (E':=iZ M0 rows' rho' w) rfl liveOld (hcs i hi) 1 (List.all_eq_true.1 (zd4 0 k l) _ (by simp [List.getD,hi]))⟩
      | flat cs lv=>
        obtain ⟨c,e,hb,hlc,hcs⟩:=this
        exact ⟨c,e,hb,by simpa using hlc,fun i hi=>by
          grind⟩
  · intro r r' row row' b h1 h2 a1 a2 b1 b2
    rcases oldRow r row b h1 b1 with rfl | ⟨r0,row0,g1,g2,rfl,g4⟩
    · cases a1
    · rcases oldRow r' row' b h2 b2 with rfl | ⟨r1,row1,k1,k2,rfl,k4⟩
      · cases a2
      · have:=hm.inj r0 r1 row0 row1 b g1 k1 (by rw [← zdb (zcd n0 src)];exact a1) (by rw [← zdb (zcd n0 src)];exact a2) g2 k2
        simp_all
  · refine ⟨by simp [rho'];omega,fun s hs hlt=>?_,fun r row b hr h1 h2 h3 h4=>⟨rfl,?_,?_⟩⟩
    · grind
    · grind
    · have hnm:¬(src.contains r=true):=by
        grind
      refine ⟨zeU (zcd n0 src) row,?_,by rw [zdb];exact h2⟩
      have h5:rows'[r]? = (zaq (zcd n0 src) src (st.rows.take n0) 0)[r]?:=List.getElem?_append_left (by omega)
      show rows'[r]? = _
      rw [h5,zcZ,List.getElem?_take]
      simp_all
  · exact zf4 hf.1 (fun i=>rd 20 (hf.2 i)) keep
end Go.Ev
end
section
namespace Go.Ev
def zo6:Int→Int→Bool
 | .ofNat a,.ofNat b=>Nat.beq a b
 | .negSucc a,.negSucc b=>Nat.beq a b
 | _,_=>false
theorem zgx {a b:Int} (h:zo6 a b=true):a=b:=by
 cases a<;>cases b<;>simp [zo6] at h<;>simp [h]
def kindEq:IntKind→IntKind→Bool:=fun a b=>decide (a=b)
def ziO:Bool→Bool→Bool
 | true,true=>true
 | false,false=>true
 | _,_=>false
theorem zep {a b:Bool} (h:ziO a b=true):a=b:=by
 cases a<;>cases b<;>simp [ziO] at h<;>rfl
def tellB (a b:Bool):M Unit:=fun c s=>
 match c with
 | true=>match ziO a b with | true=>.ok () s [] | false=>.fail 1
 | false=>.ok () s [.b a b]
theorem Spec.tellB {a b:Bool} {Q:Unit→Prop} (h:a=b→Q ()):Spec (tellB a b) Q:=by
 intro c os x os' cs he hc
 cases c with
 | true=>
  simp only [Ev.tellB] at he
  split at he
  ·rename_i hd
   exact h (zep hd)
  ·cases he
 | false=>
  cases he
  exact h (hc (.b a b) (by simp))
def zdR:List Int→List Int→Bool
 | [],[]=>true
 | a :: l,b :: q=>zo6 a b&&zdR l q
 | _,_=>false
theorem zb7:∀ {l q:List Int},zdR l q=true→l=q
 | [],[],_=>rfl
 | a :: l,b :: q,h=>by
  simp only [zdR,Bool.and_eq_true] at h
  rw [zgx h.1,zb7 h.2]
 | [],_ :: _,h=>by simp [zdR] at h
 | _ :: _,[],h=>by simp [zdR] at h
def eqV:Value→Value→Bool
 | .int k a,.int k' b=>kindEq k k'&&zo6 a b
 | .bool a,.bool b=>ziO a b
 | .string a,.string b=>zci a.data.toList b.data.toList
 | .pointer none,.pointer none=>true
 | .slice none a b,.slice none c d=>Nat.beq a c&&Nat.beq b d
 | .tuple a,.tuple b=>Nat.beq a.size 0&&Nat.beq b.size 0
 | .map none,.map none=>true
 | .nilFunc,.nilFunc=>true
 | .nilIface,.nilIface=>true
 | _,_=>false
theorem eqV_eq {a b:Value} (h:eqV a b=true):a=b:=by
 unfold eqV at h
 split at h
 ·simp only [Bool.and_eq_true,kindEq,decide_eq_true_eq] at h
  rw [h.1,zgx h.2]
 ·rw [zep h]
 ·rename_i x y
  have:=zfC h
  congr 1
  cases x;simp_all
 ·rfl
 ·simp_all
 ·simp_all
 ·rfl
 ·rfl
 ·rfl
 ·cases h
mutual
def eqA:Nat→AV→AV→Bool
 | 0,_,_=>false
 | f+1,x,y=>match x,y with
  | .lit u,.lit v=>eqV u v
  | .tt,.tt=>true
  | .ff,.ff=>true
  | .junk,.junk=>true
  | .ref r o,.ref r' o'=>Nat.beq r r'&&Nat.beq o o'
  | .own r o n s,.own r' o' n' s'=>Nat.beq r r'&&(Nat.beq o o'&&(Nat.beq n n'&&Nat.beq s s'))
  | .sl cs n,.sl cs' n'=>Nat.beq n n'&&eqAL f cs cs'
  | .sq l,.sq l'=>zdR l l'
  | .qel l i,.qel l' i'=>Nat.beq i i'&&zdR l l'
  | .pd cs n,.pd cs' n'=>Nat.beq n n'&&eqAL f cs cs'
  | .agg cs,.agg cs'=>eqAL f cs cs'
  | .tup cs,.tup cs'=>eqAL f cs cs'
  | .fn h cs,.fn h' cs'=>Nat.beq h h'&&eqAL f cs cs'
  | .wd z,.wd z'=>zo6 z z'
  | .ni z,.ni z'=>zo6 z z'
  | .zl .W l,.zl .W l'=>zdR l l'
  | .zl .N l,.zl .N l'=>zdR l l'
  | _,_=>false
def eqAL:Nat→List AV→List AV→Bool
 | 0,_,_=>false
 | f+1,l,q=>match l,q with
  | [],[]=>true
  | x :: l,y :: q=>eqA f x y&&eqAL f l q
  | _,_=>false
end
theorem ziZ:∀f,(∀x y,eqA f x y=true→x=y)∧(∀l q,eqAL f l q=true→l=q)
 | 0=>⟨fun x y h=>by simp [eqA] at h,fun l q h=>by simp [eqAL] at h⟩
 | f + 1=>by
  have ih:=ziZ f
  constructor
  ·intro x y h
   unfold eqA at h
   split at h<;>(try simp only [Bool.and_eq_true,Nat.beq_eq] at h)
   ·rw [eqV_eq h]
   ·rfl
   ·rfl
   ·rfl
   ·rw [h.1,h.2]
   ·simp_all
   ·rw [h.1,ih.2 _ _ h.2]
   ·rw [zb7 h]
   ·rw [h.1,zb7 h.2]
   ·rw [h.1,ih.2 _ _ h.2]
   ·rw [ih.2 _ _ h]
   ·rw [ih.2 _ _ h]
   ·rw [h.1,ih.2 _ _ h.2]
   ·rw [zgx h]
   ·rw [zgx h]
   ·rw [zb7 h]
   ·rw [zb7 h]
   ·cases h
  ·intro l q h
   unfold eqAL at h
   grind
def eqRow:Row→Row→Bool
 | .flat cs b,.flat cs' b'=>ziO b b'&&eqAL 1000 cs cs'
 | .ints l b,.ints l' b'=>ziO b b'&&zdR l l'
 | .dead,.dead=>true
 | _,_=>false
theorem eqRow_eq {x y:Row} (h:eqRow x y=true):x=y:=by
 unfold eqRow at h
 split at h<;>(try simp only [Bool.and_eq_true] at h)
 ·rw [zep h.1,(ziZ 1000).2 _ _ h.2]
 ·rw [zep h.1,zb7 h.2]
 ·rfl
 ·cases h
def zi0:List Row→List Row→Bool
 | [],[]=>true
 | a :: l,b :: q=>eqRow a b&&zi0 l q
 | _,_=>false
theorem zk9:∀ {l q:List Row},zi0 l q=true→l=q
 | [],[],_=>rfl
 | a :: l,b :: q,h=>by
  simp only [zi0,Bool.and_eq_true] at h
  rw [eqRow_eq h.1,zk9 h.2]
 | [],_ :: _,h=>by simp [zi0] at h
 | _ :: _,[],h=>by simp [zi0] at h
def zjI (a b:Fm):Nat→Bool
 | 0=>true
 | k+1=>match eqA 1000 (a.get k) (b.get k) with
  | true=>zjI a b k
  | false=>false
theorem zi1 {a b:Fm}:∀ {k:Nat},zjI a b k=true→∀i,i<k→a.get i=b.get i
 | 0,_,i,hi=>by omega
 | k + 1,h,i,hi=>by
  unfold zjI at h
  split at h
  ·rename_i h1
   rcases Nat.lt_or_ge i k with h2 | h2
   ·exact zi1 h i h2
   ·obtain rfl:i=k:=by omega
    exact(ziZ 1000).1 _ _ h1
  ·cases h
theorem Stp.log2 {B M0 rows rho wr w rows' rho' wr' w'} (h:Stp B M0 rows rho wr w rows' rho' wr' w') {wr2:List Nat} (hs:∀s∈wr',s∈wr2):Stp B M0 rows rho wr w rows' rho' wr2 w':=
 ⟨h.ext,h.mem,h.below,h.frm.1,fun s h1 h2=>hs s (h.frm.2.1 s h1 h2),fun r row b h1 h2 h3 h4 h5=>h.frm.2.2 r row b h1 h2 h3 h4 (fun h6=>h5 (hs r h6))⟩
def eqSt (a b:St):Bool:=match a,b with
 | ⟨ta,ra,wa⟩,⟨tb,rb,wb⟩=>Nat.beq ta.n tb.n&&(zi0 ra rb&&(wa.all (fun r=>wb.contains r)&&zjI ta tb tb.n))
theorem zla {a b:St} {n0:Nat} (h:eqSt a b=true):Weak n0 a b:=by
 obtain ⟨ta,ra,wa⟩:=a
 obtain ⟨tb,rb,wb⟩:=b
 simp only [eqSt,Bool.and_eq_true,Nat.beq_eq] at h
 obtain ⟨hn,hr,hw,hs⟩:=h
 have hr:=zk9 hr
 subst hr
 have hs:=zi1 hs
 intro B M0 rho tmps w hn0 hm hf
 refine ⟨rho,((Stp.refl hm).log2 ?_).toN hn0,hn.symm.trans hf.1,fun i=>?_⟩
 ·simp_all
 ·rcases Nat.lt_or_ge i tb.n with hi | hi
  ·rw [← hs i hi];exact hf.2 i
  ·show Rd _ (tb.get i) _
   rw [Fm.get_out _ _ hi];exact .junk _
section
variable (g:Cfg)
mutual
def frz : Nat→List Row→AV→Option (AV × List Row × List Prop)
 | 0,_,_=>none
 | f + 1, rows,x=>match x with
  | .own r off n sz=>match rows.getD r .dead with
   | .flat cs _=>if off+n*sz≤cs.length then
    match frzL f (rows.set r (.flat cs false)) ((cs.drop off).take (n*sz)) with
    | some (cs',rows',ps)=>some (.sl cs' n,rows',ps)
    | none=>none
    else none
   | .ints l _=>if off=0∧sz=1 then some (.sq (l.take n),rows.set r (.ints l false),[n≤l.length]) else none
   | .lst k l _=>if off=0∧sz=k.sz then some (.lst k (l.take n),rows.set r (.lst k l false),[n≤l.length]) else none
   | .dead=>none
  | .ref r off=>match rows.getD r .dead with
   | .flat cs _=>match frzL f (rows.set r (.flat cs false)) cs with
    | some (cs',rows',ps)=>some (.pd cs' off,rows',ps)
    | none=>none
   | _=>none
  | .agg cs=>match frzL f rows cs with | some (cs',rows',ps)=>some (.agg cs',rows',ps) | none=>none
  | .tup cs=>match frzL f rows cs with | some (cs',rows',ps)=>some (.tup cs',rows',ps) | none=>none
  | .rel ..=>none
  | .sl cs n=>if cs.all (BZ f) then some (.sl cs n,rows,[]) else none
  | .pd cs n=>if cs.all (BZ f) then some (.pd cs n,rows,[]) else none
  | .fn h cs=>if cs.all (BZ f) then some (.fn h cs,rows,[]) else none
  | x=>some (x,rows,[])
def frzL:Nat→List Row→List AV→Option (List AV × List Row × List Prop)
 | 0,_,_=>none
 | _+1,rows,[]=>some ([],rows,[])
 | f + 1,rows,x :: l=>match frz f rows x with
  | some (x',rows1,ps1)=>match frzL f rows1 l with
   | some (l',rows2,ps2)=>some (x' :: l',rows2,ps1++ps2)
   | none=>none
  | none=>none
end
def zby (rows:List Row) (sz:Nat):AV→Option (Nat × (List AV ⊕ List Int))
 | .own r off n sz'=>match rows.getD r .dead with
  | .flat cs _=>if sz=sz'∧off+n*sz≤cs.length then some (n,.inl ((cs.drop off).take (n*sz))) else none
  | .ints l _=>if off=0∧sz'=1∧sz=1 then some (n,.inr (l.take n)) else none
  | .lst k l _=>if off=0∧sz'=sz∧sz=k.sz∧n≤l.length then some (n,.inl ((hZ k l).take (n*sz))) else none
  | .dead=>none
 | .sl cs n=>if cs.length=n*sz then some (n,.inl cs) else none
 | .lst k l=>if sz=k.sz then some (l.length,.inl (hZ k l)) else none
 | x=>match ints? x with
  | some l=>if sz=1 then some (l.length,.inr l) else none
  | none=>none
def zjB (s d:AV):M Int:=do
 let b ← ofOpt 201 (asB s)
 match d with
 | .wd z=>do
  tellB b (decide (z<0))
  M.pure z
 | d => do
  let q ← ofOpt 202 (ints? d)
  match q with
  | []=>do
   tellB b false
   M.pure 0
  | _=>fail 203
def decN {α:Type} (f:List AV→M α) (sz:Nat):Nat→List AV→M (List α)
 | 0,cs=>match cs with
  | []=>M.pure []
  | _=>fail 205
 | n+1,cs=>do
  let x ← f (cs.take sz)
  let l ← decN f sz n (cs.drop sz)
  M.pure (x :: l)
def castL (k k':EK) (l:List k.ty):M (List k'.ty):=if h:k=k' then M.pure (h▸l) else fail 206
def EK.dec:(k:EK)→List AV→M k.ty
 | .int ik,cs=>match cs with
  | [.lit (.int ik' n)]=>if ik'=ik then M.pure n else fail 207
  | _=>fail 207
 | .bool,cs=>match cs with
  | [x]=>ofOpt 208 (asB x)
  | _=>fail 208
 | .str,cs=>match cs with
  | [.lit (.string s)]=>M.pure s
  | _=>fail 209
 | .whole,cs=>match cs with
  | [s,d]=>zjB s d
  | _=>fail 210
 | .un,cs=>match cs with
  | []=>M.pure ()
  | _=>fail 211
 | .pr a b,cs=>do
  let x ← a.dec (cs.take a.sz)
  let y ← b.dec (cs.drop a.sz)
  M.pure (x,y)
 | .sl e,cs=>match cs with
  | [x]=>match x with
   | .lst k l=>castL k e l
   | .sl cells n=>decN e.dec e.sz n cells
   | .lit (.slice _ 0 _)=>M.pure []
   | x=>match e with
    | .int .i64=>ofOpt 212 (ints? x)
    | _=>fail 213
  | _=>fail 214
def dataL (k:EK) (x:AV):M (List k.ty):=(EK.sl k).dec [x]
structure Out where
 v:AV
 rows:List Row
 wr:List Nat
def zjr (rows:List Row) (wr:List Nat) (t t1:TypeId) (s x:AV):M Out:=do
 let ti ← ty g t
 if t≠t1 then fail 60 else
 match ti.tk with
 | .slice e=>
  let eti ← ty g e
  let (m,el) ← ofOpt 61 (zby rows eti.size x)
  if eti.size=0∨eti.zero.length≠eti.size then fail 62 else
  match s with
  | .lit (.slice none 0 0)=>do
   chk (decide (0<m));chk (decide (m*eti.bytes≤140737488355328));chk (decide (m≤4611686018427387904))
   match el with
   | .inl cs=>M.pure ⟨.own rows.length 0 m eti.size,rows++[.flat cs true],wr⟩
   | .inr l=>do
    chk (decide (l.length=m))
    M.pure ⟨.own rows.length 0 m 1,rows++[.ints l true],wr⟩
  | .own r 0 n sz=>do
   chk (decide ((n+m)*eti.bytes≤140737488355328));chk (decide (n+m≤4611686018427387904))
   match rows.getD r .dead,el with
   | .flat cs true,.inl es=>
    if sz=eti.size∧n*sz≤cs.length∧es.length=m*sz∧es.all zcN=true then
     M.pure ⟨.own rows.length 0 (n+m) sz,rows.set r .dead++[.flat (cs.take (n*sz)++es) true],rows.length :: r :: wr⟩
    else fail 63
   | .ints l true,.inr q=>
    if sz=1∧eti.size=1 then do
     chk (decide (n≤l.length));chk (decide (q.length=m))
     M.pure ⟨.own rows.length 0 (n+m) 1,rows.set r .dead++[.ints (l.take n++q) true],rows.length :: r :: wr⟩
    else fail 64
   | _,_=>fail 65
  | _=>fail 66
 | _=>fail 67
def zpa (rows:List Row) (ti:TI) (a:AV):M AV:=match a with
 | .rel r i sz fo=>match rows.getD r .dead with
  | .lst k l _=>if sz=k.sz then do
   chk (decide (i<l.length))
   if zap ti.tk then(if fo+ti.size≤(k.cells (l.getD i k.dflt)).length then M.pure (.agg (((k.cells (l.getD i k.dflt)).drop fo).take ti.size)) else fail 11)
   else if fo<(k.cells (l.getD i k.dflt)).length then M.pure ((k.cells (l.getD i k.dflt)).getD fo .junk) else fail 11
   else fail 11
  | _=>fail 13
 | a=>zli rows ti a
def zl0 (rows:List Row) (ti:TI) (a v:AV):M (List Row):=match a with
 | .rel r i sz fo=>do
  let vc ← ofOpt 16 (zjm v)
  let (vc',rows',ps) ← ofOpt 217 (frzL 40 rows vc)
  tellAll ps
  match rows'.getD r .dead with
  | .lst k l true=>if sz=k.sz∧vc'.length=ti.size∧fo+vc'.length≤k.sz∧vc'.all zcN=true then(do
   chk (decide (i<l.length))
   let x ← k.dec (over (k.cells (l.getD i k.dflt)) fo vc')
   M.pure (rows'.set r (.lst k (l.set i x) true))) else fail 218
  | _=>fail 219
 | a=>zlZ rows ti a v
def indexT (rows:List Row) (t:TypeId) (x i:AV):M AV:=match x with
 | .lst k l=>do
  let ti ← ty g t
  let i ← ofOpt 26 (asI i)
  match ti.tk with
  | .slice e=>do
   let eti ← ty g e
   if eti.size=k.sz then do
    chk (decide (0≤i));chk (decide (i<(l.length:Int)))
    M.pure (.pd (k.cells (l.getD i.toNat k.dflt)) 0)
   else fail 27
  | _=>fail 30
 | .own r off n sz=>match rows.getD r .dead with
  | .lst _ _ _=>do
   let ti ← ty g t
   let i ← ofOpt 26 (asI i)
   match ti.tk with
   | .slice e=>do
    let eti ← ty g e
    if sz=eti.size∧off=0 then do
     chk (decide (0≤i));chk (decide (i<(n:Int)))
     M.pure (.rel r i.toNat sz 0)
    else fail 27
   | _=>fail 30
  | _=>zdy g t x i
 | x=>zdy g t x i
def sliceT (rows:List Row) (t:TypeId) (x:AV) (lo hi:Option AV):M AV:=match x with
 | .lst k l=>do
  let ti ← ty g t
  match ti.tk with
  | .slice e=>do
   let eti ← ty g e
   if eti.size=k.sz then do
    let h ← ziw l.length hi
    let l0 ← ziw 0 lo
    chk (decide (0≤l0));chk (decide (l0≤h));chk (decide (h≤(l.length:Int)))
    M.pure (.lst k ((l.take h.toNat).drop l0.toNat))
   else fail 44
  | _=>fail 47
 | x=>sliceA g rows t x lo hi
def elemK (t:TypeId):Option (TypeId × EK):=match tiOf g.P t with
 | some ti=>match ti.tk with
  | .slice e=>match look g.kd e with
   | some k=>if k=.int .i64 then none else some (e,k)
   | none=>none
  | _=>none
 | none=>none
def makeT (rows:List Row) (t:TypeId) (len cap:AV):M (AV × List Row):=match elemK g t with
 | none=>zdA g rows t len cap
 | some (e,k)=>do
  let eti ← ty g e
  let l ← ofOpt 39 (asI len)
  let c ← ofOpt 39 (asI cap)
  chk (decide (0≤l));chk (decide (l≤c));chk (decide (eti.bytes*c≤281474976710656));chk (decide (c≤9223372036854775807))
  if eti.size=0∨eti.zero.length≠eti.size∨eti.size≠k.sz then fail 40 else do
  let z ← k.dec (eti.zero.map .lit)
  M.pure (.own rows.length 0 l.toNat k.sz,rows++[.lst k (List.replicate l.toNat z) true])
def buildT (rows:List Row) (t:TypeId) (len:Nat) (parts:List (Nat × AV)):M (AV × List Row):=match elemK g t with
 | none=>zch g rows t len parts
 | some (e,k)=>do
  let eti ← ty g e
  if eti.size=0∨16777216<len*eti.size∨eti.zero.length≠eti.size∨eti.size≠k.sz then fail 34 else do
  let cs ← ofOpt 35 (ziB (fun i=>some (i*eti.size,eti.size)) (zmd len (eti.zero.map .lit)) parts)
  let (cs',rows',ps) ← ofOpt 217 (frzL 40 rows cs)
  tellAll ps
  let xs ← decN k.dec k.sz len cs'
  M.pure (.own rows'.length 0 len k.sz,rows'++[.lst k xs true])
def zmi (rows:List Row) (wr:List Nat) (t t1:TypeId) (s x:AV):M Out:=match elemK g t with
 | none=>zjr g rows wr t t1 s x
 | some (e,k)=>if t≠t1 then fail 60 else do
  let eti ← ty g e
  if eti.size=0∨eti.zero.length≠eti.size∨eti.size≠k.sz then fail 62 else do
  let (x1,rows1,ps) ← ofOpt 61 (frz 40 rows x)
  tellAll ps
  let xs ← dataL k x1
  match s with
  | .lit (.slice none 0 0)=>do
   chk (decide (0<xs.length));chk (decide (xs.length*eti.bytes≤140737488355328));chk (decide (xs.length≤4611686018427387904))
   M.pure ⟨.own rows1.length 0 xs.length eti.size,rows1++[.lst k xs true],wr⟩
  | .own r 0 n sz=>do
   chk (decide ((n+xs.length)*eti.bytes≤140737488355328));chk (decide (n+xs.length≤4611686018427387904))
   match rows1.getD r .dead with
   | .lst k' l true=>if sz=eti.size then(do
    chk (decide (n≤l.length))
    let l' ← castL k' k (l.take n)
    M.pure ⟨.own rows1.length 0 (n+xs.length) sz,rows1.set r .dead++[.lst k (l'++xs) true],rows1.length :: r :: wr⟩) else fail 64
   | _=>fail 65
  | _=>fail 66
def copyA (rows:List Row) (wr:List Nat) (t:TypeId) (dst src:AV):M Out:=do
 let ti ← ty g t
 match ti.tk with
 | .slice e=>
  let eti ← ty g e
  let (m,el) ← ofOpt 68 (zby rows eti.size src)
  match dst with
  | .own r off n sz=>
   match rows.getD r .dead,el with
   | .flat cs true,.inl es=>
    if sz=eti.size∧off+n*sz≤cs.length∧es.length=m*sz∧es.all zcN=true then
     M.pure ⟨.lit (.int .i64 (Nat.min m n:Nat)),rows.set r (.flat (over cs off (es.take (Nat.min m n*sz))) true),r :: wr⟩
    else fail 69
   | _,_=>fail 70
  | _=>fail 71
 | _=>fail 72
def zw:Nat→List AV
 | 0=>[]
 | n+1=>.lit (.bool false) :: .lit (.slice none 0 0) :: zw n
def padW (l:List Int):Nat→Nat→List Int
 | _,0=>[]
 | i,n+1=>l.getD i 0 :: padW l (i+1) n
def wsrc (rows:List Row):AV→Option (Nat × List Int)
 | .lst .whole l=>some (l.length,l)
 | .own r off m sz=>match rows.getD r .dead with
  | .lst .whole l _=>if off=0∧sz=2 then some (m,l) else none
  | _=>none
 | _=>none
def wcopy (rows:List Row) (dst src:AV):Option (Nat × Nat × Nat × List AV × Nat × List Int):=match wsrc rows src with
 | none=>none
 | some (m,l)=>match dst with
  | .own r off n sz=>match rows.getD r .dead with
   | .flat cs true=>if sz=2∧off+n*2≤cs.length∧eqAL 1000 ((cs.drop off).take (n*2)) (zw n)=true then some (r,off,n,cs,m,l) else none
   | _=>none
  | _=>none
def copyT (rows:List Row) (wr:List Nat) (t:TypeId) (dst src:AV):M Out:=match wcopy rows dst src with
 | none=>copyA g rows wr t dst src
 | some (r,off,n,cs,m,l)=>do
  let ti ← ty g t
  match ti.tk with
  | .slice e=>do
   let eti ← ty g e
   if eti.size=2 then do
    chk (decide (m≤l.length));chk (decide (m≤n))
    M.pure ⟨.lit (.int .i64 (m:Nat)),rows.set r (.flat (over cs off (uZ .W (padW (l.take m) 0 n))) true),r :: wr⟩
   else fail 69
  | _=>fail 72
def zeH (tm:Fm):List (Nat × Operand)→List (Nat × AV)
 | []=>[]
 | (i,x) :: l=>(i,pZ tm x) :: zeH tm l
abbrev zao:=Code→St→M (Ex × St)
def zaG (st:St):List ResultVar→M (List AV)
 | []=>M.pure []
 | .tmp t :: l=>do
  let vs ← zaG st l
  M.pure (st.tm.get t :: vs)
 | .cell a t :: l=>do
  let ti ← ty g t
  let v ← zli st.rows ti (st.tm.get a)
  let vs ← zaG st l
  M.pure (v :: vs)
def one:List AV→AV
 | [v]=>v
 | vs=>.tup vs
def useA (f:FuncId):M Bool:=match g.has.contains f with
 | false=>M.pure false
 | true=>match g.opt.contains f with
  | false=>M.pure true
  | true=>do
   let o ← nextLoop
   match o with
   | some _=>M.pure true
   | none=>M.pure false
def callA (run:zao) (rows:List Row) (wr:List Nat) (f:FuncId) (args:List AV):M Out:=do
  let fn ← ofOpt 73 (fnOf g.P f)
  let use ← useA g f
  if use=true then
    let (as,rows',ps) ← ofOpt 74 (frzL 40 rows args)
    tellAll ps
    if as.all (BZ 20) then
      let v ← g.C f as
      M.pure ⟨v,rows',wr⟩
    else fail 75
  else
    let c ← ofOpt 76 fn.body
    if fn.ntmps<args.length then fail 77 else
    let (ex,st) ← run c ⟨Fm.args fn.ntmps args,rows,wr⟩
    match ex with
    | .exit _=>fail 78
    | _=>do
      let vs ← zaG g st fn.results.toList
      M.pure ⟨one vs,st.rows,st.wr⟩
def same (rows:List Row) (wr:List Nat) (m:M AV):M Out:=do
  let v ← m
  M.pure ⟨v,rows,wr⟩
def zpc (wr:List Nat) (m:M (AV × List Row)):M Out:=do
 let (v,rows) ← m
 M.pure ⟨v,rows,wr⟩
def zod:AV→Nat
 | .ref r _=>r
 | .rel r _ _ _=>r
 | _=>0
def opA (run:zao) (st:St) (o:Oper):M Out:=
 let e:=pZ st.tm
 let s:=same st.rows st.wr
 match o.op with
 | .move x | .assign x=>s (M.pure (e x))
 | .pick c a b=>s (do
  let v ← decB (e c)
  match v with
  | true=>M.pure (e a)
  | false=>M.pure (e b))
 | .alloc t=>zpc st.wr (allocA g st.rows t)
 | .box _ x=>zpc st.wr (boxA st.rows (e x))
 | .build t parts=>s (buildA g t (zeH st.tm parts.toList))
 | .buildSlice t n parts=>zpc st.wr (buildT g st.rows t n (zeH st.tm parts.toList))
 | .load t a=>s (do
  let ti ← ty g t
  zpa st.rows ti (e a))
 | .store t a v=>do
  let ti ← ty g t
  let rows ← zl0 st.rows ti (e a) (e v)
  M.pure ⟨.lit undef,rows,zod (e a) :: st.wr⟩
 | .nilCheck x=>s (if zmJ (e x) then M.pure (e x) else match e x with | .fn h cs=>M.pure (.fn h cs) | _=>fail 80)
 | .binOp op t x y _=>s (binop g op t (e x) (e y))
 | .unOp op _ x=>s (unop op (e x))
 | .convert a b x=>s (convA g a b (e x))
 | .makeFunc (.func f) first caps=>s (if first.size=0 then M.pure (.fn f (caps.toList.map e)) else fail 81)
 | .makeSlice t l c=>zpc st.wr (makeT g st.rows t (e l) (e c))
 | .slice t x lo hi mx=>s (match mx with | none=>sliceT g st.rows t (e x) (lo.map e) (hi.map e) | some _=>fail 82)
 | .fieldAddr t x f=>s (fieldA g t (e x) f)
 | .field t x f=>s (do
  let ti ← ty g t
  match ti.tk with
  | .struct fs=>do
   let (ft,fo) ← ofOpt 83 fs[f]?
   let fti ← ty g ft
   let cs ← ofOpt 84 (zdP (e x))
   zpB fti cs fo
  | _=>fail 85)
 | .indexAddr t x i=>s (indexT g st.rows t (e x) (e i))
 | .index t x i=>s (do
  let ti ← ty g t
  let i ← ofOpt 86 (asI (e i))
  match ti.tk with
  | .arr n el=>do
   let eti ← ty g el
   let cs ← ofOpt 87 (zdP (e x))
   chk (decide (0≤i));chk (decide (i<(n:Int)))
   zpB eti cs (i.toNat*eti.size)
  | _=>fail 88)
 | .extract x i=>s (match e x with | .tup vs=>ofOpt 89 vs[i]? | _=>fail 90)
 | .call c=>match c.callee with
  | .builtin b=>match b,c.args.toList,c.argTypes.toList with
   | .len,[x],[t]=>s (lenA g t (e x))
   | .append,[x,y],[t,t1]=>zmi g st.rows st.wr t t1 (e x) (e y)
   | .copy,[x,y],[t,_]=>copyT g st.rows st.wr t (e x) (e y)
   | .min,[x,y],_=>s (zln false [e x,e y])
   | .max,[x,y],_=>s (zln true [e x,e y])
   | _,_,_=>fail 91
  | .value f=>match e f with
   | .fn h cs=>callA g run st.rows st.wr h (c.args.toList.map e++cs)
   | _=>fail 92
  | .invoke _ _=>fail 93
 | _=>fail 94
def zbO (o:Oper):Bool:=
 match o.op with
 | .defer _=>false
 | _=>true
def znj (els:List AV ⊕ List Int) (i:Nat):AV:=
 match els with
 | .inl cs=>cs.getD i .junk
 | .inr l=>.lit (.int .i64 (l.getD i 0))
def elAt (ag:Nat) (els:List AV ⊕ List Int) (k:Nat):AV:=
 if ag=1 then znj els k else .agg [znj els (2*k),znj els (2*k+1)]
def backA (rows:List Row) (x:AV):M (Nat × (Nat→AV) × List Row):=
 match x with
 | .fn gf [cap]=>do
  let ag ← ofOpt 130 (look g.bw gf)
  if ag = 1∨ag=2 then
   let (c,rows1,ps) ← ofOpt 131 (frz 40 rows cap)
   tellAll ps
   match c with
   | .pd [s] 0=>do
    let (n,els) ← ofOpt 132 (zby rows1 ag s)
    if BZ 20 s=true then do
     chk (decide (n≤1099511627776))
     M.pure (n,elAt ag els,rows1)
    else fail 133
   | _=>fail 134
  else fail 135
 | _=>fail 136
def putA (tm:Fm) (d:Option Tmp) (v:AV):Fm:=
 match d with
 | some d=>tm.set d v
 | none=>tm
def eqB:Bool→Bool→Bool
 | true,true=>true
 | false,false=>true
 | _,_=>false
def wantA (ops:List Oper) (st:St) (o:Oper):M (Bool × St):=
 match o.guard with
 | none=>M.pure (true,st)
 | some (j,want)=>do
  let oj ← ofOpt 95 ops[j]?
  let d ← ofOpt 96 oj.dst
  match st.tm.get d with
  | .lit (.tuple _)=>M.pure (false,st)
  | x=>do
   let b ← decB x
   M.pure (eqB b want,{ st with tm:=st.tm.set d (ofB b) })
def stepA (run:zao) (ops:List Oper) (st:St) (o:Oper):M St:=do
 let (w,st) ← wantA ops st o
 match w with
 | true=>do
  let r ← opA g run st o
  M.pure ⟨putA st.tm o.dst r.v,r.rows,r.wr⟩
 | false=>M.pure ⟨putA st.tm o.dst (.lit undef),st.rows,st.wr⟩
def opsA (run:zao) (ops:List Oper):List Oper→St→M St
 | [],st=>M.pure st
 | o :: rest,st=>do
  let st ← stepA g run ops st o
  opsA run ops rest st
def zlB (n0:Nat) (W:List Nat) (st:St) (o:Oper):Bool:=
 match o.op with
 | .move _ | .assign _ | .pick .. | .build .. | .binOp .. | .unOp .. | .convert .. | .makeFunc .. | .slice .. | .fieldAddr .. | .field .. | .indexAddr .. | .index .. | .extract .. | .nilCheck _=>true
 | .load _ a=>match pZ st.tm a with
  | .ref r _=>decide (r<n0) && !W.contains r
  | .rel r _ _ _=>decide (r<n0) && !W.contains r
  | .pd .. | .qel ..=>true
  | _=>match o.guard with | some _=>true | none=>false
 | .call { callee:=.builtin .len,.. } | .call { callee:=.builtin .min,.. } | .call { callee:=.builtin .max,.. }=>true
 | _=>false
def stepP (run:zao) (ops:List Oper) (n0:Nat) (W:List Nat) (st:St) (o:Oper):M St:=do
 let (w,st) ← wantA ops st o
 match w with
 | true=>
  if zlB n0 W st o=true then do
   let r ← opA g run st o
   M.pure ⟨putA st.tm o.dst r.v,r.rows,r.wr⟩
  else fail 96
 | false=>M.pure ⟨putA st.tm o.dst (.lit undef),st.rows,st.wr⟩
def zm5:Nat→AV→List Nat
 | 0,_=>[]
 | f+1,x=>match x with
  | .ref r _=>[r]
  | .own r _ _ _=>[r]
  | .rel r _ _ _=>[r]
  | .sl cs _=>cs.flatMap (zm5 f)
  | .pd cs _=>cs.flatMap (zm5 f)
  | .agg cs=>cs.flatMap (zm5 f)
  | .tup cs=>cs.flatMap (zm5 f)
  | .fn _ cs=>cs.flatMap (zm5 f)
  | _=>[]
def rowRow:Row→List Nat
 | .flat cs _=>cs.flatMap (zm5 20)
 | _=>[]
def srcGo (n0:Nat) (rows:List Row):Nat→List Nat→List Nat→List Nat
 | 0,_,acc=>acc.reverse
 | _+1,[],acc=>acc.reverse
 | f+1,r :: todo,acc=>
  if decide (r<n0)||acc.contains r || !decide (r<rows.length) then srcGo n0 rows f todo acc
  else srcGo n0 rows f (rowRow (rows.getD r .dead)++todo) (r :: acc)
def srcOf (n0:Nat) (st:St):List Nat:=
 srcGo n0 st.rows 400 ((List.range st.tm.n).flatMap fun i=>zm5 20 (st.tm.get i)) []
def nrm (n0:Nat) (st:St):Option St:=match Nat.beq st.rows.length n0 with
 | true=>some st
 | false=>canon n0 (srcOf n0 st) (List.range st.tm.n) ((List.range n0).filter fun r=>st.wr.contains r) st
def both {α β:Type} (m:M α) (n:M β):M (α × β):=fun c s=>
 match m c s with
 | .ok x s1 c1=>
  match n c s with
  | .ok y _ c2=>.ok (x,y) s1 (c1++c2)
  | .need b=>.need b
  | .atLoop b st=>.atLoop b st
  | .fail k=>.fail k
 | .need b=>.need b
 | .atLoop b st=>.atLoop b st
 | .fail k=>.fail k
mutual
def fA {α:Type}:Nat→AV→(AV→α)→α
 | 0,x,k=>k x
 | f+1,x,k=>match x with
  | .lit v=>k (.lit v)
  | .tt=>k .tt
  | .ff=>k .ff
  | .junk=>k .junk
  | .ref r o=>zey r fun r=>zey o fun o=>k (.ref r o)
  | .own r o n s=>zey r fun r=>zey o fun o=>k (.own r o n s)
  | .sl cs n=>fL f cs fun cs=>k (.sl cs n)
  | .sq l=>k (.sq l)
  | .qel l i=>k (.qel l i)
  | .pd cs o=>fL f cs fun cs=>k (.pd cs o)
  | .agg cs=>fL f cs fun cs=>k (.agg cs)
  | .tup cs=>fL f cs fun cs=>k (.tup cs)
  | .fn g cs=>fL f cs fun cs=>k (.fn g cs)
  | .wd z=>k (.wd z)
  | .ni z=>k (.ni z)
  | .zl j l=>k (.zl j l)
  | .lst j l=>k (.lst j l)
  | .rel r i s o=>zey r fun r=>k (.rel r i s o)
def fL {α:Type}:Nat→List AV→(List AV→α)→α
 | 0,l,k=>k l
 | f+1,l,k=>match l with
  | []=>k []
  | x :: l=>fA f x fun x=>fL f l fun l=>k (x :: l)
end
def fRow {α:Type} (r:Row) (k:Row→α):α:=match r with
 | .flat cs b=>fL 300 cs fun cs=>k (.flat cs b)
 | .ints l b=>k (.ints l b)
 | .lst j l b=>k (.lst j l b)
 | .dead=>k .dead
def fRows {α:Type}:List Row→(List Row→α)→α
 | [],k=>k []
 | r :: l,k=>fRow r fun r=>fRows l fun l=>k (r :: l)
def fNats {α:Type}:List Nat→(List Nat→α)→α
 | [],k=>k []
 | n :: l,k=>zey n fun n=>fNats l fun l=>k (n :: l)
def rbF (tm:Fm):List Nat→Fm
 | []=>⟨tm.n,q5⟩
 | i :: l=>match tm.get i with
  | .junk=>rbF tm l
  | x=>(rbF tm l).set i x
def fFm {α:Type} (tm:Fm):List Nat→(Fm→α)→α
 | [],k=>k ⟨tm.n,q5⟩
 | i :: l,k=>fFm tm l fun f=>fA 300 (tm.get i) fun x=>match x with
  | .junk=>k f
  | x=>k (f.set i x)
def fSt {α:Type} (s:St) (k:St→α):α:=match s with
 | ⟨tm,rows,wr⟩=>fFm tm (List.range tm.n) fun tm=>fRows rows fun rows=>fNats wr fun wr=>k ⟨tm,rows,wr⟩
def reck (s:St):M St:=fun _ u=>fSt s fun s=>.ok s u []
def altL (n0:Nat) (k:Nat→M St):List Nat→M St
 | []=>fail 100
 | [i]=>do
  let s ← k i
  ofOpt 109 (nrm n0 s)
 | i :: rs=>do
  let q ← both (k i) (altL n0 k rs)
  let s ← ofOpt 109 (nrm n0 q.1)
  let t ← reck s
  let t' ← reck q.2
  tellC (.s t' t)
  M.pure t
def altC (n0:Nat) (k:Nat→M St):List Nat→M St
 | []=>fail 100
 | [i]=>k i
 | i :: rs=>do
  let s ← k i
  let s' ← altC n0 k rs
  match eqSt s' s with
  | true=>M.pure s
  | false=>do
   let t ← ofOpt 109 (nrm n0 s)
   let t' ← ofOpt 109 (nrm n0 s')
   match eqSt t' t with
   | true=>M.pure t
   | false=>fail 116
def altB (n0:Nat) (k:Nat→M St) (l:List Nat):M St:=fun c s=>match c with
 | true=>altC n0 k l true s
 | false=>altL n0 k l false s
def altA (n0:Nat) (k:Nat→M St):List Nat→M St
 | [i]=>k i
 | l=>altB n0 k l
def zk8 (run:zao) (ops:Array Oper) (n0:Nat) (strict:Bool) (W:List Nat):Nat→Array Bool→St→M St
 | 0,_,_=>fail 97
 | f + 1, listed,st=>
  match Region.ready .any ops listed with
  | []=>M.pure st
  | i :: rs=>
   match (i :: rs).find? (fun i=>(match ops[i]? with | some o=>zlB n0 W st o | none=>false)&&Region.free .any ops listed i) with
   | some k=>do
    let o ← ofOpt 98 ops[k]?
    let st ← stepP g run ops.toList n0 W st o
    zk8 run ops n0 strict W f (listed.setIfInBounds k true) st
   | none=>altA st.rows.length (fun i=>do
    let o ← ofOpt 98 ops[i]?
    let wr:=st.wr
    let st' ← stepA g run ops.toList { st with wr:=[] } o
    if strict=false∨(st'.wr.all fun s=>decide (n0≤s)||W.contains s)=true then
     zk8 run ops n0 strict W f (listed.setIfInBounds i true) { st' with wr:=st'.wr++wr }
    else fail 99) (i :: rs)
def drawF (run:zao) (ops:Array Oper):Nat→Array Bool→St→M St
 | 0,_,_=>fail 97
 | f + 1,listed,st=>
  match Region.ready .any ops listed with
  | []=>M.pure st
  | i :: _=>do
   let o ← ofOpt 98 ops[i]?
   let st' ← stepA g run ops.toList st o
   drawF run ops f (listed.setIfInBounds i true) st'
def peek {α:Type} (m:M α):M α:=fun c s=>
 match m c s with
 | .ok x _ _=>.ok x s []
 | .need b=>.need b
 | .atLoop b st=>.atLoop b st
 | .fail n=>.fail n
def loopA (run:zao) (b:Code):Nat→St→M (Ex × St)
 | 0,_=>fail 105
 | k+1,st=>do
  let (ex,st1) ← run b st
  match ex with
  | .normal=>loopA run b k st1
  | ex=>M.pure (ex,st1)
def zfA (run:zao) (tm:Fm) (p q:Tmp) (assign body:Code) (el:Nat→AV):Nat→St→M (Ex × St)
 | 0,s=>M.pure (.normal,⟨tm,s.rows,s.wr⟩)
 | k + 1,s=>do
  let (e1,s1) ← run assign ⟨(tm.set p (.lit (.int .i64 (k:Int)))).set q (el k),s.rows,s.wr⟩
  match e1 with
  | .normal=>do
   let (e2,s2) ← run body s1
   match e2 with
   | .normal=>zfA run tm p q assign body el k s2
   | ex=>M.pure (ex,⟨tm,s2.rows,s2.wr⟩)
  | _=>fail 137
def evA : Nat→Bool→Code→St→M (Ex × St)
 | 0,_,_,_=>fail 101
 | n + 1, i,c,st=>match c with
  | .skip=>M.pure (.normal,st)
  | .label _=>M.pure (.normal,st)
  | .region _ ops draw=>if ops.toList.all zbO=true then match draw with
   | false=>do
    let st ← opsA g (evA n false) ops.toList ops.toList st
    M.pure (.normal,st)
   | true=>if Region.noSelect ops=true then do
    let st0 ← peek (drawF g (evA n false) ops (ops.size+1) (Array.replicate ops.size false) { st with wr:=[] })
    let st' ← zk8 g (evA n false) ops st.rows.length true (st0.wr.filter fun r=>decide (r<st.rows.length)) (ops.size+1) (Array.replicate ops.size false) st
    M.pure (.normal,st')
    else fail 102
   else fail 106
  | .seq a b=>do
   let (ex,st1) ← evA n i a st
   match ex with
   | .normal=>evA n i b st1
   | ex=>M.pure (ex,st1)
  | .cond c a b=>do
   let v ← decB (pZ st.tm c)
   match v with
   | true=>evA n i a st
   | false=>evA n i b st
  | .block id b=>do
   let (ex,st1) ← evA n i b st
   M.pure (ex.out id,st1)
  | .loop b=>match i with
   | true=>loopA (evA n true) b n st
   | false=>do
    let o ← loopFor b st
    match o with
    | some f=>do
     let v ← ofOpt 103 f
     let st1 ← ofOpt 103 (canon st.rows.length v.src v.keep v.wr st)
     tellC (.s st1 v.st0)
     tell (Loops st.rows.length g.P b v.st0 v.r)
     M.pure v.r
    | none=>loopA (evA n false) b n st
  | .exit id=>M.pure (.exit id,st)
  | .ret=>M.pure (.ret,st)
  | .rangeFunc f ps assign body=>match i with
   | true=>fail 107
   | false=>match ps.toList with
    | [p,q]=>do
     let (m,el,rows) ← backA g st.rows (pZ st.tm f)
     zfA (evA n true) st.tm p q assign body el m ⟨st.tm,rows,st.wr⟩
    | _=>fail 108
  | _=>fail 104
end
def encV (ag:Nat) (vals:Nat→Value) (k:Nat):Value:=if ag=1 then vals k else .agg #[vals (2*k),vals (2*k+1)]
def BwOK (P:Program) (gf:FuncId) (ag:Nat):Prop:=
 (∀args w,(callFunc gf args).run P w=.ok (.enter gf args) w) ∧
 ∀(l Bs oB:Nat) (a:Option Addr) (n cap:Nat) (vals:Nat→Value) (J:Nat→World→Prop) (Jx:World→Prop) (W:World),
  n≤1099511627776→W.cell? ⟨Bs,oB,none⟩=some (.slice a n cap) →
  (n=0∨∃b o,a=some ⟨b,o,none⟩∧∀i,i<n*ag→W.cell? ⟨b,o+i,none⟩=some (vals i)) →
  (∀k W',J k W'→W'.heap[Bs]? = W.heap[Bs]?∧∀b o,a=some ⟨b,o,none⟩→n≠0→W'.heap[b]? = W.heap[b]?) →
  (∀k W',k<n→J (k+1) W'→YieldAt (fen none) 0 P l #[.int .i64 (k:Int),encV ag vals k] W' fun e W''=>(e=.returned (.bool true)∧J k W'')∨(e=.returned (.bool false)∧Jx W'')) →
  J n W →
  CallsIn (fen none) 0 P gf #[.func (.yield l) #[] #[],.pointer (some ⟨Bs,oB,none⟩)] W fun e W'=>(∃v,e=.returned v)∧(J 0 W'∨Jx W')
structure Cfg.OK (g:Cfg):Prop where
 F : ∀ f fn, fnOf g.P f = some fn → g.P.funcs[f]? = some fn ∧ fn.body.isNone = false ∧ (fn.name == "runtime.NumGoroutine") = false
 C:∀f args,g.has.contains f=true→args.all (BZ 20)=true→Spec (g.C f args) fun v=>FC g.P f args v
 mixed:g.P.follows .mixedOrders=true
 bw:∀gf ag,look g.bw gf=some ag→BwOK g.P gf ag
theorem zik {P:Program} {t:TypeId} {ti:TI} (h:tiOf P t=some ti) :
 ∃i d z,P.info? t=some i∧P.underlying t=some d∧i.zero=some z∧ti=⟨zdM d,i.size,i.bytes,z.cells.toList⟩:=by
 unfold tiOf at h
 grind
theorem tZ {g:Cfg} (_:g.OK) {t:TypeId} {Q:TI→Prop}
 (h:∀i d z,g.P.info? t=some i→g.P.underlying t=some d→i.zero=some z→Q ⟨zdM d,i.size,i.bytes,z.cells.toList⟩):Spec (ty g t) Q:=
 Spec.ofOpt fun ti hti=>by
  obtain ⟨i,d,z,h1,h2,h3,rfl⟩:=zik hti
  exact h i d z h1 h2 h3
section
variable {P:Program}
theorem zbp {t:TypeId} {i:TypeInfo} (h:P.info? t=some i) (w:World):(typeInfo t).run P w=.ok i w:=by
 simp [typeInfo,h]
theorem qZ {t:TypeId} {i:TypeInfo} (h:P.info? t=some i) (w:World):(sizeOf t).run P w=.ok i.size w:=by
 simp [sizeOf,zbp h]
theorem VZ {t:TypeId} {i:TypeInfo} {z:Value} (h:P.info? t=some i) (hz:i.zero=some z) (w:World):(zeroValue t).run P w=.ok z w:=by
 simp [zeroValue,zbp h,hz]
theorem zfS {t:TypeId} {d:TypeDesc} (h:P.underlying t=some d) (w:World):(isAgg t).run P w=.ok (zap (zdM d)) w:=by
 unfold isAgg
 cases d<;>simp [run_underlying h,zap,zdM]
theorem zcV (b o i:Nat):(⟨b,o,none⟩:Addr).add i=⟨b,o+i,none⟩:=by
 unfold Addr.add;split<;>simp_all
theorem za5 {t:TypeId} {i:TypeInfo} {d:TypeDesc} (hi:P.info? t=some i) (hd:P.underlying t=some d) (b o:Nat) (vals:Nat→Value) (w:World)
 (h:∀j,j<(if zap (zdM d) then i.size else 1)→AZ w.heap b (o+j)=some (vals (o+j))) :
 (loadVar t ⟨b,o,none⟩).run P w=.ok (if zap (zdM d) then .agg ((List.range i.size).map fun j=>vals (o+j)).toArray else vals o) w:=by
 unfold loadVar
 simp only [Sem.run_bind,zfS hd,Result.andThen_ok]
 by_cases ha:zap (zdM d)=true
 ·simp only [ha,if_true] at h ⊢
  simp only [Sem.run_bind,qZ hi,Result.andThen_ok]
  rw [run_loadCells w ⟨b,o,none⟩ i.size (fun j=>vals (o+j)) (fun j hj=>by rw [zcV,cell?_eq];exact h j hj)]
  simp
 ·have ha':zap (zdM d)=false:=by simpa using ha
  simp only [ha',Bool.false_eq_true,if_false] at h ⊢
  have h0:=h 0 (by omega)
  simp only [Nat.add_zero] at h0
  simp [cell?_eq,h0]
end
def Keeps (M0:Nat→Prop) (n0:Nat→Prop) (rows:List Row) (rho:List Nat) (w w':World):Prop:=
 w.heap.size≤w'.heap.size∧∀b,b<w.heap.size→(¬zcU M0 rows rho b∨∃(r:Nat) (row:Row),n0 r∧rows[r]? = some row∧row.alive=true∧rho[r]? = some b)→w'.heap[b]? = w.heap[b]?
def PureOK (P:Program) (n0:Nat→Prop) (st:St) (o:Oper) (x:AV):Prop:=
 ∀B M0 rho (a:Act) w,Mem B M0 st.rows rho w→Fr (iZ M0 st.rows rho w) st.tm a.tmps →
  ∃v,Rd (iZ M0 st.rows rho w) x v∧∀w',Keeps M0 n0 st.rows rho w w'→(execOp a.eval o).run P w'=.ok (.value v) w'
def RunOK (P:Program) (st:St) (o:Oper) (r:Out):Prop:=
 ∀ B M0 rho (a:Act) w,Mem B M0 st.rows rho w→Fr (iZ M0 st.rows rho w) st.tm a.tmps →
  ∃nx w' rho' v,(execOp a.eval o).run P w=.ok nx w'∧(nx=.value v∨nx=.skip∧v=undef) ∧
   Stp B M0 st.rows rho st.wr w r.rows rho' r.wr w'∧Rd (iZ M0 r.rows rho' w') r.v v
def OpOK (P:Program) (st:St) (o:Oper) (r:Out):Prop:=
 ∀B M0 rho (a:Act) w,Mem B M0 st.rows rho w→Fr (iZ M0 st.rows rho w) st.tm a.tmps→∀(K:Act→World→Prop) (Q:Exit→Act→World→Prop),
  (∀v w' rho',Stp B M0 st.rows rho st.wr w r.rows rho' r.wr w'→Rd (iZ M0 r.rows rho' w') r.v v→K (a.put o.dst v) w')→o.wp P a w K Q
theorem RunOK.op {P:Program} {st:St} {o:Oper} {r:Out} (h:RunOK P st o r):OpOK P st o r:=by
 intro B M0 rho a w hm hf K Q hK
 obtain ⟨nx,w',rho',v,hrun,hnx,hs,hr⟩:=h B M0 rho a w hm hf
 unfold Oper.wp
 rw [hrun]
 rcases hnx with rfl | ⟨rfl,rfl⟩
 ·exact hK v w' rho' hs hr
 ·exact hK undef w' rho' hs hr
theorem Keeps.refl (M0:Nat→Prop) (n0:Nat→Prop) (rows:List Row) (rho:List Nat) (w:World):Keeps M0 n0 rows rho w w:=⟨Nat.le_refl _,fun _ _ _=>rfl⟩
theorem PureOK.run {P:Program} {n0:Nat→Prop} {st:St} {o:Oper} {x:AV} (h:PureOK P n0 st o x):RunOK P st o ⟨x,st.rows,st.wr⟩:=by
 intro B M0 rho a w hm hf
 obtain ⟨v,hv,hrun⟩:=h B M0 rho a w hm hf
 exact ⟨.value v,w,rho,v,hrun w (Keeps.refl _ _ _ _ _),.inl rfl,Stp.refl hm,hv⟩
theorem KZ {P:Program} {n0:Nat→Prop} {st:St} {o:Oper} {x:AV}
 (h:∀E (a:Act),Fr E st.tm a.tmps→∃v,Rd E x v∧∀w,(execOp a.eval o).run P w=.ok (.value v) w):PureOK P n0 st o x:=by
 intro B M0 rho a w _ hf
 grind
theorem Fr.eval {E:Env} {tm:Fm} {a:Act} (hf:Fr E tm a.tmps) (x:Operand):Rd E (pZ tm x) (a.eval x):=by
 cases x with
 | tmp t=>exact hf.getD t
 | const v=>
  show Rd E (zmq v) v
  unfold zmq
  split<;>first | exact .tt | exact .ff | exact .lit _
 | global b=>exact .lit _
 | func f=>exact .fn (by simp) (by intro i hi;simp at hi)
theorem Rd.lit_inv {E:Env} {u v:Value} (h:Rd E (.lit u) v):v=u:=by cases h;rfl
theorem Rd.asB {E:Env} {x:AV} {v:Value} {b:Bool} (h:Rd E x v) (hx:asB x=some b):v=.bool b:=by
 unfold Ev.asB at hx
 split at hx<;>first | (cases hx;cases h;rfl) | cases hx
theorem Rd.asI {E:Env} {x:AV} {v:Value} {n:Int} (h:Rd E x v) (hx:asI x=some n):∃k,v=.int k n:=by
 unfold Ev.asI at hx
 split at hx<;>first | (cases hx;cases h;exact ⟨_,rfl⟩) | cases hx
theorem zg8 {E:Env} {x:AV} {v:Value} (h:Rd E x v) {Q:Bool→Prop} (hQ:∀b,v=.bool b→Q b):Spec (decB x) Q:=by
 unfold decB
 split
 ·cases h;exact Spec.pure' (hQ _ rfl)
 ·cases h;exact Spec.pure' (hQ _ rfl)
 ·cases h;exact Spec.dec (hQ _ rfl)
 ·exact Spec.fail
theorem zaT {k:IntKind} {n:Int} (h:inR k n=true):k.wrap n=n:=by
 simp only [inR,Bool.and_eq_true,decide_eq_true_eq] at h
 obtain ⟨h1,h2⟩:=h
 cases k<;>simp [IntKind.wrap,IntKind.min,IntKind.max,IntKind.signed,IntKind.bits] at h1 h2 ⊢ <;> (try split)<;>omega
section
variable {g:Cfg} {n0:Nat→Prop} {st:St} {o:Oper}
theorem same_spec {rows:List Row} {wr:List Nat} {m:M AV} {Q:Out→Prop} (h:Spec m fun v=>Q ⟨v,rows,wr⟩):Spec (same rows wr m) Q:=
 Spec.bind (h.mono fun _ hv=>Spec.pure' hv)
theorem zlo {x:Operand} (ho:o.op=.move x∨o.op=.assign x):PureOK g.P n0 st o (pZ st.tm x):=
 KZ fun E a hf=>⟨a.eval x,hf.eval x,fun w=>by rcases ho with h | h<;>simp [execOp,h]⟩
theorem arith_spec {op:BinOp} {k:IntKind} {a b:Int} :
 Spec (arith op k a b) fun x=>∃v,(∀E,Rd E x v)∧∀P t (w:World),(Go.binOp op t (.int k a) (.int k b)).run P w=.ok v w:=by
 unfold arith
 split<;>(repeat (first | exact Spec.fail | refine Spec.bind (Spec.chk fun _=>?_) | refine Spec.pure' ?_))
 ·rename_i h;exact ⟨_,fun E=>.lit _,fun P t w=>by simp [Go.binOp,Op.intArith,zaT h]⟩
 ·rename_i h;exact ⟨_,fun E=>.lit _,fun P t w=>by simp [Go.binOp,Op.intArith,zaT h]⟩
 ·rename_i h;exact ⟨_,fun E=>.lit _,fun P t w=>by simp [Go.binOp,Op.intArith,zaT h]⟩
 ·rename_i h0 h
  simp at h0
  exact ⟨_,fun E=>.lit _,fun P t w=>by simp [Go.binOp,Op.intDiv,h0,zaT h]⟩
 ·rename_i h0
  simp at h0
  exact ⟨_,fun E=>.lit _,fun P t w=>by simp [Go.binOp,Op.intDiv,h0]⟩
 all_goals exact ⟨_,fun E=>.lit _,fun P t w=>by simp [Go.binOp,Op.intCmp]⟩
theorem zjH {P:Program} {op:BinOp} {t:TypeId} {x y:Operand} {a b:Value} (h:(∀u,a≠.agg u)∧a≠.nilIface) (w:World):(eqGuard op t x y a b).run P w=.ok () w:=by
 unfold eqGuard
 simp_all
theorem zdW {P:Program} {t:TypeId} (a b:Bool) (h:P.underlying t=some .bool) (w:World) :
 (Go.binOp .eql t (.bool a) (.bool b)).run P w=.ok (.bool (a==b)) w∧(Go.binOp .neq t (.bool a) (.bool b)).run P w=.ok (.bool (!(a==b))) w:=by
 have h1:(Op.equal t (.bool a) (.bool b)).run P w=.ok (a==b) w:=by
  show(Op.equalIn (9999+1) t (.bool a) (.bool b)).run P w=_
  unfold Op.equalIn
  simp only [Sem.run_bind,run_underlying h,Result.andThen_ok,Sem.run_pure]
 constructor
 ·show(do pure (.bool (← Op.equal t (.bool a) (.bool b))):Sem Value).run P w=_
  simp_all
 ·show(do pure (.bool (!(← Op.equal t (.bool a) (.bool b)))):Sem Value).run P w=_
  simp_all
theorem zbo {P:Program} {t e:TypeId} (a:Option Addr) (h:P.underlying t=some (.pointer e)) (w:World) :
 (Go.binOp .eql t (.pointer a) (.pointer none)).run P w=.ok (.bool a.isNone) w∧(Go.binOp .neq t (.pointer a) (.pointer none)).run P w=.ok (.bool (!a.isNone)) w:=by
 have h1:(Op.equal t (.pointer a) (.pointer none)).run P w=.ok a.isNone w:=by
  show(Op.equalIn (9999+1) t (.pointer a) (.pointer none)).run P w=_
  unfold Op.equalIn
  cases a<;>simp only [Sem.run_bind,run_underlying h,Result.andThen_ok,Sem.run_pure]<;>rfl
 constructor
 ·show(do pure (.bool (← Op.equal t (.pointer a) (.pointer none))):Sem Value).run P w=_
  simp_all
 ·show(do pure (.bool (!(← Op.equal t (.pointer a) (.pointer none)))):Sem Value).run P w=_
  simp_all
theorem zaU {E:Env} {x:AV} {l:List Int} {v:Value} (hx:ints? x=some l) (h:Rd E x v):∃a cap,v=.slice a l.length cap∧l.length≤cap∧IntsAt E l a:=by
 unfold ints? at hx
 split at hx<;>first | (cases hx;done) | skip
 ·cases hx;cases h with | sq h1 hc=>exact ⟨_,_,rfl,hc,h1⟩
 ·cases hx;cases h with | wd h1 hc=>exact ⟨_,_,rfl,hc,h1⟩
 ·cases hx;cases h with | ni h1 hc=>exact ⟨_,_,rfl,hc,h1⟩
 ·cases hx;cases h;exact ⟨_,_,rfl,Nat.zero_le _,.inl rfl⟩
theorem nilA_spec {x:AV}:Spec (nilA x) fun b=>∀(E:Env) (v:Value),Rd E x v→∃a n c,v=.slice a n c∧a.isNone=b:=by
 unfold nilA
 split
 ·exact Spec.pure' fun E v h=>⟨_,_,_,h.lit_inv,rfl⟩
 ·exact Spec.pure' fun E v h=>⟨_,_,_,h.lit_inv,rfl⟩
 ·exact Spec.pure' fun E v h=>by cases h;exact ⟨_,_,_,rfl,rfl⟩
 ·refine Spec.bind (Spec.chk fun hn=>Spec.pure' fun E v h=>?_)
  cases h with
  | sl0=>simp at hn
  | sl=>exact ⟨_,_,_,rfl,rfl⟩
 ·refine Spec.bind (Spec.chk fun hn=>Spec.pure' fun E v h=>?_)
  cases h with
  | zl h=>
   obtain ⟨a,cap,rfl,_,hne⟩:=zji h
   simp_all
 ·refine Spec.bind (Spec.chk fun hn=>Spec.pure' fun E v h=>?_)
  cases h with
  | lst h=>
   obtain ⟨a,cap,rfl,_,hne⟩:=zji h
   simp_all
 ·split
  ·rename_i l hl
   refine Spec.bind (Spec.chk fun hn=>Spec.pure' fun E v h=>?_)
   obtain ⟨a,cap,rfl,hc,hi⟩:=zaU hl h
   rcases hi with rfl | ⟨b,o,rfl,_⟩
   ·simp at hn
   simp
  ·exact Spec.fail
theorem zdl {P:Program} {t e:TypeId} (a:Option Addr) (n c:Nat) (h:P.underlying t=some (.slice e)) (w:World) :
 (Go.binOp .eql t (.slice a n c) (.slice none 0 0)).run P w=.ok (.bool a.isNone) w∧(Go.binOp .neq t (.slice a n c) (.slice none 0 0)).run P w=.ok (.bool (!a.isNone)) w:=by
 have h1:(Op.equal t (.slice a n c) (.slice none 0 0)).run P w=.ok a.isNone w:=by
  show(Op.equalIn (9999+1) t (.slice a n c) (.slice none 0 0)).run P w=_
  unfold Op.equalIn
  cases a<;>simp only [Sem.run_bind,run_underlying h,Result.andThen_ok,Sem.run_pure]<;>rfl
 constructor
 ·show(do pure (.bool (← Op.equal t (.slice a n c) (.slice none 0 0))):Sem Value).run P w=_
  simp_all
 ·show(do pure (.bool (!(← Op.equal t (.slice a n c) (.slice none 0 0)))):Sem Value).run P w=_
  simp_all
theorem zfm {P:Program} {t:TypeId} (a b:ByteArray) (w:World) :
 (Go.binOp .eql t (.string a) (.string b)).run P w=.ok (.bool (zrt a b)) w∧(Go.binOp .neq t (.string a) (.string b)).run P w=.ok (.bool (!(zrt a b))) w:=by
 rw [← strEq_eq]
 constructor<;>simp [Go.binOp,Op.stringOp]
theorem ziK {P:Program} {t:TypeId} (a b:ByteArray) (h:((a.size+b.size:Nat):Int)≤9223372036854775807) (w:World) :
 (Go.binOp .add t (.string a) (.string b)).run P w=.ok (.string (a++b)) w:=by
 have h':¬(((a.size+b.size:Nat):Int) > IntKind.i64.max):=by
  simp_all
 simp only [Go.binOp,Op.stringOp,h',if_false,Sem.run_pure]
theorem zoN (hg:g.OK) {op:BinOp} {t:TypeId} {x y:Operand} {t':TypeId} (ho:o.op=.binOp op t x y t') :
 Spec (binop g op t (pZ st.tm x) (pZ st.tm y)) fun v=>PureOK g.P n0 st o v:=by
 have key:∀ {z:AV},(∀E vx vy,Rd E (pZ st.tm x) vx→Rd E (pZ st.tm y) vy→∃v,Rd E z v∧((∀u,vx≠.agg u)∧vx≠.nilIface)∧∀w,(Go.binOp op t vx vy).run g.P w=.ok v w) →
  PureOK g.P n0 st o z:=fun hz=>KZ fun E a hf=>by
  obtain ⟨v,hv,hne,hr⟩:=hz E _ _ (hf.eval x) (hf.eval y)
  refine ⟨v,hv,fun w=>?_⟩
  simp only [execOp,ho,Sem.run_bind,zjH hne,Result.andThen_ok,hr,Sem.run_pure]
 unfold binop
 split
 ·rename_i k a k' b hx hy
  split
  ·rename_i hk
   subst hk
   refine arith_spec.mono fun z ⟨v,hv,hr⟩=>key fun E vx vy h1 h2=>?_
   rw [hx] at h1;rw [hy] at h2
   rw [h1.lit_inv,h2.lit_inv]
   simp_all
  ·exact Spec.fail
 ·refine Spec.bind (tZ hg fun i d z hi hd hz=>?_)
  dsimp only
  split
  ·-- bool
   rename_i htk
   have hd':g.P.underlying t=some .bool:=by rw [hd];cases d<;>simp [zdM] at htk ⊢
   refine Spec.bind (Spec.ofOpt fun a ha=>Spec.bind (Spec.ofOpt fun b hb=>?_))
   split
   ·refine Spec.pure' (key fun E vx vy h1 h2=>?_)
    rw [h1.asB ha,h2.asB hb]
    exact ⟨_,.lit _,⟨fun u h=>(by cases h),fun h=>(by cases h)⟩,fun w=>(zdW _ _ hd' w).1⟩
   ·refine Spec.pure' (key fun E vx vy h1 h2=>?_)
    rw [h1.asB ha,h2.asB hb]
    exact ⟨_,.lit _,⟨fun u h=>(by cases h),fun h=>(by cases h)⟩,fun w=>(zdW _ _ hd' w).2⟩
   ·exact Spec.fail
  ·-- pointers against nil
   rename_i e htk
   have hd':∃e',g.P.underlying t=some (.pointer e'):=by rw [hd];cases d<;>simp [zdM] at htk ⊢
   obtain ⟨e',hd'⟩:=hd'
   have hp:∀ {E:Env} {z:AV} {v:Value},zmJ z=true→Rd E z v→∃a,v=.pointer (some a):=by
    intro E z v hz hr
    cases hr<;>simp [zmJ] at hz<;>exact ⟨_,rfl⟩
   split
   ·rename_i h1 h2
    refine Spec.pure' (key fun E vx vy k1 k2=>?_)
    rw [h1] at k1;rw [h2] at k2
    rw [k1.lit_inv,k2.lit_inv]
    exact ⟨_,.tt,⟨fun u h=>(by cases h),fun h=>(by cases h)⟩,fun w=>(zbo none hd' w).1⟩
   ·rename_i h1 h2
    refine Spec.pure' (key fun E vx vy k1 k2=>?_)
    rw [h1] at k1;rw [h2] at k2
    rw [k1.lit_inv,k2.lit_inv]
    exact ⟨_,.ff,⟨fun u h=>(by cases h),fun h=>(by cases h)⟩,fun w=>(zbo none hd' w).2⟩
   ·rename_i h2 _
    split
    ·rename_i hz
     refine Spec.pure' (key fun E vx vy k1 k2=>?_)
     rw [h2] at k2
     obtain ⟨a,rfl⟩:=hp hz k1
     rw [k2.lit_inv]
     exact ⟨_,.ff,⟨fun u h=>(by cases h),fun h=>(by cases h)⟩,fun w=>(zbo (some a) hd' w).1⟩
    ·exact Spec.fail
   ·rename_i h2 _
    split
    ·rename_i hz
     refine Spec.pure' (key fun E vx vy k1 k2=>?_)
     rw [h2] at k2
     obtain ⟨a,rfl⟩:=hp hz k1
     rw [k2.lit_inv]
     exact ⟨_,.tt,⟨fun u h=>(by cases h),fun h=>(by cases h)⟩,fun w=>(zbo (some a) hd' w).2⟩
    ·exact Spec.fail
   ·exact Spec.fail
  ·-- strings
   split
   ·rename_i h1 h2
    refine Spec.pure' (key fun E vx vy k1 k2=>?_)
    rw [h1] at k1;rw [h2] at k2
    rw [k1.lit_inv,k2.lit_inv]
    exact ⟨_,.lit _,⟨fun u h=>(by cases h),fun h=>(by cases h)⟩,fun w=>(zfm _ _ w).1⟩
   ·rename_i h1 h2
    refine Spec.pure' (key fun E vx vy k1 k2=>?_)
    rw [h1] at k1;rw [h2] at k2
    rw [k1.lit_inv,k2.lit_inv]
    exact ⟨_,.lit _,⟨fun u h=>(by cases h),fun h=>(by cases h)⟩,fun w=>(zfm _ _ w).2⟩
   ·rename_i h1 h2
    refine Spec.bind (Spec.chk fun hs=>Spec.pure' (key fun E vx vy k1 k2=>?_))
    rw [h1] at k1;rw [h2] at k2
    rw [k1.lit_inv,k2.lit_inv]
    exact ⟨_,.lit _,⟨fun u h=>(by cases h),fun h=>(by cases h)⟩,fun w=>ziK _ _ (by simpa using hs) w⟩
   ·exact Spec.fail
  ·-- slices against nil
   rename_i e htk
   have hd':∃e',g.P.underlying t=some (.slice e'):=by rw [hd];cases d<;>simp [zdM] at htk ⊢
   obtain ⟨e',hd'⟩:=hd'
   split
   ·rename_i h2
    refine Spec.bind (nilA_spec.mono fun b hb=>?_)
    split
    ·refine Spec.pure' (key fun E vx vy k1 k2=>?_)
     rw [h2] at k2
     obtain ⟨a,n,c,rfl,ha⟩:=hb E vx k1
     rw [k2.lit_inv]
     refine ⟨.bool b,?_,⟨fun u h=>(by cases h),fun h=>(by cases h)⟩,fun w=>by rw [(zdl a n c hd' w).1,ha]⟩
     cases b
     ·exact .ff
     ·exact .tt
    ·refine Spec.pure' (key fun E vx vy k1 k2=>?_)
     rw [h2] at k2
     obtain ⟨a,n,c,rfl,ha⟩:=hb E vx k1
     rw [k2.lit_inv]
     refine ⟨.bool (!b),?_,⟨fun u h=>(by cases h),fun h=>(by cases h)⟩,fun w=>by rw [(zdl a n c hd' w).2,ha]⟩
     cases b
     ·exact .tt
     ·exact .ff
    ·exact Spec.fail
   ·exact Spec.fail
  ·exact Spec.fail
theorem unOp_pure {op:UnOp} {t:TypeId} {x:Operand} (ho:o.op=.unOp op t x):Spec (unop op (pZ st.tm x)) fun v=>PureOK g.P n0 st o v:=by
 have key:∀ {z:AV},(∀E vx,Rd E (pZ st.tm x) vx→∃v,Rd E z v∧∀w,(Op.unary op vx).run g.P w=.ok v w)→PureOK g.P n0 st o z:=fun hz=>
  KZ fun E a hf=>by
   obtain ⟨v,hv,hr⟩:=hz E _ (hf.eval x)
   exact ⟨v,hv,fun w=>by simp only [execOp,ho,Sem.run_bind,hr,Result.andThen_ok,Sem.run_pure]⟩
 unfold unop
 split
 ·rename_i h1;refine Spec.pure' (key fun E vx k=>?_);rw [h1] at k;cases k;exact ⟨_,.ff,fun w=>by simp [Op.unary]⟩
 ·rename_i h1;refine Spec.pure' (key fun E vx k=>?_);rw [h1] at k;cases k;exact ⟨_,.tt,fun w=>by simp [Op.unary]⟩
 ·rename_i h1;refine Spec.pure' (key fun E vx k=>?_);rw [h1] at k;cases k;exact ⟨_,.lit _,fun w=>by simp [Op.unary]⟩
 ·rename_i h1
  refine Spec.bind (Spec.chk fun h=>Spec.pure' (key fun E vx k=>?_))
  rw [h1] at k;cases k
  have h':=zaT h
  exact ⟨_,.lit _,fun w=>by show(Sem.pure _:Sem Value).run _ w=_;rw [h'];rfl⟩
 ·exact Spec.fail
theorem pick_pure {c a b:Operand} (ho:o.op=.pick c a b) :
 Spec (do let v ← decB (pZ st.tm c);match v with | true=>M.pure (pZ st.tm a) | false=>M.pure (pZ st.tm b)) fun v=>PureOK g.P n0 st o v:=by
 intro c' s x s' cs he hcs
 refine KZ fun E act hf=>?_
 have := Spec.bind (Q:=fun z=>∃v,Rd E z v∧∀w,(execOp act.eval o).run g.P w=.ok (.value v) w)
  (zg8 (hf.eval c) (Q:=fun v=>Spec (match v with | true=>M.pure (pZ st.tm a) | false=>M.pure (pZ st.tm b)) fun z=>∃v,Rd E z v∧∀w,(execOp act.eval o).run g.P w=.ok (.value v) w)
   (fun v hv=>by
    cases v with
    | true=>exact Spec.pure' ⟨_,hf.eval a,fun w=>by simp [execOp,ho,hv,asBool]⟩
    | false=>exact Spec.pure' ⟨_,hf.eval b,fun w=>by simp [execOp,ho,hv,asBool]⟩))
 exact this c' s x s' cs he hcs
theorem zlc {x:Operand} {i:Nat} (ho:o.op=.extract x i) :
 Spec (match pZ st.tm x with | .tup vs=>ofOpt 89 vs[i]? | _=>fail 90) fun v=>PureOK g.P n0 st o v:=by
 split
 ·rename_i vs hx
  refine Spec.ofOpt fun z hz=>KZ fun E a hf=>?_
  have h:=hf.eval x
  rw [hx] at h
  generalize heq:a.eval x=u at h
  cases h with
  | @tup _ us hl hr=>
   obtain ⟨hlt,he⟩:=List.getElem?_eq_some_iff.1 hz
   have h1:=hr i hlt
   have h2:vs.getD i .junk=z:=by simp [List.getD,hz]
   rw [h2] at h1
   refine ⟨_,h1,fun w=>?_⟩
   have hi:i<us.size:=by omega
   simp only [execOp,ho,heq,Instr.extract,Sem.run_bind]
   simp [hi]
 ·exact Spec.fail
theorem zjP {f:FuncId} {first caps:Array Operand} (ho:o.op=.makeFunc (.func f) first caps) :
 Spec (if first.size=0 then M.pure (AV.fn f (caps.toList.map (pZ st.tm))) else fail 81) fun v=>PureOK g.P n0 st o v:=by
 split
 ·rename_i h0
  refine Spec.pure' (KZ fun E a hf=>⟨.func (.func f) #[] (caps.map a.eval),.fn (by simp) (fun i hi=>?_),fun w=>?_⟩)
  ·have hi':i<caps.size:=by simpa using hi
   have h1:(caps.toList.map (pZ st.tm)).getD i .junk=pZ st.tm caps[i]:=by simp [List.getD,hi']
   have h2:(caps.map a.eval).getD i undef=a.eval caps[i]:=by simp [Array.getD,hi']
   rw [h1,h2];exact hf.eval _
  ·have:first = #[]:=by simpa using h0
   simp [execOp,ho,Instr.makeFunc,this]
 ·exact Spec.fail
end
section
variable {g:Cfg} {n0:Nat→Prop} {st:St} {o:Oper}
theorem zf1 {h h':Array Obj} {b:Nat} (he:h'[b]? = h[b]?) (o:Nat):AZ h' b o=AZ h b o:=by
 unfold AZ;rw [he]
theorem zbP {E:Env} {cs:List AV} {vals:Nat→Value} {off size:Nat} (h:∀i,i<cs.length→Rd E (cs.getD i .junk) (vals i)) (hl:off+size≤cs.length) :
 Rd E (.agg ((cs.drop off).take size)) (.agg ((List.range size).map fun j=>vals (off+j)).toArray):=by
 refine .agg (by simp;omega) fun i hi=>?_
 have hi':i<size:=by simp at hi;omega
 simp_all
theorem zlj (hg:g.OK) {t:TypeId} {a:Operand} (ho:o.op=.load t a) (hn:∀r off,pZ st.tm a=.ref r off→n0 r) :
 Spec (do let ti ← ty g t;zli st.rows ti (pZ st.tm a)) fun v=>PureOK g.P n0 st o v:=by
 refine Spec.bind (tZ hg fun i d z hi hd _=>?_)
 have exec:∀(act:Act) (ad:Addr) (v:Value) (w:World),act.eval a=.pointer (some ad)→(loadVar t ad).run g.P w=.ok v w→(execOp act.eval o).run g.P w=.ok (.value v) w:=by
  intro act ad v w he hr
  simp only [execOp,ho,Instr.loadAt,he,Instr.sureAddr,Sem.run_bind,Sem.run_pure,Result.andThen_ok,hr]
 unfold zli
 split
 ·-- an own row
  rename_i r off hx
  have hrn:=hn r off hx
  split
  ·rename_i cs lv hrow
   have hrows:st.rows[r]? = some (.flat cs lv):=by
    grind
   have key:∀ {x:AV},(∀E (c:Array Value),(∀i,i<cs.length→Rd E (cs.getD i .junk) (c.getD i undef))→cs.length≤c.size →
    Rd E x (if zap (zdM d) then .agg ((List.range i.size).map fun j=>c.getD (off+j) undef).toArray else c.getD off undef)) →
    (∀j,j<(if zap (zdM d) then i.size else 1)→off+j<cs.length)→PureOK g.P n0 st o x:=by
    intro x hx' hlen B M0 rho act w hm hf
    have h:=hf.eval a
    rw [hx] at h
    generalize heq:act.eval a=u at h
    cases h with
    | @ref _ _ b hr=>
     have hrho:rho[r]? = some b:=hr
     obtain ⟨c,e,hb,hlc,hcs⟩:=hm.row r _ b hrows hrho
     refine ⟨_,hx' _ c hcs hlc,fun w' hk=>exec act ⟨b,off,none⟩ _ w' heq ?_⟩
     have hbl:=(hm.bnd r b hrho).2
     have hb':w'.heap[b]? = some (.cells c e (0,0)):=by rw [hk.2 b hbl (.inr ⟨r,_,hrn,hrows,rfl,hrho⟩)];exact hb
     refine za5 hi hd b off (fun j=>c.getD j undef) w' fun j hj=>?_
     have:off+j<c.size:=Nat.lt_of_lt_of_le (hlen j hj) hlc
     simp [AZ,hb',this]
   dsimp only
   split
   ·rename_i hag
    split
    ·rename_i hle
     refine Spec.pure' (key (fun E c hcs hlc=>?_) (fun j hj=>by simp [hag] at hj;omega))
     simp only [hag,if_true]
     exact zbP (vals:=fun j=>c.getD j undef) hcs hle
    ·exact Spec.fail
   ·rename_i hag
    split
    ·rename_i hle
     refine Spec.pure' (key (fun E c hcs hlc=>?_) (fun j hj=>by simp [hag] at hj;omega))
     simp_all
    ·exact Spec.fail
  ·rename_i l lv hrow
   have hrows:st.rows[r]? = some (.ints l lv):=by
    grind
   dsimp only
   split
   ·exact Spec.fail
   ·rename_i hag
    refine Spec.bind (Spec.chk fun hlt=>Spec.pure' ?_)
    have hlt':off<l.length:=by simpa using hlt
    intro B M0 rho act w hm hf
    have h:=hf.eval a
    rw [hx] at h
    generalize heq:act.eval a=u at h
    cases h with
    | @ref _ _ b hr=>
     have hrho:rho[r]? = some b:=hr
     obtain ⟨c,e,hb,hlc,hcs⟩:=hm.row r _ b hrows hrho
     refine ⟨_,.lit _,fun w' hk=>exec act ⟨b,off,none⟩ _ w' heq ?_⟩
     have hbl:=(hm.bnd r b hrho).2
     have hb':w'.heap[b]? = some (.cells c e (0,0)):=by rw [hk.2 b hbl (.inr ⟨r,_,hrn,hrows,rfl,hrho⟩)];exact hb
     have:=za5 hi hd b off (fun _=>.int .i64 (l.getD off 0)) w' fun j hj=>by
      simp [hag] at hj;subst hj
      simp only [Nat.add_zero,AZ,hb']
      exact hcs off hlt'
     simpa [hag] using this
  ·exact Spec.fail
  ·exact Spec.fail
 ·-- data behind a pointer
  rename_i cs off hx
  have key:∀ {x:AV},(∀E (vals:Nat→Value),(∀i,i<cs.length→Rd E (cs.getD i .junk) (vals i)) →
   Rd E x (if zap (zdM d) then .agg ((List.range i.size).map fun j=>vals (off+j)).toArray else vals off)) →
   (∀j,j<(if zap (zdM d) then i.size else 1)→off+j<cs.length)→PureOK g.P n0 st o x:=by
   intro x hx' hlen B M0 rho act w hm hf
   have h:=hf.eval a
   rw [hx] at h
   generalize heq:act.eval a=u at h
   cases h with
   | @pd _ _ b base vals hs hM hv hr=>
    have hgoal:=hx' _ vals hr
    have e1:(if zap (zdM d)=true then Value.agg ((List.range i.size).map fun j=>vals (off+j)).toArray else vals off) =
     (if zap (zdM d)=true then Value.agg ((List.range i.size).map fun j=>(fun k=>vals (k-base)) (base+off+j)).toArray else(fun k=>vals (k-base)) (base+off)):=by
     grind
    refine ⟨_,hgoal,fun w' hk=>exec act ⟨b,base+off,none⟩ _ w' heq ?_⟩
    rw [e1]
    refine za5 hi hd b (base+off) (fun k=>vals (k-base)) w' fun j hj=>?_
    have hb':w'.heap[b]? = w.heap[b]?:=hk.2 b hs (.inl hM)
    have:=hv (off+j) (hlen j hj)
    rw [zf1 hb',show base+off+j=base+(off+j) by omega]
    exact this.trans (by simp)
  dsimp only
  split
  ·rename_i hag
   split
   ·rename_i hle
    refine Spec.pure' (key (fun E vals hcs=>?_) (fun j hj=>by simp [hag] at hj;omega))
    simp only [hag,if_true]
    exact zbP hcs hle
   ·exact Spec.fail
  ·rename_i hag
   split
   ·rename_i hle
    refine Spec.pure' (key (fun E vals hcs=>?_) (fun j hj=>by simp [hag] at hj;omega))
    simp_all
   ·exact Spec.fail
 ·rename_i l k hx
  dsimp only
  split
  ·exact Spec.fail
  ·rename_i hag
   refine Spec.bind (Spec.chk fun hlt=>Spec.pure' ?_)
   have hlt':k<l.length:=by simpa using hlt
   intro B M0 rho act w hm hf
   have h:=hf.eval a
   rw [hx] at h
   generalize heq:act.eval a=u at h
   cases h with
   | @qel _ _ b base hs hM hv=>
    refine ⟨_,.lit _,fun w' hk=>exec act ⟨b,base+k,none⟩ _ w' heq ?_⟩
    have hb':w'.heap[b]? = w.heap[b]?:=hk.2 b hs (.inl hM)
    have:=za5 hi hd b (base+k) (fun _=>.int .i64 (l.getD k 0)) w' fun j hj=>by
     simp [hag] at hj;subst hj
     rw [zf1 hb'];exact hv k hlt'
    simpa [hag] using this
 ·exact Spec.fail
theorem sZ (k:EK):∀l:List k.ty,(hZ k l).length=l.length*k.sz:=by
 have cl:∀(k:EK) (x:k.ty),(k.cells x).length=k.sz:=by
  intro k
  induction k with
  | pr a b iha ihb=>intro x;simp [EK.cells,EK.sz,iha,ihb]
  | _=>intro x;rfl
 intro l
 induction l with
 | nil=>simp [hZ]
 | cons x l ih=>simp only [hZ,List.length_append,cl,ih,List.length_cons,Nat.succ_mul];omega
theorem nZ:∀(k:EK) (x:k.ty),(k.cells x).length=k.sz:=by
 intro k
 induction k with
 | pr a b iha ihb=>intro x;simp [EK.cells,EK.sz,iha,ihb]
 | _=>intro x;rfl
theorem zbv (k:EK):∀(l:List k.ty) (i j:Nat),i<l.length→j<k.sz→(hZ k l).getD (i*k.sz+j) .junk=(k.cells (l.getD i k.dflt)).getD j .junk
 | [],i,j,hi,_=>by simp at hi
 | x :: l,0,j,_,hj=>by
  simp only [hZ,Nat.zero_mul,Nat.zero_add,List.getD_cons_zero]
  simp only [List.getD]
  rw [List.getElem?_append_left (by rw [nZ];exact hj)]
 | x :: l,i+1,j,hi,hj=>by
  have ih:=zbv k l i j (by simpa using hi) hj
  simp only [hZ,List.getD_cons_succ]
  rw [← ih]
  simp only [List.getD]
  rw [List.getElem?_append_right (by rw [nZ,Nat.succ_mul];omega),nZ,Nat.succ_mul]
  congr 3;omega
theorem zjv (k:EK) (l q:List k.ty):hZ k (l++q)=hZ k l++hZ k q:=by
 induction l with
 | nil=>rfl
 | cons x l ih=>simp only [List.cons_append,hZ,ih,List.append_assoc]
theorem zcj (k:EK):∀(l:List k.ty) (n:Nat),hZ k (l.take n)=(hZ k l).take (n*k.sz)
 | [],n=>by simp [hZ]
 | x :: l,0=>by simp [hZ]
 | x :: l,n+1=>by
  simp only [List.take_succ_cons,hZ,zcj k l n]
  rw [List.take_append,nZ,Nat.succ_mul,List.take_of_length_le (l:=k.cells x) (by rw [nZ];omega)]
  congr 2;omega
theorem zgZ (k:EK):∀(l:List k.ty) (n:Nat),hZ k (l.drop n)=(hZ k l).drop (n*k.sz)
 | [],n=>by simp [hZ]
 | x :: l,0=>by simp
 | x :: l,n+1=>by
  simp only [List.drop_succ_cons,hZ,zgZ k l n]
  rw [List.drop_append,nZ,Nat.succ_mul,List.drop_of_length_le (l:=k.cells x) (by rw [nZ];omega),List.nil_append]
  congr 1;omega
theorem ziR (k:EK):∀(l:List k.ty) (i:Nat) (x:k.ty),i<l.length→hZ k (l.set i x)=(hZ k l).take (i*k.sz)++k.cells x++(hZ k l).drop (i*k.sz+k.sz)
 | [],i,x,hi=>by simp at hi
 | y :: l,0,x,_=>by
  simp only [List.set_cons_zero,hZ,Nat.zero_mul,List.take_zero,List.nil_append,Nat.zero_add]
  rw [List.drop_append,nZ,Nat.sub_self,List.drop_zero,List.drop_of_length_le (by rw [nZ];exact Nat.le_refl _),List.nil_append]
 | y :: l,i+1,x,hi=>by
  have ih:=ziR k l i x (by simpa using hi)
  simp only [List.set_cons_succ,hZ,ih]
  have e1:(i+1)*k.sz=k.sz+i*k.sz:=by rw [Nat.succ_mul];omega
  rw [e1,List.take_append,nZ,List.take_of_length_le (l:=k.cells y) (by rw [nZ];omega),List.drop_append,nZ,
   List.drop_of_length_le (l:=k.cells y) (by rw [nZ];omega),List.nil_append,show k.sz+i*k.sz-k.sz=i*k.sz by omega,
   show k.sz+i*k.sz+k.sz-k.sz=i*k.sz+k.sz by omega]
  simp only [List.append_assoc]
def zkk:AV→Option Nat
 | .ref r _=>some r
 | .rel r _ _ _=>some r
 | _=>none
theorem zi4 (hg : g.OK) {t:TypeId} {a:Operand} (ho:o.op=.load t a) (hn:∀r,zkk (pZ st.tm a)=some r→n0 r) :
    Spec (do let ti ← ty g t;zpa st.rows ti (pZ st.tm a)) fun v=>PureOK g.P n0 st o v:=by
  by_cases hrel:∃r i sz fo,pZ st.tm a=.rel r i sz fo
  · obtain ⟨r, ix,sz,fo,hx⟩:=hrel
    have hrn:=hn r (by rw [hx];rfl)
    refine Spec.bind (tZ hg fun i d z hi hd _=>?_)
    have exec:∀(act:Act) (ad:Addr) (v:Value) (w:World),act.eval a=.pointer (some ad)→(loadVar t ad).run g.P w=.ok v w→(execOp act.eval o).run g.P w=.ok (.value v) w:=by
      intro act ad v w he hr
      simp only [execOp,ho,Instr.loadAt,he,Instr.sureAddr,Sem.run_bind,Sem.run_pure,Result.andThen_ok,hr]
    rw [hx]
    unfold zpa
    split
    · rename_i heq
      cases heq
      split
      · rename_i k l lv hrow
        split
        · rename_i hsz
          subst hsz
          have hrows:st.rows[r]? = some (.lst k l lv):=by
            grind
          refine Spec.bind (Spec.chk fun hlt=>?_)
          have hlt':ix<l.length:=by simpa using hlt
          have hcl:=sZ k l
          have hclen:=nZ k (l.getD ix k.dflt)
          have hbound:(ix+1)*k.sz≤l.length*k.sz:=Nat.mul_le_mul_right _ hlt'
          rw [Nat.succ_mul] at hbound
          have key:∀ {x:AV},(∀E (c:Array Value),(∀j,j<k.sz→Rd E ((k.cells (l.getD ix k.dflt)).getD j .junk) (c.getD (ix*k.sz+j) undef)) →
              Rd E x (if zap (zdM d) then .agg ((List.range i.size).map fun j=>c.getD (ix*k.sz+fo+j) undef).toArray else c.getD (ix*k.sz+fo) undef)) →
              (∀j,j<(if zap (zdM d) then i.size else 1)→fo+j<k.sz)→PureOK g.P n0 st o x:=by
            intro x hx' hlen B M0 rho act w hm hf
            have h:=hf.eval a
            rw [hx] at h
            generalize heq:act.eval a=u at h
            cases h with
            | @rel _ _ _ _ b hr=>
              have hrho:rho[r]? = some b:=hr
              obtain ⟨c,e,hb,hlc,hcs⟩:=hm.row r _ b hrows hrho
              refine ⟨_,hx' _ c (fun j hj=>?_),fun w' hk=>exec act ⟨b,ix*k.sz+fo,none⟩ _ w' heq ?_⟩
              · rw [← zbv k l ix j hlt' hj]
                exact hcs _ (by omega)
              · have hbl:=(hm.bnd r b hrho).2
                have hb':w'.heap[b]? = some (.cells c e (0,0)):=by rw [hk.2 b hbl (.inr ⟨r,_,hrn,hrows,rfl,hrho⟩)];exact hb
                refine za5 hi hd b (ix*k.sz+fo) (fun j=>c.getD j undef) w' fun j hj=>?_
                have:ix*k.sz+fo+j<c.size:=by have:=hlen j hj;omega
                simp [AZ,hb',this]
          dsimp only
          split
          · rename_i hag
            split
            · rename_i hle
              refine Spec.pure' (key (fun E c hcs=>?_) (fun j hj=>by simp [hag] at hj;omega))
              simp only [hag,if_true]
              have:=zbP (E:=E) (cs:=k.cells (l.getD ix k.dflt)) (vals:=fun j=>c.getD (ix*k.sz+j) undef) (off:=fo) (size:=i.size) (fun j hj=>hcs j (by omega)) hle
              grind
            · exact Spec.fail
          · rename_i hag
            split
            · rename_i hle
              refine Spec.pure' (key (fun E c hcs=>?_) (fun j hj=>by simp [hag] at hj;omega))
              simp_all
            · exact Spec.fail
        · exact Spec.fail
      · exact Spec.fail
    grind
  · have e:∀ti,zpa st.rows ti (pZ st.tm a)=zli st.rows ti (pZ st.tm a):=by
      intro ti
      unfold zpa
      simp_all
    have e2:(do let ti ← ty g t;zpa st.rows ti (pZ st.tm a))=(do let ti ← ty g t;zli st.rows ti (pZ st.tm a)):=by
      simp_all
    rw [e2]
    exact zlj hg ho fun r off h=>hn r (by rw [h];rfl)
end
section
variable {g:Cfg} {n0:Nat→Prop} {st:St} {o:Oper}
theorem TZ {d:TypeDesc} {e:TypeId} (h:zdM d=.slice e):d=.slice e:=by cases d<;>simp [zdM] at h;rw [h]
theorem zl3 {d:TypeDesc} {n:Nat} {e:TypeId} (h:zdM d=.arr n e):d=.array n e:=by cases d<;>simp [zdM] at h;rw [h.1,h.2]
theorem zim {d:TypeDesc} {fs:List (TypeId × Nat)} (h:zdM d=.struct fs):∃fields,d=.struct fields∧fs=fields.toList.map fun f=>(f.type,f.offset):=by
 cases d<;>simp [zdM] at h
 exact ⟨_,rfl,h.symm⟩
theorem tk_int {d:TypeDesc} {k:IntKind} (h:zdM d=.int k):d=.int k:=by cases d<;>simp [zdM] at h;rw [h]
theorem tk_str {d:TypeDesc} (h:zdM d=.str):d=.string:=by cases d<;>simp [zdM] at h;rfl
theorem ziA (hg:g.OK) {t:TypeId} {x:Operand} {f:Nat} (ho:o.op=.fieldAddr t x f) :
 Spec (fieldA g t (pZ st.tm x) f) fun v=>PureOK g.P n0 st o v:=by
 unfold fieldA
 refine Spec.bind (tZ hg fun i d z hi hd _=>?_)
 dsimp only
 split
 ·rename_i fs htk
  obtain ⟨fields,rfl,rfl⟩:=zim htk
  refine Spec.bind (Spec.ofOpt fun p hp=>?_)
  obtain ⟨ft,fo⟩:=p
  rw [List.getElem?_map] at hp
  obtain ⟨fd,hfd,hfe⟩:=Option.map_eq_some_iff.1 hp
  cases hfe
  have hfd':fields[f]? = some fd:=by simpa using hfd
  dsimp only
  refine Spec.bind (tZ hg fun i2 d2 z2 hi2 hd2 _=>?_)
  dsimp only
  split
  ·exact Spec.fail
  ·rename_i hsz
   have run:∀(a:Act) (b off:Nat) (w:World),a.eval x=.pointer (some ⟨b,off,none⟩)→(execOp a.eval o).run g.P w=.ok (.value (.pointer (some ⟨b,off+fd.offset,none⟩))) w:=by
    intro a b off w he
    simp [execOp,ho,Instr.fieldAt,run_underlying hd,he,Instr.sureAddr,hfd',fieldPlace,qZ hi2,hsz,zcV]
   split
   ·rename_i r off hx
    refine Spec.pure' (KZ fun E a hf=>?_)
    have h:=hf.eval x
    rw [hx] at h
    generalize heq:a.eval x=u at h
    cases h with
    | @ref _ _ b hr=>exact ⟨_,.ref hr,fun w=>run a b off w heq⟩
   ·rename_i cs off hx
    refine Spec.pure' (KZ fun E a hf=>?_)
    have h:=hf.eval x
    rw [hx] at h
    generalize heq:a.eval x=u at h
    cases h with
    | @pd _ _ b base vals hs hM hv hr=>
     refine ⟨_,?_,fun w=>run a b (base+off) w heq⟩
     rw [Nat.add_assoc]
     exact .pd vals hs hM hv hr
   ·rename_i r ix sz off hx
    refine Spec.pure' (KZ fun E a hf=>?_)
    have h:=hf.eval x
    rw [hx] at h
    generalize heq:a.eval x=u at h
    cases h with
    | @rel _ _ _ _ b hr=>exact ⟨_,by rw [Nat.add_assoc];exact .rel hr,fun w=>run a b _ w heq⟩
   ·exact Spec.fail
 ·exact Spec.fail
theorem ziC (hg:g.OK) {t:TypeId} {x i:Operand} (ho:o.op=.indexAddr t x i) :
 Spec (zdy g t (pZ st.tm x) (pZ st.tm i)) fun v=>PureOK g.P n0 st o v:=by
 unfold zdy
 refine Spec.bind (tZ hg fun ti d z hi hd _=>?_)
 refine Spec.bind (Spec.ofOpt fun n hn=>?_)
 dsimp only
 split
 ·rename_i e htk
  have hd':=TZ htk
  subst hd'
  refine Spec.bind (tZ hg fun i2 d2 z2 hi2 hd2 _=>?_)
  have run:∀(a:Act) (b off len cap:Nat) (w:World) (k:IntKind),a.eval x=.slice (some ⟨b,off,none⟩) len cap→a.eval i=.int k n→0≤n→n<(len:Int) →
   (execOp a.eval o).run g.P w=.ok (.value (.pointer (some ⟨b,off+n.toNat*i2.size,none⟩))) w:=by
   intro a b off len cap w k h1 h2 h3 h4
   simp [execOp,ho,Instr.indexAt,h1,h2,asIntOf,run_underlying hd,h3,h4,qZ hi2,zcV]
  dsimp only
  split
  ·rename_i r off m sz hx
   split
   ·rename_i hsz
    refine Spec.bind (Spec.chk fun c1=>Spec.bind (Spec.chk fun c2=>Spec.pure' (KZ fun E a hf=>?_)))
    simp only [decide_eq_true_eq] at c1 c2
    obtain ⟨k,hk⟩:=(hf.eval i).asI hn
    have h:=hf.eval x
    rw [hx] at h
    generalize heq:a.eval x=u at h
    cases h with
    | @own _ _ _ _ b cap hr hs hc hb=>exact ⟨_,.ref hr,fun w=>by grind⟩
   ·exact Spec.fail
  ·rename_i cs m hx
   refine Spec.bind (Spec.chk fun c1=>Spec.bind (Spec.chk fun c2=>Spec.pure' (KZ fun E a hf=>?_)))
   simp only [decide_eq_true_eq] at c1 c2
   obtain ⟨k,hk⟩:=(hf.eval i).asI hn
   have h:=hf.eval x
   rw [hx] at h
   generalize heq:a.eval x=u at h
   cases h with
   | sl0=>omega
   | @sl _ _ b base cap vals hs hM hc hv hr=>exact ⟨_,.pd vals hs hM hv hr,fun w=>run a b base m cap w k heq hk c1 c2⟩
  ·split
   ·rename_i l hl
    split
    ·rename_i hsz
     refine Spec.bind (Spec.chk fun c1=>Spec.bind (Spec.chk fun c2=>Spec.pure' ?_))
     simp only [decide_eq_true_eq] at c1 c2
     intro B M0 rho a w hm hf
     obtain ⟨k,hk⟩:=(hf.eval i).asI hn
     obtain ⟨ad,cap,hv,hc,hat⟩:=zaU hl (hf.eval x)
     rcases hat with rfl | ⟨b,base,rfl,hM,hcell⟩
     ·simp at c2;omega
     ·refine ⟨_,.qel (b:=b) (o:=base) (zbM (hcell 0 (by omega))) hM hcell,fun w' _=>?_⟩
      grind
    ·exact Spec.fail
   ·exact Spec.fail
 ·rename_i m e htk
  have hd':=zl3 htk
  subst hd'
  refine Spec.bind (tZ hg fun i2 d2 z2 hi2 hd2 _=>?_)
  have run:∀(a:Act) (b off:Nat) (w:World) (k:IntKind),a.eval x=.pointer (some ⟨b,off,none⟩)→a.eval i=.int k n→0≤n→n<(m:Int) →
   (execOp a.eval o).run g.P w=.ok (.value (.pointer (some ⟨b,off+n.toNat*i2.size,none⟩))) w:=by
   intro a b off w k h1 h2 h3 h4
   simp [execOp,ho,Instr.indexAt,h1,h2,asIntOf,Instr.sureAddr,run_underlying hd,h3,h4,qZ hi2,zcV]
  dsimp only
  split
  ·rename_i r off hx
   refine Spec.bind (Spec.chk fun c1=>Spec.bind (Spec.chk fun c2=>Spec.pure' (KZ fun E a hf=>?_)))
   simp only [decide_eq_true_eq] at c1 c2
   obtain ⟨k,hk⟩:=(hf.eval i).asI hn
   have h:=hf.eval x
   rw [hx] at h
   generalize heq:a.eval x=u at h
   cases h with
   | @ref _ _ b hr=>exact ⟨_,.ref hr,fun w=>run a b off w k heq hk c1 c2⟩
  ·rename_i cs off hx
   refine Spec.bind (Spec.chk fun c1=>Spec.bind (Spec.chk fun c2=>Spec.pure' (KZ fun E a hf=>?_)))
   simp only [decide_eq_true_eq] at c1 c2
   obtain ⟨k,hk⟩:=(hf.eval i).asI hn
   have h:=hf.eval x
   rw [hx] at h
   generalize heq:a.eval x=u at h
   cases h with
   | @pd _ _ b base vals hs hM hv hr=>
    refine ⟨_,?_,fun w=>run a b (base+off) w k heq hk c1 c2⟩
    rw [Nat.add_assoc]
    exact .pd vals hs hM hv hr
  ·exact Spec.fail
 ·exact Spec.fail
theorem zmI (hg:g.OK) {t:TypeId} {x i:Operand} (ho:o.op=.indexAddr t x i) :
 Spec (indexT g st.rows t (pZ st.tm x) (pZ st.tm i)) fun v=>PureOK g.P n0 st o v:=by
 have old:=ziC (n0:=n0) (st:=st) hg ho
 unfold indexT
 split
 ·rename_i k l hx
  refine Spec.bind (tZ hg fun ti d z hi hd _=>?_)
  refine Spec.bind (Spec.ofOpt fun n hn=>?_)
  dsimp only
  split
  ·rename_i e htk
   have hd':=TZ htk
   subst hd'
   refine Spec.bind (tZ hg fun i2 d2 z2 hi2 hd2 _=>?_)
   dsimp only
   split
   ·rename_i hsz
    refine Spec.bind (Spec.chk fun c1=>Spec.bind (Spec.chk fun c2=>Spec.pure' (KZ fun E a hf=>?_)))
    simp only [decide_eq_true_eq] at c1 c2
    obtain ⟨kk,hk⟩:=(hf.eval i).asI hn
    have h:=hf.eval x
    rw [hx] at h
    generalize heq:a.eval x=u at h
    have hlt:n.toNat<l.length:=by omega
    have hcl:=sZ k l
    have hbound:(n.toNat+1)*k.sz≤l.length*k.sz:=Nat.mul_le_mul_right _ hlt
    rw [Nat.succ_mul] at hbound
    cases h with
    | lst h=>
     generalize hN:l.length=N at h
     cases h with
     | sl0=>omega
     | @sl _ _ b base cap vals hs hM hc hv hr=>
      refine ⟨_,.pd (b:=b) (o:=base+n.toNat*k.sz) (fun j=>vals (n.toNat*k.sz+j)) hs hM (fun j hj=>?_) (fun j hj=>?_),fun w=>?_⟩
      ·rw [nZ] at hj
       grind
      ·rw [nZ] at hj
       rw [← zbv k l _ j hlt hj]
       exact hr _ (by omega)
      ·have c2':n<(N:Int):=by omega
       simp [execOp,ho,Instr.indexAt,heq,hk,asIntOf,run_underlying hd,c1,c2',qZ hi2,zcV,hsz]
   ·exact Spec.fail
  ·exact Spec.fail
 ·rename_i r off m sz hx
  split
  ·refine Spec.bind (tZ hg fun ti d z hi hd _=>?_)
   refine Spec.bind (Spec.ofOpt fun n hn=>?_)
   dsimp only
   split
   ·rename_i e htk
    have hd':=TZ htk
    subst hd'
    refine Spec.bind (tZ hg fun i2 d2 z2 hi2 hd2 _=>?_)
    dsimp only
    split
    ·rename_i hc
     obtain ⟨hsz,h0⟩:=hc
     refine Spec.bind (Spec.chk fun c1=>Spec.bind (Spec.chk fun c2=>Spec.pure' (KZ fun E a hf=>?_)))
     simp only [decide_eq_true_eq] at c1 c2
     obtain ⟨kk,hk⟩:=(hf.eval i).asI hn
     have h:=hf.eval x
     rw [hx] at h
     generalize heq:a.eval x=u at h
     cases h with
     | @own _ _ _ _ b cap hr hs hc hb=>exact ⟨_,.rel (i:=n.toNat) (sz:=sz) (fo:=0) hr,fun w=>by
      simp [execOp,ho,Instr.indexAt,heq,hk,asIntOf,run_underlying hd,c1,c2,qZ hi2,zcV,hsz,h0]⟩
    ·exact Spec.fail
   ·exact Spec.fail
  ·exact old
 ·exact old
theorem agg_inv {E:Env} {x:AV} {cs:List AV} {v:Value} (hx:zdP x=some cs) (h:Rd E x v) :
 ∃vs:Array Value,v=.agg vs∧cs.length=vs.size∧∀i,i<cs.length→Rd E (cs.getD i .junk) (vs.getD i undef):=by
 unfold zdP at hx
 split at hx<;>first | (cases hx;done) | skip
 ·cases hx;cases h with | agg hl hr=>exact ⟨_,rfl,hl,hr⟩
 ·rename_i a
  cases hx;cases h
  refine ⟨a,rfl,by simp,fun i hi=>?_⟩
  have hi':i<a.size:=by simpa using hi
  have:(a.toList.map AV.lit).getD i .junk=.lit (a.getD i undef):=by simp [List.getD,hi']
  rw [this];exact .lit _
theorem zn2 {E:Env} {ti:TypeInfo} {d:TypeDesc} {t:TypeId} {cs:List AV} {vs:Array Value} {off:Nat} (hi:g.P.info? t=some ti) (hd:g.P.underlying t=some d)
 (hl:cs.length=vs.size) (hr:∀i,i<cs.length→Rd E (cs.getD i .junk) (vs.getD i undef)) {z:List Value} :
 Spec (zpB ⟨zdM d,ti.size,ti.bytes,z⟩ cs off) fun x=>∃v,Rd E x v∧∀w,(part t vs off).run g.P w=.ok v w:=by
 unfold zpB
 dsimp only
 split
 ·rename_i hag
  split
  ·rename_i hle
   refine Spec.pure' ⟨_,zbP (vals:=fun i=>vs.getD i undef) hr hle,fun w=>?_⟩
   unfold part
   simp only [Sem.run_bind,zfS hd,Result.andThen_ok,hag,if_true,qZ hi,Sem.run_pure]
   congr 2
   apply Array.ext
   ·simp;omega
   ·intro i h1 h2
    have h3:off+i<vs.size:=by simp at h1;omega
    simp [h3]
  ·exact Spec.fail
 ·rename_i hag
  split
  ·rename_i hlt
   refine Spec.pure' ⟨_,hr off hlt,fun w=>?_⟩
   unfold part
   have hag':zap (zdM d)=false:=by simpa using hag
   have h1:off<vs.size:=by omega
   simp only [Sem.run_bind,zfS hd,Result.andThen_ok,hag',Bool.false_eq_true,if_false]
   simp [h1]
  ·exact Spec.fail
end
section
variable {g:Cfg} {n0:Nat→Prop} {st:St} {o:Oper}
theorem zat {m:M AV} (h:∀E (a:Act),Fr E st.tm a.tmps→Spec m fun x=>∃v,Rd E x v∧∀w,(execOp a.eval o).run g.P w=.ok (.value v) w) :
 Spec m fun x=>PureOK g.P n0 st o x:=by
 intro c s x s' cs he hcs
 exact KZ fun E a hf=>h E a hf c s x s' cs he hcs
theorem zo1 (hg:g.OK) {t:TypeId} {x:Operand} {f:Nat} (ho:o.op=.field t x f) :
 Spec (do
  let ti ← ty g t
  match ti.tk with
  | .struct fs=>do
   let (ft,fo) ← ofOpt 83 fs[f]?
   let fti ← ty g ft
   let cs ← ofOpt 84 (zdP (pZ st.tm x))
   zpB fti cs fo
  | _=>fail 85) fun v=>PureOK g.P n0 st o v:=by
 refine zat fun E a hf=>?_
 refine Spec.bind (tZ hg fun i d z hi hd _=>?_)
 dsimp only
 split
 ·rename_i fs htk
  obtain ⟨fields,rfl,rfl⟩:=zim htk
  refine Spec.bind (Spec.ofOpt fun p hp=>?_)
  obtain ⟨ft,fo⟩:=p
  rw [List.getElem?_map] at hp
  obtain ⟨fd,hfd,hfe⟩:=Option.map_eq_some_iff.1 hp
  cases hfe
  have hfd':fields[f]? = some fd:=by simpa using hfd
  dsimp only
  refine Spec.bind (tZ hg fun i2 d2 z2 hi2 hd2 _=>?_)
  refine Spec.bind (Spec.ofOpt fun cs hcs=>?_)
  obtain ⟨vs,hv,hl,hr⟩:=agg_inv hcs (hf.eval x)
  refine (zn2 hi2 hd2 hl hr).mono fun y ⟨v,hy,hrun⟩=>⟨v,hy,fun w=>?_⟩
  simp only [execOp,ho,Instr.field,run_underlying hd,hv,asAgg,Sem.run_bind,Result.andThen_ok,hfd',Sem.run_pure,hrun]
 ·exact Spec.fail
theorem zo5 (hg:g.OK) {t:TypeId} {x i:Operand} (ho:o.op=.index t x i) :
 Spec (do
  let ti ← ty g t
  let i ← ofOpt 86 (asI (pZ st.tm i))
  match ti.tk with
  | .arr n el=>do
   let eti ← ty g el
   let cs ← ofOpt 87 (zdP (pZ st.tm x))
   chk (decide (0≤i));chk (decide (i<(n:Int)))
   zpB eti cs (i.toNat*eti.size)
  | _=>fail 88) fun v=>PureOK g.P n0 st o v:=by
 refine zat fun E a hf=>?_
 refine Spec.bind (tZ hg fun ti d z hi hd _=>?_)
 refine Spec.bind (Spec.ofOpt fun n hn=>?_)
 dsimp only
 split
 ·rename_i m el htk
  have hd':=zl3 htk
  subst hd'
  refine Spec.bind (tZ hg fun i2 d2 z2 hi2 hd2 _=>?_)
  refine Spec.bind (Spec.ofOpt fun cs hcs=>?_)
  refine Spec.bind (Spec.chk fun c1=>Spec.bind (Spec.chk fun c2=>?_))
  simp only [decide_eq_true_eq] at c1 c2
  obtain ⟨k,hk⟩:=(hf.eval i).asI hn
  obtain ⟨vs,hv,hl,hr⟩:=agg_inv hcs (hf.eval x)
  refine (zn2 hi2 hd2 hl hr).mono fun y ⟨v,hy,hrun⟩=>⟨v,hy,fun w=>?_⟩
  simp only [execOp,ho,Instr.index,hk,asIntOf,run_underlying hd,hv,Sem.run_bind,Result.andThen_ok,Sem.run_pure,c1,c2,and_self,if_true,qZ hi2,hrun]
 ·exact Spec.fail
theorem zkI (hg:g.OK) {src dst:TypeId} {x:Operand} (ho:o.op=.convert src dst x) :
 Spec (convA g src dst (pZ st.tm x)) fun v=>PureOK g.P n0 st o v:=by
 unfold convA
 refine zat fun E a hf=>?_
 refine Spec.bind (tZ hg fun i d z hi hd _=>?_)
 refine Spec.bind (tZ hg fun i2 d2 z2 hi2 hd2 _=>?_)
 dsimp only
 split
 ·rename_i k' k k2 n h1 h2 hx
  refine Spec.bind (Spec.chk fun c1=>Spec.pure' ⟨_,.lit _,fun w=>?_⟩)
  have h:=hf.eval x
  rw [hx] at h
  have hv:=h.lit_inv
  have e1:=tk_int h1
  have e2:=tk_int h2
  subst e1 e2
  simp [execOp,ho,hv,convert,run_underlying hd,run_underlying hd2,Conv.intToInt,zaT c1]
 ·exact Spec.fail
theorem len_run (hg:g.OK) {E:Env} {t:TypeId} {x:AV} {v:Value} (h:Rd E x v) :
 Spec (lenA g t x) fun y=>∃u,Rd E y u∧∀ty w,(Builtin.len_ #[t] ty #[v]).run g.P w=.ok u w:=by
 unfold lenA
 refine Spec.bind (tZ hg fun i d z hi hd _=>?_)
 dsimp only
 split
 ·rename_i e r off n sz htk
  have hd':=TZ htk;subst hd'
  cases h with
  | own hr hs hc hb=>exact Spec.pure' ⟨_,.lit _,fun ty w=>by simp [Builtin.len_,run_underlying hd,goInt]⟩
 ·rename_i e cs n htk
  have hd':=TZ htk;subst hd'
  cases h with
  | sl0=>exact Spec.pure' ⟨_,.lit _,fun ty w=>by simp [Builtin.len_,run_underlying hd,goInt]⟩
  | sl=>exact Spec.pure' ⟨_,.lit _,fun ty w=>by simp [Builtin.len_,run_underlying hd,goInt]⟩
 ·rename_i e b n c htk
  have hd':=TZ htk;subst hd'
  cases h
  exact Spec.pure' ⟨_,.lit _,fun ty w=>by simp [Builtin.len_,run_underlying hd,goInt]⟩
 ·rename_i e k l htk
  have hd':=TZ htk;subst hd'
  cases h with
  | zl h=>
   obtain ⟨a,cap,rfl,_,_⟩:=zji h
   exact Spec.pure' ⟨_,.lit _,fun ty w=>by simp [Builtin.len_,run_underlying hd,goInt]⟩
 ·rename_i e k l htk
  have hd':=TZ htk;subst hd'
  cases h with
  | lst h=>
   obtain ⟨a,cap,rfl,_,_⟩:=zji h
   exact Spec.pure' ⟨_,.lit _,fun ty w=>by simp [Builtin.len_,run_underlying hd,goInt]⟩
 ·rename_i e htk _ _ _ _ _
  have hd':=TZ htk;subst hd'
  refine Spec.bind (Spec.ofOpt fun l hl=>Spec.pure' ?_)
  obtain ⟨a,cap,rfl,_,_⟩:=zaU hl h
  exact ⟨_,.lit _,fun ty w=>by simp [Builtin.len_,run_underlying hd,goInt]⟩
 ·rename_i s htk
  have hd':=tk_str htk;subst hd'
  cases h
  exact Spec.pure' ⟨_,.lit _,fun ty w=>by simp [Builtin.len_,run_underlying hd,goInt]⟩
 ·rename_i n e htk
  have hd':=zl3 htk;subst hd'
  exact Spec.pure' ⟨_,.lit _,fun ty w=>by simp [Builtin.len_,run_underlying hd,goInt]⟩
 ·exact Spec.fail
theorem zaw {b:Builtin} {c:Call} {a:Act} {w:World} {P:Program} (ho:o.op=.call c) (hb:c.callee=.builtin b) :
 (execOp a.eval o).run P w=(builtin b c.argTypes o.type (c.args.map fun | .const _=>true | _=>false) (c.args.map a.eval)).run P w:=by
 simp only [execOp,ho,resolve,hb,Sem.run_bind,Sem.run_pure,Result.andThen_ok,invoke]
 rfl
theorem len_pure (hg:g.OK) {c:Call} {x:Operand} {t:TypeId} (ho:o.op=.call c) (hb:c.callee=.builtin .len) (hx:c.args.toList=[x]) (ht:c.argTypes.toList=[t]) :
 Spec (lenA g t (pZ st.tm x)) fun v=>PureOK g.P n0 st o v:=by
 refine zat fun E a hf=>(len_run hg (hf.eval x)).mono fun y ⟨u,hu,hr⟩=>⟨u,hu,fun w=>?_⟩
 have h1:c.args = #[x]:=by grind
 have h2:c.argTypes = #[t]:=by grind
 rw [zaw ho hb,h1,h2]
 simp [builtin,hr]
theorem zpd {E:Env} {b:Bool} {x y:AV} {vx vy:Value} (hx:Rd E x vx) (hy:Rd E y vy) :
 Spec (zln b [x,y]) fun z=>∃u,Rd E z u∧∀P ats ty w,((match b with | true=>Builtin.max_ ats ty #[vx,vy] | false=>Builtin.min_ ats ty #[vx,vy]):Sem Value).run P w=.ok u w:=by
 unfold zln
 split
 ·rename_i k a k' b' he
  simp only [List.cons.injEq,and_true] at he
  obtain ⟨rfl,rfl⟩:=he
  split
  ·rename_i hk
   subst hk
   rw [hx.lit_inv,hy.lit_inv]
   refine Spec.pure' ⟨_,.lit _,fun P ats ty w=>?_⟩
   cases b<;>simp [Builtin.max_,Builtin.min_,Builtin.max2,Builtin.min2]
  ·exact Spec.fail
 ·exact Spec.fail
theorem zho {isMax:Bool} {c:Call} {x y:Operand} (ho:o.op=.call c) (hb:c.callee=.builtin (if isMax then .max else .min)) (hx:c.args.toList=[x,y]) :
 Spec (zln isMax [pZ st.tm x,pZ st.tm y]) fun v=>PureOK g.P n0 st o v:=by
 refine zat fun E a hf=>(zpd (hf.eval x) (hf.eval y)).mono fun z ⟨u,hu,hr⟩=>⟨u,hu,fun w=>?_⟩
 have h1:c.args = #[x,y]:=by grind
 rw [zaw ho hb,h1]
 have hr:=hr g.P c.argTypes o.type w
 cases isMax
 ·simp only [Bool.false_eq_true,if_false,builtin,Sem.run_bind] at hr ⊢
  simp_all
 ·simp only [if_true,builtin,Sem.run_bind] at hr ⊢
  simp_all
theorem zjW {x:Operand} (ho:o.op=.nilCheck x) :
 Spec (if zmJ (pZ st.tm x) then M.pure (pZ st.tm x) else match pZ st.tm x with | .fn h cs=>M.pure (.fn h cs) | _=>fail 80) fun v=>PureOK g.P n0 st o v:=by
 refine zat fun E a hf=>?_
 have h:=hf.eval x
 split
 ·rename_i hp
  refine Spec.pure' ⟨_,h,fun w=>?_⟩
  generalize pZ st.tm x=y at h hp
  generalize he:a.eval x=v at h
  cases h<;>simp [zmJ] at hp<;>simp [execOp,ho,he]
 ·split
  ·rename_i f cs hx
   rw [hx] at h
   refine Spec.pure' ⟨_,h,fun w=>?_⟩
   generalize he:a.eval x=v at h
   cases h with
   | fn hl hr=>simp [execOp,ho,he]
  ·exact Spec.fail
end
section
variable {g:Cfg} {n0:Nat→Prop} {st:St} {o:Oper}
theorem zaz {E:Env} {tm:Fm} {a:Act} (hf:Fr E tm a.tmps) {dflt:Nat} {x:Option Operand} {Q:Int→Prop}
 (h:∀n:Int,(x=none→n=dflt)→(∀y,x=some y→∃k,a.eval y=.int k n)→Q n):Spec (ziw dflt (x.map (pZ tm))) Q:=by
 cases x with
 | none=>exact Spec.pure' (h dflt (fun _=>rfl) (fun y hy=>by cases hy))
 | some y=>
  refine Spec.ofOpt fun n hn=>h n (fun hy=>by cases hy) fun y' hy'=>?_
  cases hy'
  exact(hf.eval y).asI hn
theorem zja {m:M AV} (h:∀B M0 rho (a:Act) w,Mem B M0 st.rows rho w→Fr (iZ M0 st.rows rho w) st.tm a.tmps →
 Spec m fun x=>∃v,Rd (iZ M0 st.rows rho w) x v∧∀w,(execOp a.eval o).run g.P w=.ok (.value v) w):Spec m fun x=>PureOK g.P n0 st o x:=by
 intro c s x s' cs he hcs B M0 rho a w hm hf
 obtain ⟨v,hv,hr⟩:=h B M0 rho a w hm hf c s x s' cs he hcs
 grind
theorem zdX {P:Program} {v:Value} {k:IntKind} {n:Int} {y:Nat} {code:BoundsCode} (hv:v=.int k n) (h0:0≤n) (h1:n≤(y:Int)) (w:World) :
 (Instr.sliceBound v y code).run P w=.ok n.toNat w:=by
 subst hv
 simp [Instr.sliceBound,asIntOf,h0,h1]
theorem zfB {P:Program} {isSlice:Bool} {len cap:Nat} {lo hi:Option Operand} {a:Act} {l h:Int} (hcap:len≤cap)
 (hl0:lo=none→l=0) (hl:∀y,lo=some y→∃k,a.eval y=.int k l) (hh0:hi=none→h=len) (hh:∀y,hi=some y→∃k,a.eval y=.int k h)
 (c1:0≤l) (c2:l≤h) (c3:h≤(len:Int)) (w:World) :
 (Instr.sliceBounds isSlice len cap (lo.map a.eval) (hi.map a.eval) none).run P w=.ok (l.toNat,h.toNat,cap) w:=by
 unfold Instr.sliceBounds
 have hL:∀code,(lo=none→l.toNat=0)∧(∀y,lo=some y→(Instr.sliceBound (a.eval y) h.toNat code).run P w=.ok l.toNat w):=by
  intro code
  refine ⟨fun h0=>by have:=hl0 h0;omega,fun y hy=>?_⟩
  obtain ⟨k,hk⟩:=hl y hy
  exact zdX hk (by omega) (by omega) w
 have hH:∀code,(hi=none→h.toNat=len)∧(∀y,hi=some y→(Instr.sliceBound (a.eval y) cap code).run P w=.ok h.toNat w):=by
  intro code
  refine ⟨fun h0=>by have:=hh0 h0;omega,fun y hy=>?_⟩
  obtain ⟨k,hk⟩:=hh y hy
  exact zdX hk (by omega) (by omega) w
 cases hi with
 | none=>
  have h1:=(hH .index).1 rfl
  cases lo with
  | none=>simp_all
  | some y=>simp [(hL _).2 y rfl,← h1]
 | some x=>
  cases lo with
  | none=>simp_all
  | some y=>simp_all
theorem zrl (hg : g.OK) {t:TypeId} {x:Operand} {lo hi:Option Operand} (ho:o.op=.slice t x lo hi none) :
 Spec (sliceA g st.rows t (pZ st.tm x) (lo.map (pZ st.tm)) (hi.map (pZ st.tm))) fun v=>PureOK g.P n0 st o v:=by
 refine zja fun B M0 rho a w0 hm hf=>?_
 unfold sliceA
 refine Spec.bind (tZ hg fun ti d z hti hd _=>?_)
 dsimp only
 split
 ·rename_i e htk
  have hd':=TZ htk;subst hd'
  refine Spec.bind (tZ hg fun i2 d2 z2 hi2 hd2 _=>?_)
  dsimp only
  have run:∀(ad:Option Addr) (len cap:Nat) (l h:Int) (w:World),a.eval x=.slice ad len cap→len≤cap →
   (lo=none→l=0)→(∀y,lo=some y→∃k,a.eval y=.int k l)→(hi=none→h=len)→(∀y,hi=some y→∃k,a.eval y=.int k h) →
   0≤l→l≤h→h≤(len:Int) →
   (execOp a.eval o).run g.P w=.ok (.value (.slice (if cap=l.toNat then ad else ad.map (·.add (l.toNat*i2.size))) (h.toNat-l.toNat) (cap-l.toNat))) w:=by
   intro ad len cap l h w h1 h2 h3 h4 h5 h6 h7 h8 h9
   simp only [execOp,ho,Instr.sliceAt,run_underlying hd,Sem.run_bind,Result.andThen_ok,Instr.slice,h1,Option.map_none,zfB h2 h3 h4 h5 h6 h7 h8 h9,qZ hi2,Sem.run_pure]
  split
  ·rename_i r off n sz hx
   split
   ·rename_i hlo
    have hlo':lo=none:=by cases lo<;>simp at hlo;rfl
    refine Spec.bind (zaz hf fun h hh0 hh=>?_)
    refine Spec.bind (Spec.chk fun c1=>Spec.bind (Spec.chk fun c2=>Spec.pure' ?_))
    simp only [decide_eq_true_eq] at c1 c2
    have hv:=hf.eval x
    rw [hx] at hv
    generalize heq:a.eval x=u at hv
    cases hv with
    | @own _ _ _ _ b cap hr hs hc hb=>
     refine ⟨_,.own (n:=h.toNat) hr hs (by omega) hb,fun w=>?_⟩
     have:=run (some ⟨b,off,none⟩) n cap 0 h w heq hc (fun _=>rfl) (fun y hy=>by rw [hlo'] at hy;cases hy) hh0 hh (by omega) c1 c2
     simpa [Addr.add] using this
   ·exact Spec.fail
  ·rename_i cs n hx
   refine Spec.bind (zaz hf fun h hh0 hh=>?_)
   refine Spec.bind (zaz hf fun l hl0 hl=>?_)
   refine Spec.bind (Spec.chk fun c1=>Spec.bind (Spec.chk fun c2=>Spec.bind (Spec.chk fun c3=>?_)))
   simp only [decide_eq_true_eq] at c1 c2 c3
   split
   ·rename_i hcl
    refine Spec.pure' ?_
    have hv:=hf.eval x
    rw [hx] at hv
    generalize heq:a.eval x=u at hv
    by_cases hz:h=l
    ·subst hz
     have e0:(h-h).toNat=0:=by omega
     rw [e0]
     cases hv with
     | @sl0 _ ad cap=>
      have hrun:=fun w=>run ad 0 cap h h w heq (by omega) hl0 hl hh0 hh c1 c2 c3
      rw [Nat.sub_self] at hrun
      exact ⟨_,.sl0,hrun⟩
     | @sl _ _ b base cap vals hs hM hc hv hr=>
      have hrun:=fun w=>run _ n cap h h w heq hc hl0 hl hh0 hh c1 c2 c3
      rw [Nat.sub_self] at hrun
      exact ⟨_,.sl0,hrun⟩
    ·have hn0:(h-l).toNat=h.toNat-l.toNat:=by omega
     rw [hn0]
     cases hv with
     | sl0=>omega
     | @sl _ _ b base cap vals hs hM hc hv hr=>
      have hne:¬(cap=l.toNat):=by omega
      refine ⟨_,.sl (b:=b) (o:=base+l.toNat*i2.size) (cap:=cap-l.toNat) (fun i=>vals (l.toNat*i2.size+i)) hs hM (by omega) (fun i hi=>?_) (fun i hi=>?_),fun w=>?_⟩
      ·grind
      ·grind
      ·have:=run _ n cap l h w heq hc hl0 hl hh0 hh c1 c2 c3
       rw [if_neg hne] at this
       simpa [zcV] using this
   ·exact Spec.fail
  ·split
   ·rename_i q hq
    split
    ·rename_i hsz
     refine Spec.bind (Spec.pure' ?_)
     refine Spec.bind (zaz hf fun h hh0 hh=>?_)
     refine Spec.bind (zaz hf fun l hl0 hl=>?_)
     refine Spec.bind (Spec.chk fun c1=>Spec.bind (Spec.chk fun c2=>Spec.bind (Spec.chk fun c3=>Spec.pure' ?_)))
     simp only [decide_eq_true_eq] at c1 c2 c3
     obtain ⟨ad,cap,hv,hc,hat⟩:=zaU hq (hf.eval x)
     have hlen:((q.take h.toNat).drop l.toNat).length=h.toNat-l.toNat:=by simp;omega
     have hrun:=fun w=>run ad q.length cap l h w hv hc hl0 hl hh0 hh c1 c2 c3
     rw [← hlen] at hrun
     refine ⟨_,.sq ?_ ?_,hrun⟩
     ·by_cases hz:h=l
      ·left
       simp_all
      ·rcases hat with hnil | ⟨b,base,rfl,hM,hcell⟩
       ·left;rw [hnil];simp
       ·right
        have hne:¬(cap=l.toNat):=by omega
        refine ⟨b,base+l.toNat,by rw [if_neg hne];simp [zcV,hsz],hM,fun i hi=>?_⟩
        grind
     ·rw [hlen];omega
    ·exact Spec.bind Spec.fail
   ·exact Spec.fail
 ·rename_i n e htk
  have hd':=zl3 htk;subst hd'
  refine Spec.bind (tZ hg fun i2 d2 z2 hi2 hd2 _=>?_)
  dsimp only
  split
  ·rename_i r off hx
   refine Spec.bind (zaz hf fun h hh0 hh=>Spec.bind (zaz hf fun l hl0 hl=>?_))
   refine Spec.bind (Spec.chk fun c1=>Spec.bind (Spec.chk fun c2=>Spec.bind (Spec.chk fun c3=>?_)))
   simp only [decide_eq_true_eq] at c1 c2 c3
   split
   ·rename_i cs lv hrow
    split
    ·rename_i hroom
     refine Spec.pure' ?_
     have hrows:st.rows[r]? = some (.flat cs lv):=by
      grind
     have hv:=hf.eval x
     rw [hx] at hv
     generalize heq:a.eval x=u at hv
     cases hv with
     | @ref _ _ b hr=>
      have hrho:rho[r]? = some b:=hr
      obtain ⟨c,ee,hb,hlc,hcs⟩:=hm.row r _ b hrows hrho
      refine ⟨_,.own (n:=(h-l).toNat) (cap:=n-l.toNat) hr (hm.bnd r b hrho).2 (by omega) ?_,fun w=>?_⟩
      ·have hb':w0.heap[b]? = some (.cells c ee (0,0)):=hb
       have:YZ w0.heap b=c.size:=by simp [YZ,hb']
       show off+l.toNat*i2.size+(n-l.toNat)*i2.size≤YZ w0.heap b
       have e:l.toNat*i2.size+(n-l.toNat)*i2.size=n*i2.size:=by rw [← Nat.add_mul];congr 1;omega
       omega
      ·have hb2:=zfB (P:=g.P) (isSlice:=false) (len:=n) (cap:=n) (lo:=lo) (hi:=hi) (a:=a) (l:=l) (h:=h) (Nat.le_refl _) hl0 hl hh0 hh c1 c2 c3 w
       simp only [execOp,ho,Instr.sliceAt,run_underlying hd,Sem.run_bind,Result.andThen_ok,heq,Instr.sureAddr,Sem.run_pure,Option.map_none,hb2,qZ hi2]
       have hn:¬(n=l.toNat):=hroom.2
       rw [if_neg hn]
       have e:(h-l).toNat=h.toNat-l.toNat:=by omega
       simp [Addr.add,e]
    ·exact Spec.fail
   ·exact Spec.fail
  ·exact Spec.fail
 ·exact Spec.fail
theorem zm7 (hg : g.OK) {t:TypeId} {x:Operand} {lo hi:Option Operand} (ho:o.op=.slice t x lo hi none) :
 Spec (sliceT g st.rows t (pZ st.tm x) (lo.map (pZ st.tm)) (hi.map (pZ st.tm))) fun v=>PureOK g.P n0 st o v:=by
 have old:=zrl (n0:=n0) (st:=st) hg ho
 unfold sliceT
 split
 ·rename_i k lst hx
  refine zja fun B M0 rho a w0 hm hf=>?_
  refine Spec.bind (tZ hg fun ti d z hti hd _=>?_)
  dsimp only
  split
  ·rename_i e htk
   have hd':=TZ htk;subst hd'
   refine Spec.bind (tZ hg fun i2 d2 z2 hi2 hd2 _=>?_)
   dsimp only
   split
   ·rename_i hsz
    have run:∀(ad:Option Addr) (len cap:Nat) (l h:Int) (w:World),a.eval x=.slice ad len cap→len≤cap →
     (lo=none→l=0)→(∀y,lo=some y→∃k,a.eval y=.int k l)→(hi=none→h=len)→(∀y,hi=some y→∃k,a.eval y=.int k h) →
     0≤l→l≤h→h≤(len:Int) →
     (execOp a.eval o).run g.P w=.ok (.value (.slice (if cap=l.toNat then ad else ad.map (·.add (l.toNat*i2.size))) (h.toNat-l.toNat) (cap-l.toNat))) w:=by
     intro ad len cap l h w h1 h2 h3 h4 h5 h6 h7 h8 h9
     simp only [execOp,ho,Instr.sliceAt,run_underlying hd,Sem.run_bind,Result.andThen_ok,Instr.slice,h1,Option.map_none,zfB h2 h3 h4 h5 h6 h7 h8 h9,qZ hi2,Sem.run_pure]
    refine Spec.bind (zaz hf fun h hh0 hh=>?_)
    refine Spec.bind (zaz hf fun l hl0 hl=>?_)
    refine Spec.bind (Spec.chk fun c1=>Spec.bind (Spec.chk fun c2=>Spec.bind (Spec.chk fun c3=>Spec.pure' ?_)))
    simp only [decide_eq_true_eq] at c1 c2 c3
    have hv:=hf.eval x
    rw [hx] at hv
    generalize heq:a.eval x=u at hv
    have hlen:((lst.take h.toNat).drop l.toNat).length=h.toNat-l.toNat:=by simp;omega
    cases hv with
    | lst hv=>
     by_cases hz:h=l
     ·subst hz
      have e0:(lst.take h.toNat).drop h.toNat=[]:=List.eq_nil_of_length_eq_zero (by omega)
      rw [e0]
      generalize hN:lst.length=N at hv hh0 c3
      cases hv with
      | @sl0 _ ad cap=>
       have hrun:=fun w=>run ad 0 cap h h w heq (by omega) hl0 hl hh0 hh c1 c2 c3
       rw [Nat.sub_self] at hrun
       exact ⟨_,.lst .sl0,hrun⟩
      | @sl _ _ b base cap vals hs hM hc hv hr=>
       have hrun:=fun w=>run _ N cap h h w heq hc hl0 hl hh0 hh c1 c2 c3
       rw [Nat.sub_self] at hrun
       exact ⟨_,.lst .sl0,hrun⟩
     ·have hcl:=sZ k lst
      generalize hN:lst.length=N at hv hh0 c3 hcl
      cases hv with
      | sl0=>omega
      | @sl _ _ b base cap vals hs hM hc hv hr=>
       have hne:¬(cap=l.toNat):=by omega
       have hb1:h.toNat*k.sz≤N*k.sz:=Nat.mul_le_mul_right _ (by omega)
       have hcells:hZ k ((lst.take h.toNat).drop l.toNat)=((hZ k lst).take (h.toNat*k.sz)).drop (l.toNat*k.sz):=by rw [zgZ,zcj]
       refine ⟨.slice (some ⟨b,base+l.toNat*k.sz,none⟩) ((lst.take h.toNat).drop l.toNat).length (cap-l.toNat),.lst (.sl (b:=b) (o:=base+l.toNat*k.sz) (cap:=cap-l.toNat) (fun i=>vals (l.toNat*k.sz+i)) hs hM (by omega) (fun i hi=>?_) (fun i hi=>?_)),fun w=>?_⟩
       ·grind
       ·grind
       ·have:=run _ N cap l h w heq hc hl0 hl hh0 hh c1 c2 c3
        rw [if_neg hne] at this
        rw [hlen]
        simpa [zcV,hsz] using this
   ·exact Spec.fail
  ·exact Spec.fail
 ·exact old
end
section
variable {g:Cfg} {n0:Nat→Prop} {st:St} {o:Oper}
def CR (E:Env) (cs:List AV) (arr:Array Value):Prop:=cs.length=arr.size∧∀i,i<cs.length→Rd E (cs.getD i .junk) (arr.getD i undef)
theorem zaR {cs vc:List AV} {off:Nat} (h:off+vc.length≤cs.length):(over cs off vc).length=cs.length:=by
 unfold over;simp;omega
theorem zn1 {cs vc:List AV} {off:Nat} (h:off+vc.length≤cs.length) (i:Nat) :
 (over cs off vc).getD i .junk=if off≤i∧i<off+vc.length then vc.getD (i-off) .junk else cs.getD i .junk:=by
 unfold over
 grind
theorem znK (off:Nat):∀(vs:List Value) (k:Nat) (arr:Array Value),
 ((vs.zipIdx k).foldl (fun(cs:Array Value) (p:Value × Nat)=>cs.setIfInBounds (off+p.2) p.1) arr).size=arr.size ∧
 ∀i,off+k+vs.length≤arr.size→((vs.zipIdx k).foldl (fun(cs:Array Value) (p:Value × Nat)=>cs.setIfInBounds (off+p.2) p.1) arr).getD i undef =
  if off+k≤i∧i<off+k+vs.length then vs.getD (i-(off+k)) undef else arr.getD i undef
 | [],k,arr=>⟨rfl,fun i _=>by simp;omega⟩
 | v :: vs,k,arr=>by
  obtain ⟨h1,h2⟩:=znK off vs (k+1) (arr.setIfInBounds (off+k) v)
  refine ⟨by simpa using h1,fun i hle=>?_⟩
  have hle':off+k+(vs.length+1)≤arr.size:=by simpa using hle
  simp only [List.zipIdx_cons,List.foldl_cons]
  rw [h2 i (by simp;omega)]
  by_cases hi:off+(k+1)≤i∧i<off+(k+1)+vs.length
  ·grind
  ·rw [if_neg hi]
   by_cases he:i=off+k
   ·subst he
    rw [if_pos ⟨by omega,by simp⟩,Nat.sub_self,List.getD_cons_zero]
    have:off+k<arr.size:=by omega
    simp_all
   ·rw [if_neg (by simp;omega)]
    simp [Array.getD_eq_getD_getElem?,Array.getElem?_setIfInBounds_ne (Ne.symm he)]
theorem zfq {E:Env} {x:AV} {vc:List AV} {v:Value} (hx:zjm x=some vc) (h:Rd E x v):CR E vc v.cells:=by
 have one:∀ {y:AV} {u:Value},Rd E y u→(∀us,u≠.agg us)→CR E [y] u.cells:=by
  intro y u hr hne
  have hc:u.cells = #[u]:=by cases u<;>first | rfl | exact absurd rfl (hne _)
  rw [hc]
  exact ⟨rfl,fun i hi=>by simp_all⟩
 unfold zjm at hx
 split at hx<;>first | (cases hx;done) | skip
 ·cases hx;cases h with | agg hl hr=>exact ⟨hl,hr⟩
 ·rename_i a
  cases hx;cases h
  refine ⟨by simp [Value.cells],fun i hi=>?_⟩
  have hi':i<a.size:=by simpa using hi
  have:(a.toList.map AV.lit).getD i .junk=.lit (a.getD i undef):=by simp [List.getD,hi']
  rw [this];exact .lit _
 ·cases hx
  refine one h ?_
  intro us he
  subst he
  cases h<;>first | (simp_all;done) | (rename_i h1;obtain ⟨_,_,h2,_,_⟩:=zji h1;cases h2)
theorem zhf {E:Env} {place:Nat→Option (Nat × Nat)}:∀ {parts:List (Nat × AV)} {vparts:List (Nat × Value)} {cs:List AV} {arr:Array Value} {cs':List AV},
 ziB place cs parts=some cs'→CR E cs arr→parts.length=vparts.length →
 (∀i:Nat,∀p q,parts[i]? = some p→vparts[i]? = some q→p.1=q.1∧Rd E p.2 q.2)→∃arr',Instr.fill place arr vparts=some arr'∧CR E cs' arr'
 | [],[],cs,arr,cs',h,hcr,_,_=>by
  cases h
  exact ⟨arr,rfl,hcr⟩
 | [],_ :: _,_,_,_,_,_,hl,_=>by simp at hl
 | _ :: _,[],_,_,_,_,_,hl,_=>by simp at hl
 | (i, x) :: parts,(j,v) :: vparts,cs,arr,cs',h,hcr,hl,hp=>by
  obtain ⟨hij,hxv⟩:=hp 0 (i,x) (j,v) rfl rfl
  simp only at hij hxv
  subst hij
  unfold ziB at h
  split at h
  ·rename_i off size vc hpl hvc
   split at h
   ·rename_i hc
    obtain ⟨c1,c2⟩:=hc
    obtain ⟨v1,v2⟩:=zfq hvc hxv
    have hsz:v.cells.size=size:=by omega
    obtain ⟨f1,f2⟩:=znK off v.cells.toList 0 arr
    have hcr':CR E (over cs off vc) (v.cells.toList.zipIdx.foldl (fun(cs:Array Value) (p:Value × Nat)=>cs.setIfInBounds (off+p.2) p.1) arr):=by
     refine ⟨by rw [zaR c2,f1];exact hcr.1,fun k hk=>?_⟩
     rw [zaR c2] at hk
     rw [zn1 c2,f2 k (by simp;have:=hcr.1;omega)]
     have e1:v.cells.toList.length=vc.length:=by simp;omega
     rw [e1]
     by_cases hin:off≤k∧k<off+vc.length
     ·rw [if_pos hin,if_pos (by simpa using hin)]
      have:=v2 (k-off) (by omega)
      have e2:v.cells.toList.getD (k-(off+0)) undef=v.cells.getD (k-off) undef:=by simp
      rw [e2];exact this
     ·rw [if_neg hin,if_neg (by simpa using hin)]
      exact hcr.2 k hk
    obtain ⟨arr',g1,g2⟩:=zhf (place:=place) h hcr' (by simpa using hl) (fun n p q h1 h2=>hp (n+1) p q h1 h2)
    refine ⟨arr',?_,g2⟩
    unfold Instr.fill
    rw [hpl]
    have e3:¬((v.cells.size != size||decide (off+v.cells.size > arr.size))=true):=by
     have:=hcr.1
     simp [hsz];omega
    simp only [ne_eq,decide_not,Bool.or_eq_true] at e3 ⊢
    rw [if_neg (by grind)]
    rw [← g1]
    congr 1
    rw [← Array.foldl_toList]
    simp
   ·cases h
  ·cases h
end
end Go.Ev
end
