/- Part of a proof about a given program: see the last module of the claim. -/
import Derived.Test.YtloaeinogiplbaaGreatDoorD
import Derived.Test.YtloaeinogiplbaaGreatDoorC
section
namespace Go.Kf
set_option linter.unusedVariables false
class CR (R:Type) where
  add:R→R→R
  mul:R→R→R
  neg:R→R
  zero:R
  one:R
  add_assoc:∀a b c,add (add a b) c=add a (add b c)
  add_comm:∀a b,add a b=add b a
  zero_add:∀a,add zero a=a
  neg_add:∀a,add (neg a) a=zero
  mul_assoc:∀a b c,mul (mul a b) c=mul a (mul b c)
  mul_comm:∀a b,mul a b=mul b a
  one_mul:∀a,mul one a=a
  mul_add:∀a b c,mul a (add b c)=add (mul a b) (mul a c)
namespace CR
variable {R:Type} [CR R]
theorem add_zero (a:R):add a zero=a:=by rw [add_comm,zero_add]
theorem zfI (a:R):add a (neg a)=zero:=by rw [add_comm,neg_add]
theorem add_mul (a b c:R):mul (add a b) c=add (mul a c) (mul b c):=by rw [mul_comm,mul_add,mul_comm c a,mul_comm c b]
theorem ziB {a b c:R} (h:add a b=add a c):b=c:=by
  have:=congrArg (add (neg a)) h
  rwa [← add_assoc,← add_assoc,neg_add,zero_add,zero_add] at this
theorem mul_zero (a:R):mul a zero=zero:=by
  refine ziB (a:=mul a zero) ?_
  rw [← mul_add,zero_add,add_zero]
theorem zero_mul (a:R):mul zero a=zero:=by rw [mul_comm,mul_zero]
theorem mul_one (a:R):mul a one=a:=by rw [mul_comm,one_mul]
theorem zd7 {a b:R} (h:add a b=zero):b=neg a:=by
  refine ziB (a:=a) ?_
  rw [h,zfI]
theorem mul_neg (a b:R):mul a (neg b)=neg (mul a b):=zd7 (by rw [← mul_add,zfI,mul_zero])
theorem neg_mul (a b:R):mul (neg a) b=neg (mul a b):=by rw [mul_comm,mul_neg,mul_comm]
theorem neg_neg (a:R):neg (neg a)=a:=(zd7 (neg_add a)).symm
theorem zlc (a b:R):neg (add a b)=add (neg a) (neg b):=by
  refine (zd7 ?_).symm
  rw [add_assoc,← add_assoc b,add_comm b (neg a),add_assoc (neg a),zfI,add_zero,zfI]
theorem neg_zero:neg (zero:R)=zero:=(zd7 (add_zero zero)).symm
theorem zmR (a b c:R):add a (add b c)=add b (add a c):=by rw [← add_assoc,add_comm a b,add_assoc]
theorem znr (a b c:R):mul a (mul b c)=mul b (mul a c):=by rw [← mul_assoc,mul_comm a b,mul_assoc]
end CR
inductive RE where
  | v (i:Nat)
  | n (k:Int)
  | add (a b:RE)
  | sub (a b:RE)
  | mul (a b:RE)
  | neg (a:RE)
section
variable {R:Type} [CR R]
def zkm:Nat→R
  | 0=>CR.zero
  | k+1=>CR.add (zkm k) CR.one
def zhq:Int→R
  | .ofNat k=>zkm k
  | .negSucc k=>CR.neg (zkm (k+1))
def RE.den (e:Nat→R):RE→R
  | .v i=>e i
  | .n k=>zhq k
  | .add a b=>CR.add (a.den e) (b.den e)
  | .sub a b=>CR.add (a.den e) (CR.neg (b.den e))
  | .mul a b=>CR.mul (a.den e) (b.den e)
  | .neg a=>CR.neg (a.den e)
end
def lexM:List Nat→List Nat→Ordering
  | [],[]=>.eq
  | [],_=>.lt
  | _,[]=>.gt
  | a :: l,b :: m=>match Nat.blt a b with
    | true=>.lt
    | false=>match Nat.beq a b with
      | true=>lexM l m
      | false=>.gt
def insV (a:Nat):List Nat→List Nat
  | []=>[a]
  | b :: l=>match Nat.ble a b with
    | true=>a :: b :: l
    | false=>b :: insV a l
def mulM:List Nat→List Nat→List Nat
  | [],m=>m
  | a :: l,m=>insV a (mulM l m)
abbrev RP:=List (Int × List Nat)
def insP (c:Int) (m:List Nat):RP→RP
  | []=>[(c,m)]
  | (d,k) :: p=>match lexM m k with
    | .lt=>(c,m) :: (d,k) :: p
    | .gt=>(d,k) :: insP c m p
    | .eq=>(c+d,k) :: p
def addP:RP→RP→RP
  | [],q=>q
  | (c,m) :: p,q=>addP p (insP c m q)
def scP (c:Int) (m:List Nat):RP→RP
  | []=>[]
  | (d,k) :: p=>insP (c*d) (mulM m k) (scP c m p)
def mulP:RP→RP→RP
  | [],_=>[]
  | (c,m) :: p,q=>addP (scP c m q) (mulP p q)
def RE.nf:RE→RP
  | .v i=>[(1,[i])]
  | .n k=>[(k,[])]
  | .add a b=>addP a.nf b.nf
  | .sub a b=>addP (scP (-1) [] b.nf) a.nf
  | .mul a b=>mulP a.nf b.nf
  | .neg a=>scP (-1) [] a.nf
def allZ:RP→Bool
  | []=>true
  | (c,_) :: p=>match Int.decEq c 0 with | isTrue _=>allZ p | isFalse _=>false
section
variable {R:Type} [CR R]
open CR
theorem zeX (a b:Nat):(zkm (a+b):R)=add (zkm a) (zkm b):=by
  induction b with
  | zero=>exact(add_zero _).symm
  | succ b ih=>
    show add (zkm (a+b)) one=_
    rw [ih,add_assoc];rfl
theorem zgG (a b:Nat):(zkm (a*b):R)=mul (zkm a) (zkm b):=by
  induction b with
  | zero=>exact(mul_zero _).symm
  | succ b ih=>rw [Nat.mul_succ,zeX,ih];show _=mul _ (add (zkm b) one);rw [mul_add,mul_one]
theorem znl (a b:Nat):(zhq (Int.subNatNat a b):R)=add (zkm a) (neg (zkm b)):=by
  by_cases h:b≤a
  · obtain ⟨c,rfl⟩:=Nat.le.dest h
    rw [Int.subNatNat_of_le h,Nat.add_sub_cancel_left,zeX,add_comm (zkm b) (zkm c),add_assoc,zfI,add_zero];rfl
  · obtain ⟨c,rfl⟩:=Nat.le.dest (Nat.lt_of_not_le h)
    rw [Int.subNatNat_of_lt (by omega),show a.succ+c-a=c+1 by omega,show Nat.pred (c+1)=c from rfl,show a.succ+c=a+(c+1) by omega,zeX,zlc,← add_assoc,zfI,zero_add];rfl
theorem zc4 (a:Int):(zhq (-a):R)=neg (zhq a):=by
  match a with
  | .ofNat 0=>exact neg_zero.symm
  | .ofNat (k+1)=>rfl
  | .negSucc k=>exact(neg_neg _).symm
theorem intR_add (a b:Int):(zhq (a+b):R)=add (zhq a) (zhq b):=by
  match a,b with
  | .ofNat a,.ofNat b=>exact zeX a b
  | .ofNat a,.negSucc b=>exact znl a (b+1)
  | .negSucc a,.ofNat b=>rw [add_comm];exact znl b (a+1)
  | .negSucc a,.negSucc b=>
    show neg (zkm (a+b+1+1))=add (neg (zkm (a+1))) (neg (zkm (b+1)))
    rw [← zlc,← zeX,show a+b+1+1=a+1+(b+1) by omega]
theorem intR_mul (a b:Int):(zhq (a*b):R)=mul (zhq a) (zhq b):=by
  rcases Int.eq_nat_or_neg a with ⟨m,rfl | rfl⟩<;>rcases Int.eq_nat_or_neg b with ⟨n,rfl | rfl⟩
  · rw [← Int.natCast_mul];exact zgG m n
  · rw [Int.mul_neg,zc4,zc4,mul_neg,← Int.natCast_mul];exact congrArg neg (zgG m n)
  · rw [Int.neg_mul,zc4,zc4,neg_mul,← Int.natCast_mul];exact congrArg neg (zgG m n)
  · rw [Int.neg_mul_neg,zc4,zc4,neg_mul,mul_neg,neg_neg,← Int.natCast_mul];exact zgG m n
theorem znk:(zhq 1:R)=one:=zero_add one
theorem intR_m1:(zhq (-1):R)=neg one:=by rw [zc4,znk]
def zkT (e:Nat→R):List Nat→R
  | []=>one
  | a :: l=>mul (e a) (zkT e l)
def zen (e:Nat→R):RP→R
  | []=>zero
  | (c,m) :: p=>add (mul (zhq c) (zkT e m)) (zen e p)
variable (e:Nat→R)
theorem lexM_eq:∀l m,lexM l m=.eq→l=m
  | [],[],_=>rfl
  | [],_ :: _,h=>by simp [lexM] at h
  | _ :: _,[],h=>by simp [lexM] at h
  | a :: l,b :: m,h=>by
    unfold lexM at h
    split at h
    · cases h
    · split at h
      · rename_i h2;rw [Nat.eq_of_beq_eq_true h2,lexM_eq l m h]
      · cases h
theorem znc (a:Nat):∀l,zkT e (insV a l)=mul (e a) (zkT e l)
  | []=>rfl
  | b :: l=>by
    unfold insV
    split
    · rfl
    · show mul (e b) (zkT e (insV a l))=mul (e a) (mul (e b) (zkT e l))
      rw [znc a l,znr]
theorem znd:∀l m,zkT e (mulM l m)=mul (zkT e l) (zkT e m)
  | [],m=>(one_mul _).symm
  | a :: l,m=>by
    show zkT e (insV a (mulM l m))=mul (mul (e a) (zkT e l)) (zkT e m)
    rw [znc,znd l m,mul_assoc]
theorem zjq (c:Int) (m:List Nat):∀p,zen e (insP c m p)=add (mul (zhq c) (zkT e m)) (zen e p)
  | []=>rfl
  | (d,k) :: p=>by
    unfold insP
    split
    · rfl
    · show add _ (zen e (insP c m p))=add _ (add _ (zen e p))
      rw [zjq c m p,zmR]
    · rename_i h
      rw [lexM_eq _ _ h]
      show add (mul (zhq (c+d)) (zkT e k)) (zen e p)=add _ (add (mul (zhq d) (zkT e k)) (zen e p))
      rw [intR_add,add_mul,add_assoc]
theorem zgy:∀p q,zen e (addP p q)=add (zen e p) (zen e q)
  | [],q=>(zero_add _).symm
  | (c,m) :: p,q=>by
    show zen e (addP p (insP c m q))=add (add _ (zen e p)) (zen e q)
    rw [zgy p,zjq,zmR,add_assoc]
theorem zmh (c:Int) (m:List Nat):∀p,zen e (scP c m p)=mul (mul (zhq c) (zkT e m)) (zen e p)
  | []=>(mul_zero _).symm
  | (d,k) :: p=>by
    show zen e (insP (c*d) (mulM m k) (scP c m p))=mul _ (add (mul (zhq d) (zkT e k)) (zen e p))
    rw [zjq,zmh c m p,znd,intR_mul,mul_add]
    congr 1
    rw [mul_assoc,mul_assoc,znr (zhq d)]
theorem zne:∀p q,zen e (mulP p q)=mul (zen e p) (zen e q)
  | [],q=>(zero_mul _).symm
  | (c,m) :: p,q=>by
    show zen e (addP (scP c m q) (mulP p q))=mul (add _ (zen e p)) (zen e q)
    rw [zgy,zmh,zne p q,add_mul]
theorem sc_neg (p:RP):zen e (scP (-1) [] p)=neg (zen e p):=by
  rw [zmh,intR_m1]
  show mul (mul (neg one) one) _=_
  rw [mul_one,neg_mul,one_mul]
theorem zge:∀a:RE,zen e a.nf=a.den e
  | .v i=>by
    show add (mul (zhq 1) (mul (e i) one)) zero=e i
    rw [znk,one_mul,mul_one,add_zero]
  | .n k=>by
    show add (mul (zhq k) one) zero=zhq k
    rw [mul_one,add_zero]
  | .add a b=>by
    show zen e (addP a.nf b.nf)=_
    rw [zgy,zge a,zge b];rfl
  | .sub a b=>by
    show zen e (addP (scP (-1) [] b.nf) a.nf)=_
    rw [zgy,sc_neg,zge a,zge b,add_comm];rfl
  | .mul a b=>by
    show zen e (mulP a.nf b.nf)=_
    rw [zne,zge a,zge b];rfl
  | .neg a=>by
    show zen e (scP (-1) [] a.nf)=_
    rw [sc_neg,zge a];rfl
theorem zmS:∀p,allZ p=true→zen e p=zero
  | [],_=>rfl
  | (c,m) :: p,h=>by
    unfold allZ at h
    split at h
    · rename_i hc _
      show add (mul (zhq c) _) (zen e p)=zero
      rw [zmS p h,hc,add_zero]
      exact zero_mul _
    · cases h
theorem zj6 (a b:RE) (h:allZ (RE.sub a b).nf=true):a.den e=b.den e:=by
  have h1:=zmS e _ h
  rw [zge] at h1
  have h2:add (a.den e) (neg (b.den e))=zero:=h1
  have h3:=congrArg (fun x=>add x (b.den e)) h2
  simpa only [add_assoc,neg_add,add_zero,zero_add] using h3
end
end Go.Kf
end
section
namespace Go.Kf
set_option linter.unusedVariables false
set_option linter.unusedSimpArgs false
abbrev V:=Nat→Rat
namespace V
def add (x y:V):V:=fun i=>x i+y i
def sm (r:Rat) (x:V):V:=fun i=>r*x i
def zero:V:=fun _=>0
def e0:V:=fun i=>if i=0 then 1 else 0
end V
open V
def Sup (n:Nat) (x:V):Prop:=∀i,n≤i→x i=0
def T (n:Nat) (p:V) (x:V):V:=fun i=>if i<n then(if i=0 then 0 else x (i-1))-x (n-1)*p i else 0
section
variable {n:Nat} {p:V}
theorem sup_T (x:V):Sup n (T n p x):=fun i h=>if_neg (by omega)
theorem sup_add {x y:V} (hx:Sup n x) (hy:Sup n y):Sup n (add x y):=fun i h=>by
  show x i+y i=0
  rw [hx i h,hy i h];exact Rat.add_zero 0
theorem znT {r:Rat} {x:V} (hx:Sup n x):Sup n (sm r x):=fun i h=>by
  show r*x i=0
  rw [hx i h];exact Rat.mul_zero r
theorem znU:Sup n zero:=fun _ _=>rfl
theorem sup_e0 (h:1≤n):Sup n e0:=fun i hi=>if_neg (by omega)
theorem zn5 (x y:V):T n p (add x y)=add (T n p x) (T n p y):=by
  funext i
  simp only [T,add]
  split
  · split<;>grind
  · grind
theorem T_sm (r:Rat) (x:V):T n p (sm r x)=sm r (T n p x):=by
  funext i
  simp only [T,sm]
  split
  · split<;>grind
  · grind
theorem T_zero:T n p zero=zero:=by
  funext i
  simp only [T,zero]
  split
  · split<;>grind
  · rfl
end
section
variable (n:Nat) (p:V)
def zb5:List Rat→V→V
  | [],_=>zero
  | c :: l,y=>add (sm c y) (T n p (zb5 l y))
def crd (x:V):List Rat:=(List.range n).map x
def mul (x y:V):V:=zb5 n p (crd n x) y
end
theorem zkr (x y:V):add x y=add y x:=funext fun i=>Rat.add_comm _ _
theorem zbh (x y z:V):add (add x y) z=add x (add y z):=funext fun i=>Rat.add_assoc _ _ _
theorem zcS (x:V):add zero x=x:=funext fun i=>Rat.zero_add _
theorem zg1 (x:V):add x zero=x:=funext fun i=>Rat.add_zero _
theorem zlR (r:Rat) (x y:V):sm r (add x y)=add (sm r x) (sm r y):=funext fun i=>Rat.mul_add _ _ _
theorem zke (r s:Rat) (x:V):sm r (sm s x)=sm (r*s) x:=funext fun i=>(Rat.mul_assoc _ _ _).symm
theorem zmL (r:Rat):sm r zero=zero:=funext fun i=>Rat.mul_zero _
theorem zik (x:V):sm 0 x=zero:=funext fun i=>Rat.zero_mul _
theorem one_sm (x:V):sm 1 x=x:=funext fun i=>Rat.one_mul _
theorem add_sm (r s:Rat) (x:V):sm (r+s) x=add (sm r x) (sm s x):=funext fun i=>Rat.add_mul _ _ _
theorem sm_comm (r s:Rat) (x:V):sm r (sm s x)=sm s (sm r x):=by rw [zke,zke,Rat.mul_comm]
theorem add4 (a b c d:V):add (add a b) (add c d)=add (add a c) (add b d):=by
  rw [zbh,← zbh b,zkr b c,zbh c,← zbh]
section
variable {n:Nat} {p:V}
theorem znq (l:List Rat) (x y:V):zb5 n p l (add x y)=add (zb5 n p l x) (zb5 n p l y):=by
  induction l with
  | nil=>exact(zcS _).symm
  | cons c l ih=>show add (sm c (add x y)) (T n p (zb5 n p l (add x y)))=_;rw [ih,zn5,zlR,add4];rfl
theorem zmy (l:List Rat) (r:Rat) (x:V):zb5 n p l (sm r x)=sm r (zb5 n p l x):=by
  induction l with
  | nil=>exact(zmL _).symm
  | cons c l ih=>show add (sm c (sm r x)) (T n p (zb5 n p l (sm r x)))=_;rw [ih,T_sm,sm_comm,← zlR];rfl
theorem mulL_T (l:List Rat) (x:V):zb5 n p l (T n p x)=T n p (zb5 n p l x):=by
  induction l with
  | nil=>exact T_zero.symm
  | cons c l ih=>show add (sm c (T n p x)) (T n p (zb5 n p l (T n p x)))=T n p (add (sm c x) (T n p (zb5 n p l x)));rw [ih,zn5,T_sm]
theorem zlb (l m:List Rat) (x:V):zb5 n p l (zb5 n p m x)=zb5 n p m (zb5 n p l x):=by
  induction l with
  | nil=>
    show zero=zb5 n p m zero
    have:=zmy (n:=n) (p:=p) m 0 zero
    rw [zik,zik] at this
    exact this.symm
  | cons c l ih=>
    show add (sm c (zb5 n p m x)) (T n p (zb5 n p l (zb5 n p m x)))=zb5 n p m (add (sm c x) (T n p (zb5 n p l x)))
    rw [znq,zmy,mulL_T,ih]
theorem znS (l:List Rat) {x:V} (hx:Sup n x):Sup n (zb5 n p l x):=by
  cases l with
  | nil=>exact znU
  | cons c l=>exact sup_add (znT hx) (sup_T _)
def ei (k:Nat):V:=fun i=>if i=k then 1 else 0
theorem T_ei {k:Nat} (h:k+1<n):T n p (ei k)=ei (k+1):=by
  funext i
  have h1:ei k (n-1)=0:=if_neg (by omega)
  simp only [T,h1]
  by_cases hi:i<n
  · rw [if_pos hi]
    by_cases h0:i=0
    · rw [if_pos h0]
      have:ei (k+1) i=0:=if_neg (by omega)
      rw [this];grind
    · rw [if_neg h0]
      by_cases hk:i=k+1
      · have h2:ei k (i-1)=1:=if_pos (by omega)
        have h3:ei (k+1) i=1:=if_pos hk
        rw [h2,h3];grind
      · have h2:ei k (i-1)=0:=if_neg (by omega)
        have h3:ei (k+1) i=0:=if_neg hk
        rw [h2,h3];grind
  · rw [if_neg hi]
    have:ei (k+1) i=0:=if_neg (by omega)
    exact this.symm
def ofL:Nat→List Rat→V
  | _,[]=>zero
  | k,c :: l=>add (sm c (ei k)) (ofL (k+1) l)
theorem zmv:∀(l:List Rat) (k:Nat),k+l.length≤n→zb5 n p l (ei k)=ofL k l
  | [],_,_=>rfl
  | [c],k,_=>by show add (sm c (ei k)) (T n p zero)=add (sm c (ei k)) zero;rw [T_zero]
  | c :: d :: l,k,h=>by
    simp only [List.length_cons] at h
    show add (sm c (ei k)) (T n p (zb5 n p (d :: l) (ei k)))=add (sm c (ei k)) (ofL (k+1) (d :: l))
    rw [← mulL_T,T_ei (by omega),zmv (d :: l) (k+1) (by simp;omega)]
theorem zmz:∀(l:List Rat) (k i:Nat),ofL k l i=if k≤i then l.getD (i-k) 0 else 0
  | [],k,i=>by simp [ofL,zero]
  | c :: l,k,i=>by
    show c*ei k i+ofL (k+1) l i=_
    rw [zmz l (k+1) i]
    by_cases h:i=k
    · subst h
      rw [show ei i i=1 from if_pos rfl,if_neg (by omega),if_pos (by omega)]
      simp;grind
    · rw [show ei k i=0 from if_neg h]
      by_cases h2:k+1≤i
      · rw [if_pos h2,if_pos (by omega),show i-k=(i-(k+1))+1 by omega]
        simp;grind
      · rw [if_neg h2,if_neg (by omega)];grind
theorem e0_ei:e0=ei 0:=rfl
theorem zoi (x:V):(crd n x).length=n:=by simp [crd]
theorem crd_get (x:V) (i:Nat) (h:i<n):(crd n x).getD i 0=x i:=by
  simp [crd,List.getD_eq_getElem?_getD,List.getElem?_map,List.getElem?_range h]
theorem zjJ {x:V} (hx:Sup n x):zb5 n p (crd n x) e0=x:=by
  rw [e0_ei,zmv _ 0 (by rw [zoi];omega)]
  funext i
  rw [zmz,if_pos (Nat.zero_le _)]
  by_cases h:i<n
  · exact crd_get x i h
  · rw [hx i (by omega)]
    simp [List.getD_eq_getElem?_getD,crd]
    rw [List.getElem?_eq_none (by simp;omega)];rfl
def ev (n:Nat) (p:V) (l:List Rat):V:=zb5 n p l e0
theorem znR (h:1≤n) (l:List Rat):Sup n (ev n p l):=znS l (sup_e0 h)
theorem zmx {y:V} (hy:Sup n y) (l:List Rat):zb5 n p l y=zb5 n p (crd n y) (ev n p l):=by
  show _=zb5 n p (crd n y) (zb5 n p l e0)
  rw [zlb,zjJ hy]
theorem zoC {y:V} (hy:Sup n y) {l m:List Rat} (h:ev n p l=ev n p m):zb5 n p l y=zb5 n p m y:=by
  rw [zmx hy,zmx hy,h]
theorem ev_crd {x:V} (hx:Sup n x):ev n p (crd n x)=x:=zjJ hx
theorem zmw (h1:1≤n) {y:V} (hy:Sup n y) (l:List Rat):zb5 n p l y=mul n p (ev n p l) y:=
  zoC hy (by rw [ev_crd (znR h1 l)])
theorem zcL {x y:V} (hx:Sup n x) (hy:Sup n y):mul n p x y=mul n p y x:=by
  show zb5 n p (crd n x) y=zb5 n p (crd n y) x
  rw [zmx hy,ev_crd hx]
theorem mul_add' (x y z:V):mul n p x (add y z)=add (mul n p x y) (mul n p x z):=znq _ _ _
theorem mul_sm (r:Rat) (x y:V):mul n p x (sm r y)=sm r (mul n p x y):=zmy _ _ _
theorem mul_left' (x y z:V):mul n p x (mul n p y z)=mul n p y (mul n p x z):=zlb _ _ _
theorem sup_mul {x y:V} (hy:Sup n y):Sup n (mul n p x y):=znS _ hy
theorem zoD {x y z:V} (hx:Sup n x) (hy:Sup n y) (hz:Sup n z):mul n p (mul n p x y) z=mul n p x (mul n p y z):=by
  rw [zcL (sup_mul hy) hz,zcL hy hz,mul_left']
theorem e0_mul (h:1≤n) {x:V} (hx:Sup n x):mul n p e0 x=x:=by
  rw [zcL (sup_e0 h) hx];exact zjJ hx
end
class Fact' (q:Prop):Prop where
  ok:q
def F (n:Nat) (_p:V):Type:={ x:V // Sup n x }
instance instF {n:Nat} {p:V} [h:Fact' (1≤n)]:CR (F n p) where
  add x y:=⟨add x.1 y.1,sup_add x.2 y.2⟩
  mul x y:=⟨mul n p x.1 y.1,sup_mul y.2⟩
  neg x:=⟨sm (-1) x.1,znT x.2⟩
  zero:=⟨zero,znU⟩
  one:=⟨e0,sup_e0 h.ok⟩
  add_assoc _ _ _:=Subtype.ext (zbh _ _ _)
  add_comm _ _:=Subtype.ext (zkr _ _)
  zero_add _:=Subtype.ext (zcS _)
  neg_add x:=Subtype.ext (by
    show add (sm (-1) x.1) x.1=zero
    conv=>lhs;arg 2;rw [← one_sm x.1]
    rw [← add_sm,show(-1+1:Rat)=0 by grind]
    exact zik _)
  mul_assoc x y z:=Subtype.ext (zoD x.2 y.2 z.2)
  mul_comm x y:=Subtype.ext (zcL x.2 y.2)
  one_mul x:=Subtype.ext (e0_mul h.ok x.2)
  mul_add _ _ _:=Subtype.ext (mul_add' _ _ _)
end Go.Kf
end
section
namespace Go.Kf
set_option linter.unusedVariables false
set_option linter.unusedSimpArgs false
def gL (g:Nat):List Int→Nat
  | []=>g
  | x :: l=>gL (Int.gcd g x) l
theorem gL_dvd:∀(l:List Int) (g:Nat),gL g l∣g∧∀x∈l,(gL g l:Int)∣x
  | [],g=>⟨Nat.dvd_refl g,fun _ h=>by cases h⟩
  | x :: l,g=>by
    obtain ⟨h1,h2⟩:=gL_dvd l (Int.gcd g x)
    have a:Int.gcd (g:Int) x∣g:=by have:=Int.gcd_dvd_natAbs_left (g:Int) x;simpa using this
    have b:((Int.gcd (g:Int) x:Nat):Int)∣x:=Int.gcd_dvd_right ..
    refine ⟨Nat.dvd_trans h1 a,fun y hy=>?_⟩
    rcases List.mem_cons.1 hy with rfl | hy
    · exact Int.dvd_trans (Int.natCast_dvd_natCast.2 h1) b
    · exact h2 y hy
theorem dvd_gL:∀(l:List Int) (g k:Nat),k∣g→(∀x∈l,(k:Int)∣x)→k∣gL g l
  | [],g,k,h,_=>h
  | x :: l,g,k,h,hl=>dvd_gL l _ k (Int.dvd_gcd (Int.natCast_dvd_natCast.2 h) (hl x (by simp))) fun y hy=>hl y (by simp [hy])
theorem gL_pos {g:Nat} (h:0<g) (l:List Int):0<gL g l:=Nat.pos_of_dvd_of_pos (gL_dvd l g).1 h
def dvs (c:List Int) (d:Int):Int:=if d<0 then -(gL d.natAbs c:Int) else(gL d.natAbs c:Int)
def loC (c:List Int) (d:Int) (i:Nat):Int:=c.getD i 0 / dvs c d
def loD (c:List Int) (d:Int):Int:=d / dvs c d
theorem ziI {c:List Int} {d:Int} (h:d≠0):dvs c d≠0:=by
  have:=gL_pos (g:=d.natAbs) (by omega) c
  unfold dvs;split<;>omega
theorem zfR (c:List Int) (d:Int):dvs c d∣d∧∀i,dvs c d∣c.getD i 0:=by
  obtain ⟨h1,h2⟩:=gL_dvd c d.natAbs
  have h1':(gL d.natAbs c:Int)∣d:=Int.dvd_natAbs.1 (Int.natCast_dvd_natCast.2 h1)
  have h2':∀i,(gL d.natAbs c:Int)∣c.getD i 0:=fun i=>by
    by_cases h:i<c.length
    · rw [List.getD_eq_getElem?_getD,List.getElem?_eq_getElem h];exact h2 _ (List.getElem_mem h)
    · rw [List.getD_eq_getElem?_getD,List.getElem?_eq_none (by omega)];exact Int.dvd_zero _
  unfold dvs
  split
  · exact ⟨(Int.neg_dvd).2 h1',fun i=>(Int.neg_dvd).2 (h2' i)⟩
  · exact ⟨h1',h2'⟩
theorem zhs {c : List Int} {d:Int} (h:d≠0):0<loD c d:=by
  obtain ⟨k,hk⟩:=(zfR c d).1
  have h0:=ziI (c:=c) h
  have : loD c d = k := by unfold loD;conv=>lhs;arg 1;rw [hk]
                           exact Int.mul_ediv_cancel_left k h0
  rw [this]
  have hp:=gL_pos (g:=d.natAbs) (by omega) c
  unfold dvs at hk
  split at hk
  · rename_i hd
    rcases Int.lt_trichotomy k 0 with h1 | h1 | h1
    · exfalso
      have:0 < -(gL d.natAbs c:Int)*k:=Int.mul_pos_of_neg_of_neg (by omega) h1
      omega
    · subst h1;simp at hk;omega
    · exact h1
  · rename_i hd
    rcases Int.lt_trichotomy k 0 with h1 | h1 | h1
    · exfalso
      have:(gL d.natAbs c:Int)*k<0:=Int.mul_neg_of_pos_of_neg (by omega) h1
      omega
    · subst h1;simp at hk;omega
    · exact h1
theorem zbC (c:List Int) (d:Int):loD c d*dvs c d=d:=Int.ediv_mul_cancel (zfR c d).1
theorem zbB (c:List Int) (d:Int) (i:Nat):loC c d i*dvs c d=c.getD i 0:=Int.ediv_mul_cancel ((zfR c d).2 i)
theorem znn {c:List Int} {d:Int} (h:d≠0) {k:Nat} (h1:(k:Int)∣loD c d) (h2:∀i,(k:Int)∣loC c d i):k=1:=by
  have hg:=gL_pos (g:=d.natAbs) (by omega) c
  have ha:(dvs c d).natAbs=gL d.natAbs c:=by unfold dvs;split<;>omega
  have hd:d.natAbs=k*gL d.natAbs c*(loD c d / k).natAbs:=by
    obtain ⟨m,hm⟩:=h1
    have hk:(k:Int)≠0:=fun hk=>by
      have:=zbC c d
      rw [hm,hk,Int.zero_mul,Int.zero_mul] at this;exact h this.symm
    have e1:loD c d / k=m:=by rw [hm];exact Int.mul_ediv_cancel_left m hk
    have e2:=congrArg Int.natAbs (zbC c d)
    rw [Int.natAbs_mul,ha] at e2
    have e3:=congrArg Int.natAbs hm
    rw [Int.natAbs_mul,Int.natAbs_natCast] at e3
    rw [e1]
    generalize gL d.natAbs c=G at *
    rw [← e2,e3]
    simp only [Nat.mul_comm,Nat.mul_left_comm,Nat.mul_assoc]
  have h3:k*gL d.natAbs c∣gL d.natAbs c:=by
    refine dvd_gL _ _ _ ⟨_,hd⟩ fun x hx=>?_
    obtain ⟨i,hi,rfl⟩:=List.getElem_of_mem hx
    obtain ⟨m,hm⟩:=h2 i
    have:=zbB c d i
    rw [hm,List.getD_eq_getElem?_getD,List.getElem?_eq_getElem hi] at this
    simp only [Option.getD_some] at this
    have e4:((k*gL d.natAbs c:Nat):Int)∣(k:Int)*m*dvs c d:=by
      rw [← ha,Int.natCast_mul]
      rcases Int.natAbs_eq (dvs c d) with e | e
      · rw [← e];exact ⟨m,by grind⟩
      · exact ⟨-m,by rw [show((dvs c d).natAbs:Int) = - dvs c d by omega];grind⟩
    rw [this] at e4
    exact e4
  have h4:=Nat.le_of_dvd hg h3
  rcases Nat.lt_or_ge k 2 with h5 | h5
  · rcases Nat.eq_zero_or_pos k with h6 | h6
    · subst h6;simp at h3;omega
    · omega
  · have:2*gL d.natAbs c≤k*gL d.natAbs c:=Nat.mul_le_mul_right _ h5
    omega
theorem lo_eq {c c':List Int} {d d':Int} (h:d≠0) (h':d'≠0) (hc:∀i,c.getD i 0*d'=c'.getD i 0*d):loD c d=loD c' d'∧∀i,loC c d i=loC c' d' i:=by
  have g0:=ziI (c:=c) h
  have g0':=ziI (c:=c') h'
  have e:∀i,loC c d i*loD c' d'=loC c' d' i*loD c d:=fun i=>by
    have:=hc i
    rw [← zbB c d i,← zbB c' d' i,← zbC c d,← zbC c' d'] at this
    rw [zbC,zbC,zbB,zbB] at *
    have h2:(loC c d i*loD c' d'-loC c' d' i*loD c d)*(dvs c d*dvs c' d')=0:=by
      have a1:=zbB c d i;have a2:=zbB c' d' i;have a3:=zbC c d;have a4:=zbC c' d'
      grind
    rcases Int.mul_eq_zero.1 h2 with h3 | h3
    · omega
    · rcases Int.mul_eq_zero.1 h3 with h4 | h4<;>contradiction
  have p:=zhs (c:=c) h
  have p':=zhs (c:=c') h'
  have key:∀ {c c':List Int} {d d':Int},d≠0→0<loD c d→0<loD c' d'→(∀i,loC c d i*loD c' d'=loC c' d' i*loD c d)→loD c d∣loD c' d':=by
    intro c c' d d' h p p' e
    have hg:Int.gcd (loD c d) (loD c' d')≠0:=by
      intro h0;have:=(Int.gcd_eq_zero_iff.1 h0).1;omega
    obtain ⟨a,ha⟩:=Int.gcd_dvd_left (loD c d) (loD c' d')
    obtain ⟨b,hb⟩:=Int.gcd_dvd_right (loD c d) (loD c' d')
    have cop:Int.gcd a b=1:=by
      have:=Int.gcd_mul_left (Int.gcd (loD c d) (loD c' d'):Int) a b
      rw [← ha,← hb] at this
      simp at this
      have h1:Int.gcd (loD c d) (loD c' d')*Int.gcd a b=Int.gcd (loD c d) (loD c' d')*1:=by omega
      exact Nat.eq_of_mul_eq_mul_left (by omega) h1
    have hdiv:∀i,a∣loC c d i:=fun i=>by
      have:=e i
      rw [ha,hb] at this
      have h3:loC c d i*b=loC c' d' i*a:=by
        have:(loC c d i*b-loC c' d' i*a)*(Int.gcd (loD c d) (loD c' d'):Int)=0:=by grind
        rcases Int.mul_eq_zero.1 this with h4 | h4<;>omega
      have h4:a.natAbs∣(loC c d i).natAbs*b.natAbs:=by
        rw [← Int.natAbs_mul,h3,Int.natAbs_mul];exact Nat.dvd_mul_left ..
      exact Int.natAbs_dvd_natAbs.1 (Nat.Coprime.dvd_of_dvd_mul_right (show Nat.gcd a.natAbs b.natAbs=1 from cop) h4)
    have h1:a.natAbs=1:=znn (k:=a.natAbs) h (by rw [Int.natAbs_dvd];exact ⟨_,by rw [Int.mul_comm];exact ha⟩) fun i=>Int.natAbs_dvd.2 (hdiv i)
    have h2:(Int.gcd (loD c d) (loD c' d'):Int)=loD c d:=by
      rcases Int.natAbs_eq a with ea | ea
      · rw [h1] at ea;rw [ea] at ha;omega
      · rw [h1] at ea;rw [ea] at ha;omega
    exact ⟨b,by rw [← h2];exact hb⟩
  have d1:=key h p p' e
  have d2:=key h' p' p fun i=>(e i).symm
  have eD:loD c d=loD c' d':=Int.dvd_antisymm (by omega) (by omega) d1 d2
  refine ⟨eD,fun i=>?_⟩
  have:=e i
  rw [eD] at this
  exact Int.eq_of_mul_eq_mul_right (by omega) this
end Go.Kf
end
section
namespace Go.Kf
set_option linter.unusedVariables false
set_option linter.unusedSimpArgs false
open V
def qL (c:List Int):List Rat:=c.map fun z:Int=>(z:Rat)
def pV (p:List Int):V:=fun i=>((p.getD i 0:Int):Rat)
theorem qL_cons (x:Int) (l:List Int):qL (x :: l)=(x:Rat) :: qL l:=rfl
theorem zlw (l:List Int):(qL l).length=l.length:=by simp [qL]
theorem zhE (l:List Int) (i:Nat):(qL l).getD i 0=((l.getD i 0:Int):Rat):=by
  simp only [qL,List.getD_eq_getElem?_getD,List.getElem?_map]
  cases l[i]? <;> simp
section
variable {n:Nat} {p:V}
theorem zng {l:List Rat} (h:l.length≤n):ev n p l=fun i=>l.getD i 0:=by
  unfold ev
  rw [e0_ei,zmv l 0 (by omega)]
  funext i
  rw [zmz,if_pos (Nat.zero_le _)];rfl
def Tn (n:Nat) (p:V):Nat→V→V
  | 0,x=>x
  | k+1,x=>T n p (Tn n p k x)
theorem Tn_sm (k:Nat) (r:Rat) (x:V):Tn n p k (sm r x)=sm r (Tn n p k x):=by
  induction k with
  | zero=>rfl
  | succ k ih=>show T n p (Tn n p k (sm r x))=_;rw [ih,T_sm];rfl
theorem Tn_Tn (j k:Nat) (x:V):Tn n p j (Tn n p k x)=Tn n p (j+k) x:=by
  induction j with
  | zero=>rw [Nat.zero_add];rfl
  | succ j ih=>show T n p (Tn n p j (Tn n p k x))=_;rw [ih,Nat.succ_add];rfl
theorem Tn_ei:∀(k:Nat),k<n→Tn n p k e0=ei k
  | 0,_=>rfl
  | k+1,h=>by show T n p (Tn n p k e0)=_;rw [Tn_ei k (by omega),T_ei h]
theorem ev_snoc (l:List Rat) (t:Rat):ev n p (l++[t])=add (ev n p l) (sm t (Tn n p l.length e0)):=by
  unfold ev
  induction l with
  | nil=>show add (sm t e0) (T n p zero)=add zero (sm t e0);rw [T_zero,zg1,zcS]
  | cons x l ih=>
    show add (sm x e0) (T n p (zb5 n p (l++[t]) e0))=add (add (sm x e0) (T n p (zb5 n p l e0))) (sm t (T n p (Tn n p l.length e0)))
    rw [ih,zn5,T_sm,zbh]
end
def zipS:List Int→Int→List Int→List Int
  | _,_,[]=>[]
  | [],_,x :: l=>x :: l
  | q :: p,t,x :: l=>(x + -(t*q)) :: zipS p t l
def red1 (p:List Int) (t:Int):Nat→List Int→List Int
  | 0,l=>zipS p t l
  | _+1,[]=>[]
  | k+1,x :: l=>x :: red1 p t k l
theorem zil:∀(p:List Int) (t:Int) (l:List Int),(zipS p t l).length=l.length
  | _,_,[]=>by unfold zipS;rfl
  | [],_,x :: l=>rfl
  | q :: p,t,x :: l=>by simp [zipS,zil p t l]
theorem zhL (p:List Int) (t:Int):∀(k:Nat) (l:List Int),(red1 p t k l).length=l.length
  | 0,l=>zil p t l
  | _+1,[]=>rfl
  | k+1,x :: l=>by simp [red1,zhL p t k l]
theorem zqf (t q:Int):((-(t*q):Int):Rat) = -(t:Rat)*(q:Rat):=by
  rw [Rat.intCast_neg,Rat.intCast_mul];grind
section
variable {n:Nat} {p:V}
theorem ev_zipS:∀(q:List Int) (t:Int) (l:List Int),l.length=q.length→ev n p (qL (zipS q t l))=add (ev n p (qL l)) (sm (-(t:Rat)) (ev n p (qL q)))
  | [],t,[],_=>by show zero=add zero (sm _ zero);rw [zmL,zg1]
  | [],_,_ :: _,h=>by simp at h
  | _ :: _,_,[],h=>by simp at h
  | q :: qs,t,x :: l,h=>by
    have ih:=ev_zipS qs t l (by simpa using h)
    unfold ev at *
    show add (sm ((x + -(t*q):Int):Rat) e0) (T n p (zb5 n p (qL (zipS qs t l)) e0))=add (add (sm (x:Rat) e0) (T n p (zb5 n p (qL l) e0))) (sm (-(t:Rat)) (add (sm (q:Rat) e0) (T n p (zb5 n p (qL qs) e0))))
    rw [ih,zn5,T_sm,zlR,zke,add4,Rat.intCast_add,zqf,add_sm]
theorem ev_red1:∀(q:List Int) (t:Int) (k:Nat) (l:List Int),l.length=k+q.length→ev n p (qL (red1 q t k l))=add (ev n p (qL l)) (sm (-(t:Rat)) (Tn n p k (ev n p (qL q))))
  | q,t,0,l,h=>ev_zipS q t l (by omega)
  | q,t,k+1,[],h=>by simp at h;omega
  | q,t,k+1,x :: l,h=>by
    have ih:=ev_red1 q t k l (by simp at h;omega)
    unfold ev at *
    show add (sm (x:Rat) e0) (T n p (zb5 n p (qL (red1 q t k l)) e0))=add (add (sm (x:Rat) e0) (T n p (zb5 n p (qL l) e0))) (sm (-(t:Rat)) (T n p (Tn n p k (zb5 n p (qL q) e0))))
    rw [ih,zn5,T_sm,zbh]
end
theorem Tn_top {q:List Int} (h:1≤q.length):Tn q.length (pV q) q.length e0=sm (-1) (ev q.length (pV q) (qL q)):=by
  obtain ⟨m,hm⟩:∃m,q.length=m+1:=⟨q.length-1,by omega⟩
  rw [zng (by rw [zlw];exact Nat.le_refl _)]
  conv=>lhs;rw [hm]
  show T (m+1) (pV q) (Tn (m+1) (pV q) m e0)=_
  rw [Tn_ei m (by omega)]
  funext i
  have h1:ei m (m+1-1)=1:=if_pos rfl
  show(if i<m+1 then(if i=0 then 0 else ei m (i-1))-ei m (m+1-1)*pV q i else 0) = -1*(qL q).getD i 0
  rw [h1,zhE]
  by_cases hi:i<m+1
  · rw [if_pos hi]
    have h2:(if i=0 then(0:Rat) else ei m (i-1))=0:=by
      split
      · rfl
      · exact if_neg (by omega)
    rw [h2];unfold pV;grind
  · rw [if_neg hi,List.getD_eq_getElem?_getD,List.getElem?_eq_none (by omega)]
    simp
theorem ev_step {q:List Int} (hq:1≤q.length) {k:Nat} {c:List Int} (hc:c.length=q.length+k+1):ev q.length (pV q) (qL (red1 q (c.getLastD 0) k c.dropLast))=ev q.length (pV q) (qL c):=by
  have hne:c≠[]:=by intro h;rw [h] at hc;simp at hc
  have e1:c=c.dropLast++[c.getLastD 0]:=by
    rw [List.getLastD_eq_getLast?,List.getLast?_eq_some_getLast hne];exact(List.dropLast_concat_getLast hne).symm
  have hl:c.dropLast.length=k+q.length:=by rw [List.length_dropLast];omega
  rw [ev_red1 _ _ _ _ hl]
  conv=>rhs;rw [e1]
  have e2:qL (c.dropLast++[c.getLastD 0])=qL c.dropLast++[((c.getLastD 0:Int):Rat)]:=by simp [qL]
  rw [e2,ev_snoc,zlw,hl,← Tn_Tn,Tn_top hq,Tn_sm,zke]
  congr 2
  grind
def val (q:List Int) (c:List Int) (d:Int):V:=sm ((d:Rat)⁻¹) (ev q.length (pV q) (qL c))
theorem zdB {d:Int} (h:d≠0):(d:Rat)≠0:=fun e=>h (by exact_mod_cast e)
def zmQ:List Int→List Int→List Int
  | [],y=>y
  | a :: x,[]=>a :: x
  | a :: x,b :: y=>(a+b) :: zmQ x y
def smZ (k:Int) (x:List Int):List Int:=x.map fun a=>k*a
def cvZ:List Int→List Int→List Int
  | [],_=>[]
  | a :: x,y=>zmQ (smZ a y) (0 :: cvZ x y)
section
variable {n:Nat} {p:V}
theorem zmm (c:Rat) (l:List Rat):ev n p (c :: l)=add (sm c e0) (T n p (ev n p l)):=rfl
theorem zml:∀x y:List Int,ev n p (qL (zmQ x y))=add (ev n p (qL x)) (ev n p (qL y))
  | [],y=>(zcS _).symm
  | a :: x,[]=>(zg1 _).symm
  | a :: x,b :: y=>by
    show add (sm ((a+b:Int):Rat) e0) (T n p (ev n p (qL (zmQ x y))))=add (add (sm (a:Rat) e0) (T n p (ev n p (qL x)))) (add (sm (b:Rat) e0) (T n p (ev n p (qL y))))
    rw [zml x y,zn5,Rat.intCast_add,add_sm,add4]
theorem ziN (k:Int):∀x:List Int,ev n p (qL (smZ k x))=sm (k:Rat) (ev n p (qL x))
  | []=>(zmL _).symm
  | a :: x=>by
    show add (sm ((k*a:Int):Rat) e0) (T n p (ev n p (qL (smZ k x))))=sm (k:Rat) (add (sm (a:Rat) e0) (T n p (ev n p (qL x))))
    rw [ziN k x,zlR,zke,T_sm,Rat.intCast_mul]
theorem ev_cvZ:∀x y:List Int,ev n p (qL (cvZ x y))=zb5 n p (qL x) (ev n p (qL y))
  | [],y=>rfl
  | a :: x,y=>by
    show ev n p (qL (zmQ (smZ a y) (0 :: cvZ x y)))=add (sm (a:Rat) (ev n p (qL y))) (T n p (zb5 n p (qL x) (ev n p (qL y))))
    rw [zml,ziN,← ev_cvZ x y]
    congr 1
    show add (sm ((0:Int):Rat) e0) (T n p (ev n p (qL (cvZ x y))))=_
    rw [show((0:Int):Rat)=0 from rfl,zik,zcS]
theorem zgD:∀l:List Rat,(∀c∈l,c=0)→ev n p l=zero
  | [],_=>rfl
  | c :: l,h=>by
    rw [zmm,zgD l fun d hd=>h d (by simp [hd]),h c (by simp),zik,T_zero,zcS]
theorem zkY:∀(l m:List Rat),(∀c∈m,c=0)→ev n p (l++m)=ev n p l
  | [],m,h=>zgD m h
  | c :: l,m,h=>by
    show add (sm c e0) (T n p (ev n p (l++m)))=_
    rw [zkY l m h];rfl
theorem ev_sup {l:List Rat} (h:∀i,n≤i→l.getD i 0=0):ev n p l=fun i=>l.getD i 0:=by
  have e:l=l.take n++l.drop n:=(List.take_append_drop n l).symm
  have hz:∀c∈l.drop n,c=0:=fun c hc=>by
    obtain ⟨i,hi,rfl⟩:=List.getElem_of_mem hc
    have:=h (n+i) (by omega)
    rw [List.length_drop] at hi
    rw [List.getElem_drop]
    simpa [List.getD,show n+i<l.length by omega] using this
  have e1:ev n p l=ev n p (l.take n):=by
    conv=>lhs;rw [e]
    exact zkY _ _ hz
  rw [e1,zng (by rw [List.length_take];omega)]
  funext i
  by_cases hi:i<n
  · simp [List.getD,List.getElem?_take,hi]
  · rw [h i (by omega)]
    simp [List.getD,List.getElem?_take,hi]
end
theorem sm_mul {n:Nat} {p:V} (r:Rat) {x y:V} (hx:Sup n x) (hy:Sup n y):mul n p (sm r x) y=sm r (mul n p x y):=by
  rw [zcL (znT hx) hy,mul_sm,zcL hy hx]
def zn4 (q c:List Int):Prop:=∀i,q.length≤i→c.getD i 0=0
theorem shrt_of {q c:List Int} (h:c.length≤q.length):zn4 q c:=fun i hi=>by
  rw [List.getD_eq_getElem?_getD,List.getElem?_eq_none (by omega)];rfl
section
variable {q:List Int}
abbrev vAdd (x y:V):V:=V.add x y
theorem val_add {c c':List Int} {d d':Int} (hd:d≠0) (hd':d'≠0):val q (zmQ (smZ d' c) (smZ d c')) (d*d')=add (val q c d) (val q c' d'):=by
  unfold val
  rw [zml,ziN,ziN,zlR,zke,zke,Rat.intCast_mul]
  have a:=zdB hd
  have b:=zdB hd'
  congr 2<;>grind
theorem val_mul (hq:1≤q.length) {c c':List Int} {d d':Int} (hd:d≠0) (hd':d'≠0):val q (cvZ c c') (d*d')=mul q.length (pV q) (val q c d) (val q c' d'):=by
  unfold val
  have s1:=znR (p:=pV q) hq (qL c)
  have s2:=znR (p:=pV q) hq (qL c')
  rw [ev_cvZ,zmw hq s2,mul_sm,sm_mul _ s1 s2,zke,Rat.intCast_mul]
  have a:=zdB hd
  have b:=zdB hd'
  congr 1;grind
theorem val_neg {c:List Int} {d:Int}:val q (smZ (-1) c) d=sm (-1) (val q c d):=by
  unfold val
  rw [ziN,sm_comm];rfl
theorem val_scale {c:List Int} {d k:Int} (hd:d≠0) (hk:k≠0):val q (smZ k c) (k*d)=val q c d:=by
  unfold val
  rw [ziN,zke,Rat.intCast_mul]
  have a:=zdB hd
  have b:=zdB hk
  congr 1;grind
theorem sup_val (hq:1≤q.length) (c:List Int) (d:Int):Sup q.length (val q c d):=znT (znR hq _)
theorem val_inj2 {c c':List Int} {d d':Int} (hd:d≠0) (hd':d'≠0) (hc:zn4 q c) (hc':zn4 q c') (h:val q c d=val q c' d') (i:Nat):c.getD i 0*d'=c'.getD i 0*d:=by
  have h1:=congrFun h i
  unfold val at h1
  rw [ev_sup (n:=q.length) (l:=qL c) (fun i hi=>by rw [zhE,hc i hi];rfl),ev_sup (n:=q.length) (l:=qL c') (fun i hi=>by rw [zhE,hc' i hi];rfl)] at h1
  have h2:(d:Rat)⁻¹*((c.getD i 0:Int):Rat)=(d':Rat)⁻¹*((c'.getD i 0:Int):Rat):=by
    have:=h1
    simp only [sm] at this
    rwa [zhE,zhE] at this
  have a:=zdB hd
  have b:=zdB hd'
  have h3:((c.getD i 0:Int):Rat)*(d':Rat)=((c'.getD i 0:Int):Rat)*(d:Rat):=by grind
  exact_mod_cast h3
theorem lo_val2 {c c':List Int} {d d':Int} (hd:d≠0) (hd':d'≠0) (hc:zn4 q c) (hc':zn4 q c') (h:val q c d=val q c' d'):loD c d=loD c' d'∧∀i,loC c d i=loC c' d' i:=
  lo_eq hd hd' (val_inj2 hd hd' hc hc' h)
def zaX:List Int→List Int
  | []=>[]
  | x :: l=>match zaX l with
    | []=>if x=0 then [] else [x]
    | y :: m=>x :: y :: m
theorem zbZ:∀(l:List Int) (i:Nat),(zaX l).getD i 0=l.getD i 0
  | [],i=>rfl
  | x :: l,i=>by
    have ih:=zbZ l
    unfold zaX
    split
    · rename_i h
      rw [h] at ih
      split
      · rename_i hx
        subst hx
        cases i with
        | zero=>rfl
        | succ i=>simpa using ih i
      · cases i with
        | zero=>rfl
        | succ i=>simpa using ih i
    · rename_i y m h
      rw [h] at ih
      cases i with
      | zero=>rfl
      | succ i=>simpa using ih i
theorem zf2:∀l:List Int,zaX l=[]∨(zaX l).getLastD 0≠0
  | []=>.inl rfl
  | x :: l=>by
    have ih:=zf2 l
    unfold zaX
    split
    · split
      · exact .inl rfl
      · rename_i hx;exact .inr hx
    · rename_i y m h
      rw [h] at ih
      rcases ih with ih | ih
      · cases ih
      · right
        simpa [List.getLastD] using ih
end
end Go.Kf
end
section
open Go Go.Ev Go.RowKit
namespace Go.Proofs.YtloaeinogiplbaaGreatDoor
open Go.Proofs
set_option maxRecDepth 100000
set_option maxHeartbeats 1000000
set_option linter.unusedVariables false
set_option linter.unusedSimpArgs false
def ctrQ:Ctr:=(126,cNu pNu loA) :: ctr12
abbrev kdQ:List (TypeId × EK):=[(100,.whole)]
abbrev tL (c:List Int) (n:Int) (l:List Int):List Int:=List.take (Int.toNat (if(↑(0+List.length c):Int)<n then(↑(0+List.length c):Int) else n)) l
theorem zgw:∀p∈ctrQ,lZ Tryz.prog p.1 p.2:=CAll.cons (cNu_ok zk7) zhc
theorem okQ:(dZ Tryz.prog ctrQ bw [] kdQ).OK:=OZ zcM mixed zgw zcF
noncomputable section
abbrev zhF (s:St) (r:Ex × St):Prop:=Loops 4 Tryz.prog (pZ Tryz.prog 134 0) s r
abbrev zdh (a:List Int) (b:Nat) (c d e:Int) (f:List Int):St:=⟨sp 89 [(0,.pd [aJ,aJ,aJ,aJ,.lst EK.whole a,aJ,aJ,aJ,aJ,aJ,aJ,aJ] 0),(1,.own 3 0 b 2),(5,.ref 0 0),(6,.ref 1 0),(7,aI c),(8,aI e)],[.flat [aD d,.wd d] true,.flat [aF,aN,aF,aN,aF,aN,aF,aN,aF,aN] true,.dead,.lst EK.whole f true],[3,2]⟩
abbrev zdR (a:List Int) (b:Nat) (c d e:Int) (f:List Int):St:=⟨sp 89 [(0,.pd [aJ,aJ,aJ,aJ,.lst EK.whole a,aJ,aJ,aJ,aJ,aJ,aJ,aJ] 0),(1,.own 3 0 b 2),(5,.ref 0 0),(6,.ref 1 0),(7,aI c),(8,aI e)],[.flat [aD d,.wd d] true,.flat [aF,aN,aF,aN,aF,aN,aF,aN,aF,aN] true,.dead,.lst EK.whole f true],[3,2]⟩
abbrev zlB (s:St) (r:Ex × St):Prop:=Loops 4 Tryz.prog (pZ Tryz.prog 134 1) s r
abbrev ze6 (a:List Int) (b:Nat) (c d e f:Int) (g:List Int):St:=⟨sp 89 [(0,.pd [aJ,aJ,aJ,aJ,.lst EK.whole a,aJ,aJ,aJ,aJ,aJ,aJ,aJ] 0),(1,.own 3 0 b 2),(5,.ref 0 0),(6,.ref 1 0),(7,aI c),(8,aI d),(24,aI c),(25,aI f)],[.flat [aD e,.wd e] true,.flat [aF,aN,aF,aN,aF,aN,aF,aN,aF,aN] true,.dead,.lst EK.whole g true],[3,2]⟩
abbrev ze7 (a:List Int) (b:Nat) (c d e f:Int) (g:List Int):St:=⟨sp 89 [(0,.pd [aJ,aJ,aJ,aJ,.lst EK.whole a,aJ,aJ,aJ,aJ,aJ,aJ,aJ] 0),(1,.own 3 0 b 2),(5,.ref 0 0),(6,.ref 1 0),(7,aI c),(8,aI d),(24,aI c),(25,aI f)],[.flat [aD e,.wd e] true,.flat [aF,aN,aF,aN,aF,aN,aF,aN,aF,aN] true,.dead,.lst EK.whole g true],[3,2]⟩
theorem zpa (a:List Int) (b:Nat) (d f g j:Int) (l:List Int) (h1:j<d) (h2:r64 (f-d)) (h3:r64 (f-d+j)) (h4:0≤f-d+j) (h5:f-d+j<(b:Int)) (h6:0≤f) (h7:f<(b:Int)) (h8:0≤j) (h9:j<(a.length:Int)) (h10:(f-d+j).toNat<l.length) (h11:f.toNat<l.length) (h12:decide (l.getD f.toNat (EK.dflt EK.whole)<OfNat.ofNat 0)=decide (l.getD f.toNat (EK.dflt EK.whole)<0)) (h13:decide (a.getD j.toNat (EK.dflt EK.whole)<OfNat.ofNat 0)=decide (a.getD j.toNat (EK.dflt EK.whole)<0)) (h14:pDD (l.getD f.toNat (EK.dflt EK.whole)) (a.getD j.toNat (EK.dflt EK.whole))) (h15:decide (l.getD (f-d+j).toNat (EK.dflt EK.whole)<OfNat.ofNat 0)=decide (l.getD (f-d+j).toNat (EK.dflt EK.whole)<0)) (h16:pDD (l.getD (f-d+j).toNat (EK.dflt EK.whole)) (-(l.getD f.toNat (EK.dflt EK.whole)*a.getD j.toNat (EK.dflt EK.whole)))) (h17:r64 (j+1)) {r:Ex × St} (k:zlB (ze6 a b d f g (j+1) (l.set (f-d+j).toNat (l.getD (f-d+j).toNat (EK.dflt EK.whole) + -(l.getD f.toNat (EK.dflt EK.whole)*a.getD j.toNat (EK.dflt EK.whole))))) r):zlB (ze6 a b d f g j l) r:=Loops.go (LS.at okQ 60 [] [0,1,5,6,7,8,24,25] [3,2] [1] (.t h1<|.i h2<|.i h3<|.t h4<|.t h5<|.t h6<|.t h7<|.t h8<|.t h9<|.t h10<|.t h11<|.c h12<|.c h13<|.c h14<|.c h15<|.c h16<|.i h17<|.e) [1,2,3,2,3,4,5,6,7,8,9,10,11,12,13,14,0,0,15,0,16,4,5,10,0,11,10,12,13,14,0,0,15,0,16,4,5,10,0,12,13,14,10,0,0,15,0,16,4,5,10,0,0,0,10,15,0,16,4,5,10,0,0,0,0,17]) k
theorem zpb (a:List Int) (b:Nat) (c d g i:Int) (j:List Int) (h1:¬(i<c)):zlB (ze6 a b c d g i j) (Ex.exit 2,(ze7 a b c d g i j)):=Loops.fin (LS.at okQ 60 [] [0,1,5,6,7,8,24,25] [3,2] [0] (.f h1<|.e) [1]) (fun h=>nomatch h)
theorem zpc (a:List Int) (b:Nat) (c d f:Int) (g:List Int) (j:Int) (l:List Int) (h1:f≥c) (hL1:zlB (ze6 a b c f d (0) g) (Ex.exit 2,(ze7 a b c f d j l))) (h3:r64 (f-1)) {r:Ex × St} (k:zhF (zdh a b c d (f-1) l) r):zhF (zdh a b c d f g) r:=Loops.go (LS.at okQ 60 [] [0,1,5,6,7,8] [3,2] [1] (.t h1<|.v [0,1,5,6,7,8,24,25] [3,2] hL1<|.i h3<|.e) [1,0,2,3]) k
theorem zcN (a:List Int) (b:Nat) (c d g:Int) (i:List Int) (h1:¬(g≥c)):zhF (zdh a b c d g i) (Ex.exit 0,(zdR a b c d g i)):=Loops.fin (LS.at okQ 60 [] [0,1,5,6,7,8] [3,2] [0] (.f h1<|.e) [1]) (fun h=>nomatch h)
theorem rda_0 (a b:Int) (c:List Int) (d f:Int) (g:List Int) (h1:r64 ((1:Int))) (h2:c≠[]) (h3:(0+c.length)*32≤140737488355328) (h4:0+c.length≤4611686018427387904) (h5:r64 ((↑(0+c.length):Int)-1)) (hL1:zhF (zdh ([a,b]) (0+c.length) ((1:Int)) d ((↑(0+c.length):Int)-1) (List.take 0 []++c)) (Ex.exit 0,(zdR ([a,b]) (0+c.length) ((1:Int)) d f g))) (h7:0≤(1:Int)) (h8:(1:Int)≤4) (h9:0≤if(↑(0+c.length):Int)<(1:Int) then(↑(0+c.length):Int) else(1:Int)) (h10:(if(↑(0+c.length):Int)<(1:Int) then(↑(0+c.length):Int) else(1:Int))≤(↑(0+c.length):Int)) (h11:(if(↑(0+c.length):Int)<(1:Int) then(↑(0+c.length):Int) else(1:Int)).toNat≤g.length) (h12:(if(↑(0+c.length):Int)<(1:Int) then(↑(0+c.length):Int) else(1:Int)).toNat≤((1:Int)-0).toNat) (h13:d<0) (h14:pNu (-(tL c (1:Int) g).getD 0 0) 0 0 0 (-d)):FC Tryz.prog 134 [reA (.lst .whole [a,b]),.lst .whole c,W d] (loA (-(tL c (1:Int) g).getD 0 0) 0 0 0 (-d)):=fZ okQ 60 [1] (.i h1<|.c (congrArg Bool.not (zbo h2))<|.t h3<|.t h4<|.i h5<|.v [0,1,5,6,7,8] [3,2] hL1<|.t h7<|.t h8<|.t h9<|.t h10<|.t h11<|.t h12<|.t h13<|.c h14<|.o<|.e) [1,2,3,4,0,5,0,6,0,7,8,9,10,11,12,13,0,0,0,0,0,0,0,0,0,0,0,0,0,0,0,0,0,0,0,0,0,0,0,0,0,0,0,0,0,0,0,0,0,0,0,14]
theorem rda_1 (a b:Int) (c:List Int) (d g:Int) (j:List Int) (h1:r64 ((1:Int))) (h2:c≠[]) (h3:(0+c.length)*32≤140737488355328) (h4:0+c.length≤4611686018427387904) (h5:r64 ((↑(0+c.length):Int)-1)) (hL1:zhF (zdh ([a,b]) (0+c.length) ((1:Int)) d ((↑(0+c.length):Int)-1) (List.take 0 []++c)) (Ex.exit 0,(zdR ([a,b]) (0+c.length) ((1:Int)) d g j))) (h7:0≤(1:Int)) (h8:(1:Int)≤4) (h9:0≤if(↑(0+c.length):Int)<(1:Int) then(↑(0+c.length):Int) else(1:Int)) (h10:(if(↑(0+c.length):Int)<(1:Int) then(↑(0+c.length):Int) else(1:Int))≤(↑(0+c.length):Int)) (h11:(if(↑(0+c.length):Int)<(1:Int) then(↑(0+c.length):Int) else(1:Int)).toNat≤j.length) (h12:(if(↑(0+c.length):Int)<(1:Int) then(↑(0+c.length):Int) else(1:Int)).toNat≤((1:Int)-0).toNat) (h13:¬(d<0)) (h14:pNu ((tL c (1:Int) j).getD 0 0) 0 0 0 d):FC Tryz.prog 134 [reA (.lst .whole [a,b]),.lst .whole c,W d] (loA ((tL c (1:Int) j).getD 0 0) 0 0 0 d):=fZ okQ 60 [0] (.i h1<|.c (congrArg Bool.not (zbo h2))<|.t h3<|.t h4<|.i h5<|.v [0,1,5,6,7,8] [3,2] hL1<|.t h7<|.t h8<|.t h9<|.t h10<|.t h11<|.t h12<|.f h13<|.c h14<|.e) [1,2,3,4,0,5,0,6,0,7,8,9,10,11,12,13,0,0,0,0,0,14]
abbrev rdb_L1 (s:St) (r:Ex × St):Prop:=Loops 4 Tryz.prog (pZ Tryz.prog 134 0) s r
abbrev zjY (a:List Int) (b:Nat) (c d e:Int) (f:List Int):St:=⟨sp 89 [(0,.pd [aJ,aJ,aJ,aJ,.lst EK.whole a,aJ,aJ,aJ,aJ,aJ,aJ,aJ] 0),(1,.own 3 0 b 2),(5,.ref 0 0),(6,.ref 1 0),(7,aI c),(8,aI e)],[.flat [aD d,.wd d] true,.flat [aF,aN,aF,aN,aF,aN,aF,aN,aF,aN] true,.dead,.lst EK.whole f true],[3,2]⟩
abbrev zhH (a:List Int) (b:Nat) (c d e:Int) (f:List Int):St:=⟨sp 89 [(0,.pd [aJ,aJ,aJ,aJ,.lst EK.whole a,aJ,aJ,aJ,aJ,aJ,aJ,aJ] 0),(1,.own 3 0 b 2),(5,.ref 0 0),(6,.ref 1 0),(7,aI c),(8,aI e)],[.flat [aD d,.wd d] true,.flat [aF,aN,aF,aN,aF,aN,aF,aN,aF,aN] true,.dead,.lst EK.whole f true],[3,2]⟩
theorem rdb_0 (a b f:Int) (c:List Int) (d g:Int) (j:List Int) (h1:r64 ((2:Int))) (h2:c≠[]) (h3:(0+c.length)*32≤140737488355328) (h4:0+c.length≤4611686018427387904) (h5:r64 ((↑(0+c.length):Int)-1)) (hL1:rdb_L1 (zjY ([a,b,f]) (0+c.length) ((2:Int)) d ((↑(0+c.length):Int)-1) (List.take 0 []++c)) (Ex.exit 0,(zhH ([a,b,f]) (0+c.length) ((2:Int)) d g j))) (h7:0≤(2:Int)) (h8:(2:Int)≤4) (h9:0≤if(↑(0+c.length):Int)<(2:Int) then(↑(0+c.length):Int) else(2:Int)) (h10:(if(↑(0+c.length):Int)<(2:Int) then(↑(0+c.length):Int) else(2:Int))≤(↑(0+c.length):Int)) (h11:(if(↑(0+c.length):Int)<(2:Int) then(↑(0+c.length):Int) else(2:Int)).toNat≤j.length) (h12:(if(↑(0+c.length):Int)<(2:Int) then(↑(0+c.length):Int) else(2:Int)).toNat≤((2:Int)-0).toNat) (h13:d<0) (h14:pNu (-(tL c (2:Int) j).getD 0 0) (-(tL c (2:Int) j).getD 1 0) 0 0 (-d)):FC Tryz.prog 134 [reA (.lst .whole [a,b,f]),.lst .whole c,W d] (loA (-(tL c (2:Int) j).getD 0 0) (-(tL c (2:Int) j).getD 1 0) 0 0 (-d)):=fZ okQ 60 [1] (.i h1<|.c (congrArg Bool.not (zbo h2))<|.t h3<|.t h4<|.i h5<|.v [0,1,5,6,7,8] [3,2] hL1<|.t h7<|.t h8<|.t h9<|.t h10<|.t h11<|.t h12<|.t h13<|.c h14<|.o<|.e) [1,2,3,4,0,5,0,6,0,7,8,9,10,11,12,13,0,0,0,0,0,0,0,0,0,0,0,0,0,0,0,0,0,0,0,0,0,0,0,0,0,0,0,0,0,0,0,0,0,0,0,14]
theorem rdb_1 (a b g:Int) (c:List Int) (d j:Int) (l:List Int) (h1:r64 ((2:Int))) (h2:c≠[]) (h3:(0+c.length)*32≤140737488355328) (h4:0+c.length≤4611686018427387904) (h5:r64 ((↑(0+c.length):Int)-1)) (hL1:rdb_L1 (zjY ([a,b,g]) (0+c.length) ((2:Int)) d ((↑(0+c.length):Int)-1) (List.take 0 []++c)) (Ex.exit 0,(zhH ([a,b,g]) (0+c.length) ((2:Int)) d j l))) (h7:0≤(2:Int)) (h8:(2:Int)≤4) (h9:0≤if(↑(0+c.length):Int)<(2:Int) then(↑(0+c.length):Int) else(2:Int)) (h10:(if(↑(0+c.length):Int)<(2:Int) then(↑(0+c.length):Int) else(2:Int))≤(↑(0+c.length):Int)) (h11:(if(↑(0+c.length):Int)<(2:Int) then(↑(0+c.length):Int) else(2:Int)).toNat≤l.length) (h12:(if(↑(0+c.length):Int)<(2:Int) then(↑(0+c.length):Int) else(2:Int)).toNat≤((2:Int)-0).toNat) (h13:¬(d<0)) (h14:pNu ((tL c (2:Int) l).getD 0 0) ((tL c (2:Int) l).getD 1 0) 0 0 d):FC Tryz.prog 134 [reA (.lst .whole [a,b,g]),.lst .whole c,W d] (loA ((tL c (2:Int) l).getD 0 0) ((tL c (2:Int) l).getD 1 0) 0 0 d):=fZ okQ 60 [0] (.i h1<|.c (congrArg Bool.not (zbo h2))<|.t h3<|.t h4<|.i h5<|.v [0,1,5,6,7,8] [3,2] hL1<|.t h7<|.t h8<|.t h9<|.t h10<|.t h11<|.t h12<|.f h13<|.c h14<|.e) [1,2,3,4,0,5,0,6,0,7,8,9,10,11,12,13,0,0,0,0,0,14]
abbrev rdc_L1 (s:St) (r:Ex × St):Prop:=Loops 4 Tryz.prog (pZ Tryz.prog 134 0) s r
abbrev zjZ (a:List Int) (b:Nat) (c d e:Int) (f:List Int):St:=⟨sp 89 [(0,.pd [aJ,aJ,aJ,aJ,.lst EK.whole a,aJ,aJ,aJ,aJ,aJ,aJ,aJ] 0),(1,.own 3 0 b 2),(5,.ref 0 0),(6,.ref 1 0),(7,aI c),(8,aI e)],[.flat [aD d,.wd d] true,.flat [aF,aN,aF,aN,aF,aN,aF,aN,aF,aN] true,.dead,.lst EK.whole f true],[3,2]⟩
abbrev zhI (a:List Int) (b:Nat) (c d e:Int) (f:List Int):St:=⟨sp 89 [(0,.pd [aJ,aJ,aJ,aJ,.lst EK.whole a,aJ,aJ,aJ,aJ,aJ,aJ,aJ] 0),(1,.own 3 0 b 2),(5,.ref 0 0),(6,.ref 1 0),(7,aI c),(8,aI e)],[.flat [aD d,.wd d] true,.flat [aF,aN,aF,aN,aF,aN,aF,aN,aF,aN] true,.dead,.lst EK.whole f true],[3,2]⟩
theorem rdc_0 (a b f g:Int) (c:List Int) (d j:Int) (l:List Int) (h1:r64 ((3:Int))) (h2:c≠[]) (h3:(0+c.length)*32≤140737488355328) (h4:0+c.length≤4611686018427387904) (h5:r64 ((↑(0+c.length):Int)-1)) (hL1:rdc_L1 (zjZ ([a,b,f,g]) (0+c.length) ((3:Int)) d ((↑(0+c.length):Int)-1) (List.take 0 []++c)) (Ex.exit 0,(zhI ([a,b,f,g]) (0+c.length) ((3:Int)) d j l))) (h7:0≤(3:Int)) (h8:(3:Int)≤4) (h9:0≤if(↑(0+c.length):Int)<(3:Int) then(↑(0+c.length):Int) else(3:Int)) (h10:(if(↑(0+c.length):Int)<(3:Int) then(↑(0+c.length):Int) else(3:Int))≤(↑(0+c.length):Int)) (h11:(if(↑(0+c.length):Int)<(3:Int) then(↑(0+c.length):Int) else(3:Int)).toNat≤l.length) (h12:(if(↑(0+c.length):Int)<(3:Int) then(↑(0+c.length):Int) else(3:Int)).toNat≤((3:Int)-0).toNat) (h13:d<0) (h14:pNu (-(tL c (3:Int) l).getD 0 0) (-(tL c (3:Int) l).getD 1 0) (-(tL c (3:Int) l).getD 2 0) 0 (-d)):FC Tryz.prog 134 [reA (.lst .whole [a,b,f,g]),.lst .whole c,W d] (loA (-(tL c (3:Int) l).getD 0 0) (-(tL c (3:Int) l).getD 1 0) (-(tL c (3:Int) l).getD 2 0) 0 (-d)):=fZ okQ 60 [1] (.i h1<|.c (congrArg Bool.not (zbo h2))<|.t h3<|.t h4<|.i h5<|.v [0,1,5,6,7,8] [3,2] hL1<|.t h7<|.t h8<|.t h9<|.t h10<|.t h11<|.t h12<|.t h13<|.c h14<|.o<|.e) [1,2,3,4,0,5,0,6,0,7,8,9,10,11,12,13,0,0,0,0,0,0,0,0,0,0,0,0,0,0,0,0,0,0,0,0,0,0,0,0,0,0,0,0,0,0,0,0,0,0,0,14]
theorem rdc_1 (a b g j:Int) (c:List Int) (d l:Int) (m:List Int) (h1:r64 ((3:Int))) (h2:c≠[]) (h3:(0+c.length)*32≤140737488355328) (h4:0+c.length≤4611686018427387904) (h5:r64 ((↑(0+c.length):Int)-1)) (hL1:rdc_L1 (zjZ ([a,b,g,j]) (0+c.length) ((3:Int)) d ((↑(0+c.length):Int)-1) (List.take 0 []++c)) (Ex.exit 0,(zhI ([a,b,g,j]) (0+c.length) ((3:Int)) d l m))) (h7:0≤(3:Int)) (h8:(3:Int)≤4) (h9:0≤if(↑(0+c.length):Int)<(3:Int) then(↑(0+c.length):Int) else(3:Int)) (h10:(if(↑(0+c.length):Int)<(3:Int) then(↑(0+c.length):Int) else(3:Int))≤(↑(0+c.length):Int)) (h11:(if(↑(0+c.length):Int)<(3:Int) then(↑(0+c.length):Int) else(3:Int)).toNat≤m.length) (h12:(if(↑(0+c.length):Int)<(3:Int) then(↑(0+c.length):Int) else(3:Int)).toNat≤((3:Int)-0).toNat) (h13:¬(d<0)) (h14:pNu ((tL c (3:Int) m).getD 0 0) ((tL c (3:Int) m).getD 1 0) ((tL c (3:Int) m).getD 2 0) 0 d):FC Tryz.prog 134 [reA (.lst .whole [a,b,g,j]),.lst .whole c,W d] (loA ((tL c (3:Int) m).getD 0 0) ((tL c (3:Int) m).getD 1 0) ((tL c (3:Int) m).getD 2 0) 0 d):=fZ okQ 60 [0] (.i h1<|.c (congrArg Bool.not (zbo h2))<|.t h3<|.t h4<|.i h5<|.v [0,1,5,6,7,8] [3,2] hL1<|.t h7<|.t h8<|.t h9<|.t h10<|.t h11<|.t h12<|.f h13<|.c h14<|.e) [1,2,3,4,0,5,0,6,0,7,8,9,10,11,12,13,0,0,0,0,0,14]
abbrev rdd_L1 (s:St) (r:Ex × St):Prop:=Loops 4 Tryz.prog (pZ Tryz.prog 134 0) s r
abbrev zj0 (a:List Int) (b:Nat) (c d e:Int) (f:List Int):St:=⟨sp 89 [(0,.pd [aJ,aJ,aJ,aJ,.lst EK.whole a,aJ,aJ,aJ,aJ,aJ,aJ,aJ] 0),(1,.own 3 0 b 2),(5,.ref 0 0),(6,.ref 1 0),(7,aI c),(8,aI e)],[.flat [aD d,.wd d] true,.flat [aF,aN,aF,aN,aF,aN,aF,aN,aF,aN] true,.dead,.lst EK.whole f true],[3,2]⟩
abbrev zhJ (a:List Int) (b:Nat) (c d e:Int) (f:List Int):St:=⟨sp 89 [(0,.pd [aJ,aJ,aJ,aJ,.lst EK.whole a,aJ,aJ,aJ,aJ,aJ,aJ,aJ] 0),(1,.own 3 0 b 2),(5,.ref 0 0),(6,.ref 1 0),(7,aI c),(8,aI e)],[.flat [aD d,.wd d] true,.flat [aF,aN,aF,aN,aF,aN,aF,aN,aF,aN] true,.dead,.lst EK.whole f true],[3,2]⟩
theorem rdd_0 (a b f g j:Int) (c:List Int) (d l:Int) (m:List Int) (h1:r64 ((4:Int))) (h2:c≠[]) (h3:(0+c.length)*32≤140737488355328) (h4:0+c.length≤4611686018427387904) (h5:r64 ((↑(0+c.length):Int)-1)) (hL1:rdd_L1 (zj0 ([a,b,f,g,j]) (0+c.length) ((4:Int)) d ((↑(0+c.length):Int)-1) (List.take 0 []++c)) (Ex.exit 0,(zhJ ([a,b,f,g,j]) (0+c.length) ((4:Int)) d l m))) (h7:0≤(4:Int)) (h8:(4:Int)≤4) (h9:0≤if(↑(0+c.length):Int)<(4:Int) then(↑(0+c.length):Int) else(4:Int)) (h10:(if(↑(0+c.length):Int)<(4:Int) then(↑(0+c.length):Int) else(4:Int))≤(↑(0+c.length):Int)) (h11:(if(↑(0+c.length):Int)<(4:Int) then(↑(0+c.length):Int) else(4:Int)).toNat≤m.length) (h12:(if(↑(0+c.length):Int)<(4:Int) then(↑(0+c.length):Int) else(4:Int)).toNat≤((4:Int)-0).toNat) (h13:d<0) (h14:pNu (-(tL c (4:Int) m).getD 0 0) (-(tL c (4:Int) m).getD 1 0) (-(tL c (4:Int) m).getD 2 0) (-(tL c (4:Int) m).getD 3 0) (-d)):FC Tryz.prog 134 [reA (.lst .whole [a,b,f,g,j]),.lst .whole c,W d] (loA (-(tL c (4:Int) m).getD 0 0) (-(tL c (4:Int) m).getD 1 0) (-(tL c (4:Int) m).getD 2 0) (-(tL c (4:Int) m).getD 3 0) (-d)):=fZ okQ 60 [1] (.i h1<|.c (congrArg Bool.not (zbo h2))<|.t h3<|.t h4<|.i h5<|.v [0,1,5,6,7,8] [3,2] hL1<|.t h7<|.t h8<|.t h9<|.t h10<|.t h11<|.t h12<|.t h13<|.c h14<|.o<|.e) [1,2,3,4,0,5,0,6,0,7,8,9,10,11,12,13,0,0,0,0,0,0,0,0,0,0,0,0,0,0,0,0,0,0,0,0,0,0,0,0,0,0,0,0,0,0,0,0,0,0,0,14]
theorem rdd_1 (a b g j l:Int) (c:List Int) (d m:Int) (n:List Int) (h1:r64 ((4:Int))) (h2:c≠[]) (h3:(0+c.length)*32≤140737488355328) (h4:0+c.length≤4611686018427387904) (h5:r64 ((↑(0+c.length):Int)-1)) (hL1:rdd_L1 (zj0 ([a,b,g,j,l]) (0+c.length) ((4:Int)) d ((↑(0+c.length):Int)-1) (List.take 0 []++c)) (Ex.exit 0,(zhJ ([a,b,g,j,l]) (0+c.length) ((4:Int)) d m n))) (h7:0≤(4:Int)) (h8:(4:Int)≤4) (h9:0≤if(↑(0+c.length):Int)<(4:Int) then(↑(0+c.length):Int) else(4:Int)) (h10:(if(↑(0+c.length):Int)<(4:Int) then(↑(0+c.length):Int) else(4:Int))≤(↑(0+c.length):Int)) (h11:(if(↑(0+c.length):Int)<(4:Int) then(↑(0+c.length):Int) else(4:Int)).toNat≤n.length) (h12:(if(↑(0+c.length):Int)<(4:Int) then(↑(0+c.length):Int) else(4:Int)).toNat≤((4:Int)-0).toNat) (h13:¬(d<0)) (h14:pNu ((tL c (4:Int) n).getD 0 0) ((tL c (4:Int) n).getD 1 0) ((tL c (4:Int) n).getD 2 0) ((tL c (4:Int) n).getD 3 0) d):FC Tryz.prog 134 [reA (.lst .whole [a,b,g,j,l]),.lst .whole c,W d] (loA ((tL c (4:Int) n).getD 0 0) ((tL c (4:Int) n).getD 1 0) ((tL c (4:Int) n).getD 2 0) ((tL c (4:Int) n).getD 3 0) d):=fZ okQ 60 [0] (.i h1<|.c (congrArg Bool.not (zbo h2))<|.t h3<|.t h4<|.i h5<|.v [0,1,5,6,7,8] [3,2] hL1<|.t h7<|.t h8<|.t h9<|.t h10<|.t h11<|.t h12<|.f h13<|.c h14<|.e) [1,2,3,4,0,5,0,6,0,7,8,9,10,11,12,13,0,0,0,0,0,14]
end
open Go.Kf
def zjA (q c:List Int) (i n:Nat):Nat→List Int
  | 0=>c
  | k+1=>(zjA q c i n k).set (i-n+k) ((zjA q c i n k).getD (i-n+k) 0 + -((zjA q c i n k).getD i 0*q.getD k 0))
theorem zeV (q c:List Int) (i n:Nat):∀k,(zjA q c i n k).length=c.length
  | 0=>rfl
  | k+1=>by simp [zjA,zeV q c i n k]
theorem zgE {q c:List Int} {i n:Nat} (hn:n≤i) (hi:i<c.length):∀k,k≤n→∀j,(zjA q c i n k).getD j 0=if i-n≤j∧j<i-n+k then c.getD j 0 + -(c.getD i 0*q.getD (j-(i-n)) 0) else c.getD j 0
  | 0,_,j=>by
    rw [if_neg (by omega)];rfl
  | k + 1,hk,j=>by
    have ih:=zgE (q:=q) hn hi k (by omega)
    have hl:=zeV q c i n k
    unfold zjA
    by_cases hj:j=i-n+k
    · subst hj
      rw [List.getD_eq_getElem?_getD,List.getElem?_set_self (by omega),Option.getD_some,ih,ih,if_neg (by omega),if_neg (by omega),if_pos (by omega),show i-n+k-(i-n)=k by omega]
    · rw [List.getD_eq_getElem?_getD,List.getElem?_set_ne (by omega),← List.getD_eq_getElem?_getD,ih]
      by_cases h:i-n≤j∧j<i-n+k
      · rw [if_pos h,if_pos (by omega)]
      · rw [if_neg h,if_neg (by omega)]
def ouR (q:List Int) (n:Nat) (c:List Int):Nat→List Int
  | 0=>c
  | s+1=>zjA q (ouR q n c s) (c.length-1-s) n n
theorem zdN (q:List Int) (n:Nat) (c:List Int):∀s,(ouR q n c s).length=c.length
  | 0=>rfl
  | s+1=>by unfold ouR;rw [zeV,zdN q n c s]
def zaq (q:List Int) (n:Nat) (c:List Int):List Int:=(ouR q n c (c.length-n)).take n
theorem zff (q:List Int) (n:Nat) (c:List Int):(zaq q n c).length≤n:=by unfold zaq;rw [List.length_take];omega
theorem zhA {q:List Int} {n A:Nat} {c:List Int} (hq:∀j,Sz 1 (q.getD j 0)) (hc:∀j,Sz A (c.getD j 0)):∀s,s+n≤c.length→∀j,Sz (A+2*s) ((ouR q n c s).getD j 0)
  | 0,_,j=>hc j
  | s+1,hs,j=>by
    have ih:=zhA (n:=n) (c:=c) hq hc s (by omega)
    have hl:=zdN q n c s
    unfold ouR
    rw [zgE (by omega) (by omega) n (Nat.le_refl _)]
    split
    · exact Sz.add (ih _) ((ih _).mul (hq _)).neg (by omega) (by omega)
    · exact(ih j).mono (by omega)
theorem zn3:∀(q:List Int) (t:Int) (l:List Int) (j:Nat),(zipS q t l).getD j 0=if j<q.length∧j<l.length then l.getD j 0 + -(t*q.getD j 0) else l.getD j 0
  | [],t,l,j=>by
    rw [if_neg (by simp)]
    cases l<;>rfl
  | _ :: _,_,[],j=>by rw [if_neg (by simp)];rfl
  | q :: qs,t,x :: l,0=>by rw [if_pos (by simp)];rfl
  | q :: qs,t,x :: l,j+1=>by
    have:=zn3 qs t l j
    simp only [zipS,List.getD_cons_succ,List.length_cons,Nat.add_lt_add_iff_right]
    exact this
theorem znF:∀(q:List Int) (t:Int) (k:Nat) (l:List Int) (j:Nat),(red1 q t k l).getD j 0=if k≤j∧j<k+q.length∧j<l.length then l.getD j 0 + -(t*q.getD (j-k) 0) else l.getD j 0
  | q,t,0,l,j=>by
    have:=zn3 q t l j
    show(zipS q t l).getD j 0=_
    rw [this]
    by_cases h:j<q.length∧j<l.length
    · rw [if_pos h,if_pos (by omega)];rfl
    · rw [if_neg h,if_neg (by omega)]
  | q,t,k+1,[],j=>by rw [if_neg (by simp)];rfl
  | q,t,k+1,x :: l,0=>by rw [if_neg (by omega)];rfl
  | q,t,k+1,x :: l,j+1=>by
    have:=znF q t k l j
    show(red1 q t k l).getD j 0=_
    rw [this]
    simp only [List.length_cons,List.getD_cons_succ,Nat.add_le_add_iff_right,show j+1<k+1+q.length↔j<k+q.length by omega,Nat.add_lt_add_iff_right,Nat.add_sub_add_right]
theorem ext_getD {a b:List Int} (hl:a.length=b.length) (h:∀j,a.getD j 0=b.getD j 0):a=b:=by
  apply List.ext_getElem hl
  intro i h1 h2
  have:=h i
  simpa [List.getD,h1,h2] using this
theorem zby (l:List Int) (n j:Nat):(l.take n).getD j 0=if j<n then l.getD j 0 else 0:=by
  by_cases h:j<n
  · rw [if_pos h];simp [List.getD,List.getElem?_take,h]
  · rw [if_neg h];simp [List.getD,List.getElem?_take,h]
theorem inR1_ev {q C:List Int} {i n:Nat} (h1:1≤n) (hq:n≤q.length) (hn:n≤i) (hi:i<C.length):ev n (pV (q.take n)) (qL ((zjA q C i n n).take i))=ev n (pV (q.take n)) (qL (C.take (i+1))):=by
  have hl:=zeV q C i n n
  have hqn:(q.take n).length=n:=by rw [List.length_take];omega
  have e:(zjA q C i n n).take i=red1 (q.take n) (C.getD i 0) (i-n) (C.take i):=by
    refine ext_getD ?_ fun j=>?_
    · rw [zhL,List.length_take,List.length_take,hl]
    · rw [zby,znF,hqn,List.length_take,zby,zgE hn hi n (Nat.le_refl _)]
      by_cases hj:j<i
      · rw [if_pos hj,if_pos hj]
        by_cases h:i-n≤j
        · rw [if_pos (by omega),if_pos (by omega),zby,if_pos (by omega)]
        · rw [if_neg (by omega),if_neg (by omega)]
      · rw [if_neg hj,if_neg hj,if_neg (by omega)]
  have hs:=ev_step (q:=q.take n) (by omega) (k:=i-n) (c:=C.take (i+1)) (by rw [hqn,List.length_take];omega)
  rw [hqn] at hs
  have d1:(C.take (i+1)).dropLast=C.take i:=by
    rw [List.dropLast_eq_take,List.length_take,List.take_take];congr 1;omega
  have d2:(C.take (i+1)).getLastD 0=C.getD i 0:=by
    rw [List.getLastD_eq_getLast?,List.getLast?_take]
    simp [List.getD,hi]
  rw [d1,d2,← e] at hs
  exact hs
theorem ouR_ev {q c:List Int} {n:Nat} (h1:1≤n) (hq:n≤q.length):∀s,s+n≤c.length→ev n (pV (q.take n)) (qL ((ouR q n c s).take (c.length-s)))=ev n (pV (q.take n)) (qL c)
  | 0,_=>by rw [Nat.sub_zero];show ev _ _ (qL (c.take c.length))=_;rw [List.take_length]
  | s+1,hs=>by
    have hl:=zdN q n c s
    have ih:=ouR_ev (c:=c) h1 hq s (by omega)
    have:=inR1_ev (q:=q) (C:=ouR q n c s) (i:=c.length-1-s) h1 hq (by omega) (by omega)
    rw [show c.length-(s+1)=c.length-1-s by omega]
    unfold ouR
    rw [this,show c.length-1-s+1=c.length-s by omega,ih]
theorem redP_ev {q c:List Int} {n:Nat} (h1:1≤n) (hq:n≤q.length):ev n (pV (q.take n)) (qL (zaq q n c))=ev n (pV (q.take n)) (qL c):=by
  unfold zaq
  by_cases h:n≤c.length
  · have:=ouR_ev (c:=c) h1 hq (c.length-n) (by omega)
    rw [show c.length-(c.length-n)=n by omega] at this
    exact this
  · rw [show c.length-n=0 by omega,show(ouR q n c 0).take n=c from List.take_of_length_le (by show c.length≤n;omega)]
theorem rda_in {p:List Int} {n i A:Nat} {d:Int} {C:List Int} (hn:n≤i) (hi:i<C.length) (hp:n<p.length) (hm:C.length≤1000) (hA:A≤40000) (hC:∀j,Sz A (C.getD j 0)) (hq:∀j,Sz 1 (p.getD j 0)):∀(m k:Nat),k+m=n →
    zlB (ze6 p C.length n i d k (zjA p C i n k)) (Ex.exit 2,ze7 p C.length n i d n (zjA p C i n n))
  | 0,k,hk=>by
    obtain rfl:k=n:=by omega
    exact zpb p C.length k i d k _ (by omega)
  | m + 1,k,hk=>by
    have ih:=rda_in (d:=d) hn hi hp hm hA hC hq m (k+1) (by omega)
    have e1:Int.toNat ((i:Int)-(n:Int)+(k:Int))=i-n+k:=by omega
    have e2:Int.toNat (i:Int)=i:=rfl
    have e3:Int.toNat (k:Int)=k:=rfl
    have hl:=zeV p C i n k
    have g:=zgE (q:=p) hn hi k (by omega)
    have gi:(zjA p C i n k).getD i 0=C.getD i 0:=by rw [g,if_neg (by omega)]
    have gk:(zjA p C i n k).getD (i-n+k) 0=C.getD (i-n+k) 0:=by rw [g,if_neg (by omega)]
    have fz:∀ {z:Int} {j:Nat},Sz j z→j≤1048576→zaK z:=fun h h2=>vZ h h2
    have go:=@zpa p C.length n i d k (zjA p C i n k) (by omega) (by omega) (by omega) (by omega) (by omega) (by omega) (by omega) (by omega) (by omega) (by rw [e1,hl];omega) (by rw [e2,hl];omega) rfl rfl
      (by rw [e2,e3];show pDD ((zjA p C i n k).getD i 0) (p.getD k 0);rw [gi];exact ⟨fz (hC i) (by omega),fz (hq k) (by omega)⟩) rfl
      (by
        rw [e1,e2,e3]
        show pDD ((zjA p C i n k).getD (i-n+k) 0) (-((zjA p C i n k).getD i 0*p.getD k 0))
        rw [gi,gk]
        exact ⟨fz (hC _) (by omega),fz ((hC i).mul (hq k)).neg (by omega)⟩) (by omega) (Ex.exit 2,ze7 p C.length n i d n (zjA p C i n n))
    rw [e1,e2,e3] at go
    exact go ih
theorem zhG {p:List Int} {n A:Nat} {d:Int} {c:List Int} (hp:n<p.length) (hm:c.length≤1000) (hA:A+2*c.length≤40000) (hC:∀j,Sz A (c.getD j 0)) (hq:∀j,Sz 1 (p.getD j 0)):∀(m s:Nat),s+m=c.length-n→n≤c.length →
    ∃t,zhF (zdh p c.length n d ((c.length:Int)-1-(s:Int)) (ouR p n c s)) (Ex.exit 0,zdR p c.length n d t (ouR p n c (c.length-n)))
  | 0,s,hs,hn=>by
    obtain rfl:s=c.length-n:=by omega
    exact ⟨_,zcN p c.length n d _ _ (by omega)⟩
  | m+1,s,hs,hn=>by
    obtain ⟨t,ih⟩:=zhG (d:=d) hp hm hA hC hq m (s+1) (by omega) hn
    have hl:=zdN p n c s
    have e:(c.length:Int)-1-(s:Int)=((c.length-1-s:Nat):Int):=by omega
    have K:=rda_in (p:=p) (n:=n) (i:=c.length-1-s) (A:=A+2*s) (d:=d) (C:=ouR p n c s) (by omega) (by omega) hp (by omega) (by omega) (zhA hq hC s (by omega)) hq n 0 (by omega)
    rw [hl] at K
    refine ⟨t,?_⟩
    rw [e]
    refine zpc p c.length n d ((c.length-1-s:Nat):Int) (ouR p n c s) n (ouR p n c (s+1)) (by omega) K (by omega) ?_
    rw [show((c.length-1-s:Nat):Int)-1=(c.length:Int)-1-((s+1:Nat):Int) by omega]
    exact ih
def sgD (d x:Int):Int:=if d<0 then -x else x
def nuF (c:List Int) (d:Int):AV:=nuA (loC c d 0) (loC c d 1) (loC c d 2) (loC c d 3) (loD c d)
theorem gc5_gL (a b c e d:Int):gc5 a b c e d=(gL d.natAbs [a,b,c,e]:Int):=by
  unfold gc5 gL gL gL gL gL
  simp [Int.gcd]
theorem gc5_neg (a b c e d:Int):gc5 (-a) (-b) (-c) (-e) (-d)=gc5 a b c e d:=by
  unfold gc5;simp [Int.gcd]
theorem zld {a b c e d a' b' c' e' d':Int} (h1:a=a') (h2:b=b') (h3:c=c') (h4:e=e') (h5:d=d'):nuA a b c e d=nuA a' b' c' e' d':=by rw [h1,h2,h3,h4,h5]
theorem zc5 {a b c e d:Int}:loA (sgD d a) (sgD d b) (sgD d c) (sgD d e) (sgD d d)=nuF [a,b,c,e] d:=by
  obtain ⟨hd,hc⟩:=zfR [a,b,c,e] d
  have h0:=hc 0;have h1:=hc 1;have h2:=hc 2;have h3:=hc 3
  unfold loA nuF loC loD
  by_cases h:d<0
  · have s:∀x,sgD d x = -x:=fun x=>if_pos h
    have g:dvs [a,b,c,e] d = -(gc5 a b c e d):=by rw [gc5_gL];unfold dvs;rw [if_pos h]
    rw [g] at hd h0 h1 h2 h3 ⊢
    simp only [s,gc5_neg]
    have key:∀x:Int,-(gc5 a b c e d)∣x→-x / gc5 a b c e d=x / -(gc5 a b c e d):=fun x hx=>by
      rw [Int.ediv_neg,Int.neg_ediv_of_dvd (Int.neg_dvd.1 hx)]
    exact zld (key _ h0) (key _ h1) (key _ h2) (key _ h3) (key _ hd)
  · have s:∀x,sgD d x=x:=fun x=>if_neg h
    have g:dvs [a,b,c,e] d=gc5 a b c e d:=by rw [gc5_gL];unfold dvs;rw [if_neg h]
    rw [g]
    simp only [s]
    rfl
theorem zdJ {c c':List Int} {d:Int} (h0:d≠0) (h:∀i,c.getD i 0=c'.getD i 0):nuF c d=nuF c' d:=by
  obtain ⟨h1,h2⟩:=lo_eq (c:=c) (c':=c') h0 h0 (fun i=>by rw [h i])
  unfold nuF
  exact zld (h2 0) (h2 1) (h2 2) (h2 3) h1
theorem Le.zlW_lst (l:List Int):Le (.zl .W l) (.lst .whole l):=fun E v h=>by
  cases h with
  | zl h=>exact .lst (by rw [zd3];exact h)
def zmC (p c:List Int) (d:Int):Prop:=(2≤p.length∧p.length≤5∧∀x∈p,x.natAbs≤1000)∧c≠[]∧c.length≤100∧(∀j,Sz 20000 (c.getD j 0))∧d≠0∧Sz 20000 d
theorem tkMin {n m:Nat} {r:List Int} {x:Int} (hx:x=(n:Int)) (hr:r.length=m):List.take (Int.toNat (if(↑(0+m):Int)<x then(↑(0+m):Int) else x)) r=r.take n:=by
  subst hx
  split
  · rw [show Int.toNat ((0+m:Nat):Int)=m by omega,List.take_of_length_le (by omega),List.take_of_length_le (by omega)]
  · rfl
theorem red_a (p0 p1:Int) (c:List Int) (d:Int) (h:zmC [p0,p1] c d):FC Tryz.prog 134 [reA (.lst .whole [p0,p1]),.lst .whole c,W d] (nuF (zaq [p0,p1] 1 c) d):=by
  obtain ⟨⟨_,_,ha⟩,hne,hl,hC,hd,hsd⟩:=h
  have hq:∀j,Sz 1 (([p0,p1]).getD j 0):=fun j=>by
    rw [List.getD_eq_getElem?_getD]
    by_cases hj:j<([p0,p1]).length
    · rw [List.getElem?_eq_getElem hj];have:=ha _ (List.getElem_mem hj);exact Sz.lit (by simpa using Nat.lt_of_le_of_lt this (by decide)) (by decide)
    · rw [List.getElem?_eq_none (by omega)];exact Sz.zero
  have hN:((List.length [p0,p1]:Int)-1)=((1:Nat):Int):=by simp
  have hlr:∀s,(ouR [p0,p1] 1 c s).length=c.length:=zdN _ _ _
  have L:∃t,zhF (zdh [p0,p1] (0+c.length) ((List.length [p0,p1]:Int)-1) d ((↑(0+c.length):Int)-1) (List.take 0 []++c)) (Ex.exit 0,zdR [p0,p1] (0+c.length) ((List.length [p0,p1]:Int)-1) d t (ouR [p0,p1] 1 c (c.length-1))):=by
    rw [Nat.zero_add,show List.take 0 []++c=c by simp]
    by_cases hn:1≤c.length
    · obtain ⟨t,k⟩:=zhG (p:=[p0,p1]) (n:=1) (A:=20000) (d:=d) (c:=c) (by simp) (by omega) (by omega) hC hq (c.length-1) 0 (by omega) hn
      rw [show(c.length:Int)-1-((0:Nat):Int)=(c.length:Int)-1 by omega] at k
      exact ⟨t,k⟩
    · rw [show c.length-1=0 by omega]
      exact ⟨_,zcN [p0,p1] c.length _ d _ c (by show ¬((c.length:Int)-1≥(((1:Nat):Int)+1)-1);omega)⟩
  obtain ⟨t,k⟩:=L
  have hz:∀j,Sz 50000 ((zaq [p0,p1] 1 c).getD j 0):=fun j=>by
    unfold zaq
    rw [zby]
    split
    · by_cases hn:1≤c.length
      · exact(zhA hq hC (c.length-1) (by omega) j).mono (by omega)
      · rw [show c.length-1=0 by omega];exact(hC j).mono (by omega)
    · exact Sz.zero
  have hred:∀x:Int,x=((1:Nat):Int)→tL c x (ouR [p0,p1] 1 c (c.length-1))=zaq [p0,p1] 1 c:=fun x hx=>tkMin hx (hlr _)
  have e5:nuF (zaq [p0,p1] 1 c) d=nuF [(zaq [p0,p1] 1 c).getD 0 0,0,0,0] d:=zdJ hd fun i=>by
    have hlen:=zff [p0,p1] 1 c
    match i with
    | 0=>rfl
    | 1=>rw [List.getD_eq_getElem?_getD,List.getElem?_eq_none (by omega)];rfl
    | 2=>rw [List.getD_eq_getElem?_getD,List.getElem?_eq_none (by omega)];rfl
    | 3=>rw [List.getD_eq_getElem?_getD,List.getElem?_eq_none (by omega)];rfl
    | i+4=>rw [List.getD_eq_getElem?_getD,List.getElem?_eq_none (by omega)];rfl
  rw [e5,← zc5]
  by_cases h0:d<0
  · have s:∀x,sgD d x = -x:=fun x=>if_pos h0
    simp only [s,Int.neg_zero]
    have:=rda_0 p0 p1 c d t (ouR [p0,p1] 1 c (c.length-1)) (by omega) hne (by omega) (by omega) (by omega) k (by omega) (by omega) (by split<;>omega) (by split<;>omega) (by rw [hlr];split<;>omega) (by split<;>omega) h0 (by rw [hred (1:Int) rfl];exact ⟨by omega,(hz 0).neg,Sz.zero,Sz.zero,Sz.zero,hsd.neg.mono (by omega)⟩)
    rw [hred (1:Int) rfl] at this
    exact this
  · have s:∀x,sgD d x=x:=fun x=>if_neg h0
    simp only [s]
    have:=rda_1 p0 p1 c d t (ouR [p0,p1] 1 c (c.length-1)) (by omega) hne (by omega) (by omega) (by omega) k (by omega) (by omega) (by split<;>omega) (by split<;>omega) (by rw [hlr];split<;>omega) (by split<;>omega) h0 (by rw [hred (1:Int) rfl];exact ⟨hd,hz 0,Sz.zero,Sz.zero,Sz.zero,hsd.mono (by omega)⟩)
    rw [hred (1:Int) rfl] at this
    exact this
theorem red_b (p0 p1 p2:Int) (c:List Int) (d:Int) (h:zmC [p0,p1,p2] c d):FC Tryz.prog 134 [reA (.lst .whole [p0,p1,p2]),.lst .whole c,W d] (nuF (zaq [p0,p1,p2] 2 c) d):=by
  obtain ⟨⟨_,_,ha⟩,hne,hl,hC,hd,hsd⟩:=h
  have hq:∀j,Sz 1 (([p0,p1,p2]).getD j 0):=fun j=>by
    rw [List.getD_eq_getElem?_getD]
    by_cases hj:j<([p0,p1,p2]).length
    · rw [List.getElem?_eq_getElem hj];have:=ha _ (List.getElem_mem hj);exact Sz.lit (by simpa using Nat.lt_of_le_of_lt this (by decide)) (by decide)
    · rw [List.getElem?_eq_none (by omega)];exact Sz.zero
  have hN:((List.length [p0,p1,p2]:Int)-1)=((2:Nat):Int):=by simp
  have hlr:∀s,(ouR [p0,p1,p2] 2 c s).length=c.length:=zdN _ _ _
  have L:∃t,rdb_L1 (zjY [p0,p1,p2] (0+c.length) ((List.length [p0,p1,p2]:Int)-1) d ((↑(0+c.length):Int)-1) (List.take 0 []++c)) (Ex.exit 0,zhH [p0,p1,p2] (0+c.length) ((List.length [p0,p1,p2]:Int)-1) d t (ouR [p0,p1,p2] 2 c (c.length-2))):=by
    rw [Nat.zero_add,show List.take 0 []++c=c by simp]
    by_cases hn:2≤c.length
    · obtain ⟨t,k⟩:=zhG (p:=[p0,p1,p2]) (n:=2) (A:=20000) (d:=d) (c:=c) (by simp) (by omega) (by omega) hC hq (c.length-2) 0 (by omega) hn
      rw [show(c.length:Int)-1-((0:Nat):Int)=(c.length:Int)-1 by omega] at k
      exact ⟨t,k⟩
    · rw [show c.length-2=0 by omega]
      exact ⟨_,zcN [p0,p1,p2] c.length _ d _ c (by show ¬((c.length:Int)-1≥(((2:Nat):Int)+1)-1);omega)⟩
  obtain ⟨t,k⟩:=L
  have hz:∀j,Sz 50000 ((zaq [p0,p1,p2] 2 c).getD j 0):=fun j=>by
    unfold zaq
    rw [zby]
    split
    · by_cases hn:2≤c.length
      · exact(zhA hq hC (c.length-2) (by omega) j).mono (by omega)
      · rw [show c.length-2=0 by omega];exact(hC j).mono (by omega)
    · exact Sz.zero
  have hred:∀x:Int,x=((2:Nat):Int)→tL c x (ouR [p0,p1,p2] 2 c (c.length-2))=zaq [p0,p1,p2] 2 c:=fun x hx=>tkMin hx (hlr _)
  have e5:nuF (zaq [p0,p1,p2] 2 c) d=nuF [(zaq [p0,p1,p2] 2 c).getD 0 0,(zaq [p0,p1,p2] 2 c).getD 1 0,0,0] d:=zdJ hd fun i=>by
    have hlen:=zff [p0,p1,p2] 2 c
    match i with
    | 0=>rfl
    | 1=>rfl
    | 2=>rw [List.getD_eq_getElem?_getD,List.getElem?_eq_none (by omega)];rfl
    | 3=>rw [List.getD_eq_getElem?_getD,List.getElem?_eq_none (by omega)];rfl
    | i+4=>rw [List.getD_eq_getElem?_getD,List.getElem?_eq_none (by omega)];rfl
  rw [e5,← zc5]
  by_cases h0:d<0
  · have s:∀x,sgD d x = -x:=fun x=>if_pos h0
    simp only [s,Int.neg_zero]
    have:=rdb_0 p0 p1 p2 c d t (ouR [p0,p1,p2] 2 c (c.length-2)) (by omega) hne (by omega) (by omega) (by omega) k (by omega) (by omega) (by split<;>omega) (by split<;>omega) (by rw [hlr];split<;>omega) (by split<;>omega) h0 (by rw [hred (2:Int) rfl];exact ⟨by omega,(hz 0).neg,(hz 1).neg,Sz.zero,Sz.zero,hsd.neg.mono (by omega)⟩)
    rw [hred (2:Int) rfl] at this
    exact this
  · have s:∀x,sgD d x=x:=fun x=>if_neg h0
    simp only [s]
    have:=rdb_1 p0 p1 p2 c d t (ouR [p0,p1,p2] 2 c (c.length-2)) (by omega) hne (by omega) (by omega) (by omega) k (by omega) (by omega) (by split<;>omega) (by split<;>omega) (by rw [hlr];split<;>omega) (by split<;>omega) h0 (by rw [hred (2:Int) rfl];exact ⟨hd,hz 0,hz 1,Sz.zero,Sz.zero,hsd.mono (by omega)⟩)
    rw [hred (2:Int) rfl] at this
    exact this
theorem red_c (p0 p1 p2 p3:Int) (c:List Int) (d:Int) (h:zmC [p0,p1,p2,p3] c d):FC Tryz.prog 134 [reA (.lst .whole [p0,p1,p2,p3]),.lst .whole c,W d] (nuF (zaq [p0,p1,p2,p3] 3 c) d):=by
  obtain ⟨⟨_,_,ha⟩,hne,hl,hC,hd,hsd⟩:=h
  have hq:∀j,Sz 1 (([p0,p1,p2,p3]).getD j 0):=fun j=>by
    rw [List.getD_eq_getElem?_getD]
    by_cases hj:j<([p0,p1,p2,p3]).length
    · rw [List.getElem?_eq_getElem hj];have:=ha _ (List.getElem_mem hj);exact Sz.lit (by simpa using Nat.lt_of_le_of_lt this (by decide)) (by decide)
    · rw [List.getElem?_eq_none (by omega)];exact Sz.zero
  have hN:((List.length [p0,p1,p2,p3]:Int)-1)=((3:Nat):Int):=by simp
  have hlr:∀s,(ouR [p0,p1,p2,p3] 3 c s).length=c.length:=zdN _ _ _
  have L:∃t,rdc_L1 (zjZ [p0,p1,p2,p3] (0+c.length) ((List.length [p0,p1,p2,p3]:Int)-1) d ((↑(0+c.length):Int)-1) (List.take 0 []++c)) (Ex.exit 0,zhI [p0,p1,p2,p3] (0+c.length) ((List.length [p0,p1,p2,p3]:Int)-1) d t (ouR [p0,p1,p2,p3] 3 c (c.length-3))):=by
    rw [Nat.zero_add,show List.take 0 []++c=c by simp]
    by_cases hn:3≤c.length
    · obtain ⟨t,k⟩:=zhG (p:=[p0,p1,p2,p3]) (n:=3) (A:=20000) (d:=d) (c:=c) (by simp) (by omega) (by omega) hC hq (c.length-3) 0 (by omega) hn
      rw [show(c.length:Int)-1-((0:Nat):Int)=(c.length:Int)-1 by omega] at k
      exact ⟨t,k⟩
    · rw [show c.length-3=0 by omega]
      exact ⟨_,zcN [p0,p1,p2,p3] c.length _ d _ c (by show ¬((c.length:Int)-1≥(((3:Nat):Int)+1)-1);omega)⟩
  obtain ⟨t,k⟩:=L
  have hz:∀j,Sz 50000 ((zaq [p0,p1,p2,p3] 3 c).getD j 0):=fun j=>by
    unfold zaq
    rw [zby]
    split
    · by_cases hn:3≤c.length
      · exact(zhA hq hC (c.length-3) (by omega) j).mono (by omega)
      · rw [show c.length-3=0 by omega];exact(hC j).mono (by omega)
    · exact Sz.zero
  have hred:∀x:Int,x=((3:Nat):Int)→tL c x (ouR [p0,p1,p2,p3] 3 c (c.length-3))=zaq [p0,p1,p2,p3] 3 c:=fun x hx=>tkMin hx (hlr _)
  have e5:nuF (zaq [p0,p1,p2,p3] 3 c) d=nuF [(zaq [p0,p1,p2,p3] 3 c).getD 0 0,(zaq [p0,p1,p2,p3] 3 c).getD 1 0,(zaq [p0,p1,p2,p3] 3 c).getD 2 0,0] d:=zdJ hd fun i=>by
    have hlen:=zff [p0,p1,p2,p3] 3 c
    match i with
    | 0=>rfl
    | 1=>rfl
    | 2=>rfl
    | 3=>rw [List.getD_eq_getElem?_getD,List.getElem?_eq_none (by omega)];rfl
    | i+4=>rw [List.getD_eq_getElem?_getD,List.getElem?_eq_none (by omega)];rfl
  rw [e5,← zc5]
  by_cases h0:d<0
  · have s:∀x,sgD d x = -x:=fun x=>if_pos h0
    simp only [s,Int.neg_zero]
    have:=rdc_0 p0 p1 p2 p3 c d t (ouR [p0,p1,p2,p3] 3 c (c.length-3)) (by omega) hne (by omega) (by omega) (by omega) k (by omega) (by omega) (by split<;>omega) (by split<;>omega) (by rw [hlr];split<;>omega) (by split<;>omega) h0 (by rw [hred (3:Int) rfl];exact ⟨by omega,(hz 0).neg,(hz 1).neg,(hz 2).neg,Sz.zero,hsd.neg.mono (by omega)⟩)
    rw [hred (3:Int) rfl] at this
    exact this
  · have s:∀x,sgD d x=x:=fun x=>if_neg h0
    simp only [s]
    have:=rdc_1 p0 p1 p2 p3 c d t (ouR [p0,p1,p2,p3] 3 c (c.length-3)) (by omega) hne (by omega) (by omega) (by omega) k (by omega) (by omega) (by split<;>omega) (by split<;>omega) (by rw [hlr];split<;>omega) (by split<;>omega) h0 (by rw [hred (3:Int) rfl];exact ⟨hd,hz 0,hz 1,hz 2,Sz.zero,hsd.mono (by omega)⟩)
    rw [hred (3:Int) rfl] at this
    exact this
theorem red_d (p0 p1 p2 p3 p4:Int) (c:List Int) (d:Int) (h:zmC [p0,p1,p2,p3,p4] c d):FC Tryz.prog 134 [reA (.lst .whole [p0,p1,p2,p3,p4]),.lst .whole c,W d] (nuF (zaq [p0,p1,p2,p3,p4] 4 c) d):=by
  obtain ⟨⟨_,_,ha⟩,hne,hl,hC,hd,hsd⟩:=h
  have hq:∀j,Sz 1 (([p0,p1,p2,p3,p4]).getD j 0):=fun j=>by
    rw [List.getD_eq_getElem?_getD]
    by_cases hj:j<([p0,p1,p2,p3,p4]).length
    · rw [List.getElem?_eq_getElem hj];have:=ha _ (List.getElem_mem hj);exact Sz.lit (by simpa using Nat.lt_of_le_of_lt this (by decide)) (by decide)
    · rw [List.getElem?_eq_none (by omega)];exact Sz.zero
  have hN:((List.length [p0,p1,p2,p3,p4]:Int)-1)=((4:Nat):Int):=by simp
  have hlr:∀s,(ouR [p0,p1,p2,p3,p4] 4 c s).length=c.length:=zdN _ _ _
  have L:∃t,rdd_L1 (zj0 [p0,p1,p2,p3,p4] (0+c.length) ((List.length [p0,p1,p2,p3,p4]:Int)-1) d ((↑(0+c.length):Int)-1) (List.take 0 []++c)) (Ex.exit 0,zhJ [p0,p1,p2,p3,p4] (0+c.length) ((List.length [p0,p1,p2,p3,p4]:Int)-1) d t (ouR [p0,p1,p2,p3,p4] 4 c (c.length-4))):=by
    rw [Nat.zero_add,show List.take 0 []++c=c by simp]
    by_cases hn:4≤c.length
    · obtain ⟨t,k⟩:=zhG (p:=[p0,p1,p2,p3,p4]) (n:=4) (A:=20000) (d:=d) (c:=c) (by simp) (by omega) (by omega) hC hq (c.length-4) 0 (by omega) hn
      rw [show(c.length:Int)-1-((0:Nat):Int)=(c.length:Int)-1 by omega] at k
      exact ⟨t,k⟩
    · rw [show c.length-4=0 by omega]
      exact ⟨_,zcN [p0,p1,p2,p3,p4] c.length _ d _ c (by show ¬((c.length:Int)-1≥(((4:Nat):Int)+1)-1);omega)⟩
  obtain ⟨t,k⟩:=L
  have hz:∀j,Sz 50000 ((zaq [p0,p1,p2,p3,p4] 4 c).getD j 0):=fun j=>by
    unfold zaq
    rw [zby]
    split
    · by_cases hn:4≤c.length
      · exact(zhA hq hC (c.length-4) (by omega) j).mono (by omega)
      · rw [show c.length-4=0 by omega];exact(hC j).mono (by omega)
    · exact Sz.zero
  have hred:∀x:Int,x=((4:Nat):Int)→tL c x (ouR [p0,p1,p2,p3,p4] 4 c (c.length-4))=zaq [p0,p1,p2,p3,p4] 4 c:=fun x hx=>tkMin hx (hlr _)
  have e5:nuF (zaq [p0,p1,p2,p3,p4] 4 c) d=nuF [(zaq [p0,p1,p2,p3,p4] 4 c).getD 0 0,(zaq [p0,p1,p2,p3,p4] 4 c).getD 1 0,(zaq [p0,p1,p2,p3,p4] 4 c).getD 2 0,(zaq [p0,p1,p2,p3,p4] 4 c).getD 3 0] d:=zdJ hd fun i=>by
    have hlen:=zff [p0,p1,p2,p3,p4] 4 c
    match i with
    | 0=>rfl
    | 1=>rfl
    | 2=>rfl
    | 3=>rfl
    | i+4=>rw [List.getD_eq_getElem?_getD,List.getElem?_eq_none (by omega)];rfl
  rw [e5,← zc5]
  by_cases h0:d<0
  · have s:∀x,sgD d x = -x:=fun x=>if_pos h0
    simp only [s,Int.neg_zero]
    have:=rdd_0 p0 p1 p2 p3 p4 c d t (ouR [p0,p1,p2,p3,p4] 4 c (c.length-4)) (by omega) hne (by omega) (by omega) (by omega) k (by omega) (by omega) (by split<;>omega) (by split<;>omega) (by rw [hlr];split<;>omega) (by split<;>omega) h0 (by rw [hred (4:Int) rfl];exact ⟨by omega,(hz 0).neg,(hz 1).neg,(hz 2).neg,(hz 3).neg,hsd.neg.mono (by omega)⟩)
    rw [hred (4:Int) rfl] at this
    exact this
  · have s:∀x,sgD d x=x:=fun x=>if_neg h0
    simp only [s]
    have:=rdd_1 p0 p1 p2 p3 p4 c d t (ouR [p0,p1,p2,p3,p4] 4 c (c.length-4)) (by omega) hne (by omega) (by omega) (by omega) k (by omega) (by omega) (by split<;>omega) (by split<;>omega) (by rw [hlr];split<;>omega) (by split<;>omega) h0 (by rw [hred (4:Int) rfl];exact ⟨hd,hz 0,hz 1,hz 2,hz 3,hsd.mono (by omega)⟩)
    rw [hred (4:Int) rfl] at this
    exact this
theorem zhM (p c:List Int) (d:Int) (h:zmC p c d):FC Tryz.prog 134 [reA (.lst .whole p),.lst .whole c,W d] (nuF (zaq p (p.length-1) c) d):=by
  have h':=h
  obtain ⟨⟨h2,h5,_⟩,_⟩:=h'
  match p,h2,h5,h with
  | [p0,p1],_,_,h=>exact red_a p0 p1 c d h
  | [p0,p1,p2],_,_,h=>exact red_b p0 p1 p2 c d h
  | [p0,p1,p2,p3],_,_,h=>exact red_c p0 p1 p2 p3 c d h
  | [p0,p1,p2,p3,p4],_,_,h=>exact red_d p0 p1 p2 p3 p4 c d h
  | _ :: _ :: _ :: _ :: _ :: _ :: _,_,h5,_=>simp at h5
noncomputable section
theorem clNil:zlZ (dZ Tryz.prog ctrQ bw) 60 177 [.lit (.slice none 0 0)]=some (aN,[]):=by kernel_rfl
end
def cClNil (args:List AV):M AV:=match args with
  | [.lit (.slice none 0 0)]=>M.pure (.lst .whole [])
  | _=>fail 310
def ctrQ0:Ctr:=(177,cClNil) :: ctrQ
theorem nil_lst (k:EK):Le (.lit (.slice none 0 0)) (.lst k []):=fun E v h=>by
  have hv:=h.lit_inv
  subst hv
  exact .lst .sl0
theorem cClNil_ok:lZ Tryz.prog 177 cClNil:=by
  intro args _
  unfold cClNil
  split
  · exact Spec.pure' ((zch (g:=dZ Tryz.prog ctrQ bw) (QZ zgw) clNil .nil).le (LeL.refl _) (nil_lst _))
  · exact Spec.fail
theorem ctrQ0_all:∀p∈ctrQ0,lZ Tryz.prog p.1 p.2:=CAll.cons cClNil_ok zgw
theorem okQ0:(dZ Tryz.prog ctrQ0 bw [] kdQ).OK:=OZ zcM mixed ctrQ0_all zcF
noncomputable section
theorem rna_0 (a b d:Int) (h1:r64 ((1:Int))) (h2:0≤(1:Int)) (h3:(1:Int)≤4) (h4:0≤if 0<(1:Int) then 0 else(1:Int)) (h5:(0:Int)≤0) (h6:0≤0) (h7:0≤((1:Int)-0).toNat) (h8:d<0) (h9:pNu (-(0:Int)) 0 0 0 (-d)):FC Tryz.prog 134 [reA (.lst .whole [a,b]),.lit (.slice none 0 0),W d] (loA (-(0:Int)) 0 0 0 (-d)):=fZ okQ0 60 [3] (.i h1<|.t h2<|.t h3<|.t h4<|.t h5<|.t h6<|.t h7<|.t h8<|.c h9<|.o<|.o<|.e) [1,0,0,2,3,0,4,5,6,7,8,0,0,0,0,0,0,0,0,0,0,0,0,0,0,0,0,0,0,0,0,0,0,0,0,0,0,0,0,0,0,0,0,0,0,0,9]
theorem rna_1 (a b d:Int) (h1:r64 ((1:Int))) (h2:0≤(1:Int)) (h3:(1:Int)≤4) (h4:0≤if 0<(1:Int) then 0 else(1:Int)) (h5:(0:Int)≤0) (h6:0≤0) (h7:0≤((1:Int)-0).toNat) (h8:¬(d<0)) (h9:pNu ((0:Int)) 0 0 0 d):FC Tryz.prog 134 [reA (.lst .whole [a,b]),.lit (.slice none 0 0),W d] (loA ((0:Int)) 0 0 0 d):=fZ okQ0 60 [2] (.i h1<|.t h2<|.t h3<|.t h4<|.t h5<|.t h6<|.t h7<|.f h8<|.c h9<|.o<|.e) [1,0,0,2,3,0,4,5,6,7,8,0,0,0,0,0,9]
theorem rnb_0 (a b f d:Int) (h1:r64 ((2:Int))) (h2:0≤(2:Int)) (h3:(2:Int)≤4) (h4:0≤if 0<(2:Int) then 0 else(2:Int)) (h5:(0:Int)≤0) (h6:0≤0) (h7:0≤((2:Int)-0).toNat) (h8:d<0) (h9:pNu (-(0:Int)) (-(0:Int)) 0 0 (-d)):FC Tryz.prog 134 [reA (.lst .whole [a,b,f]),.lit (.slice none 0 0),W d] (loA (-(0:Int)) (-(0:Int)) 0 0 (-d)):=fZ okQ0 60 [3] (.i h1<|.t h2<|.t h3<|.t h4<|.t h5<|.t h6<|.t h7<|.t h8<|.c h9<|.o<|.o<|.e) [1,0,0,2,3,0,4,5,6,7,8,0,0,0,0,0,0,0,0,0,0,0,0,0,0,0,0,0,0,0,0,0,0,0,0,0,0,0,0,0,0,0,0,0,0,0,9]
theorem rnb_1 (a b g d:Int) (h1:r64 ((2:Int))) (h2:0≤(2:Int)) (h3:(2:Int)≤4) (h4:0≤if 0<(2:Int) then 0 else(2:Int)) (h5:(0:Int)≤0) (h6:0≤0) (h7:0≤((2:Int)-0).toNat) (h8:¬(d<0)) (h9:pNu ((0:Int)) ((0:Int)) 0 0 d):FC Tryz.prog 134 [reA (.lst .whole [a,b,g]),.lit (.slice none 0 0),W d] (loA ((0:Int)) ((0:Int)) 0 0 d):=fZ okQ0 60 [2] (.i h1<|.t h2<|.t h3<|.t h4<|.t h5<|.t h6<|.t h7<|.f h8<|.c h9<|.o<|.e) [1,0,0,2,3,0,4,5,6,7,8,0,0,0,0,0,9]
theorem rnc_0 (a b f g d:Int) (h1:r64 ((3:Int))) (h2:0≤(3:Int)) (h3:(3:Int)≤4) (h4:0≤if 0<(3:Int) then 0 else(3:Int)) (h5:(0:Int)≤0) (h6:0≤0) (h7:0≤((3:Int)-0).toNat) (h8:d<0) (h9:pNu (-(0:Int)) (-(0:Int)) (-(0:Int)) 0 (-d)):FC Tryz.prog 134 [reA (.lst .whole [a,b,f,g]),.lit (.slice none 0 0),W d] (loA (-(0:Int)) (-(0:Int)) (-(0:Int)) 0 (-d)):=fZ okQ0 60 [3] (.i h1<|.t h2<|.t h3<|.t h4<|.t h5<|.t h6<|.t h7<|.t h8<|.c h9<|.o<|.o<|.e) [1,0,0,2,3,0,4,5,6,7,8,0,0,0,0,0,0,0,0,0,0,0,0,0,0,0,0,0,0,0,0,0,0,0,0,0,0,0,0,0,0,0,0,0,0,0,9]
theorem rnc_1 (a b g j d:Int) (h1:r64 ((3:Int))) (h2:0≤(3:Int)) (h3:(3:Int)≤4) (h4:0≤if 0<(3:Int) then 0 else(3:Int)) (h5:(0:Int)≤0) (h6:0≤0) (h7:0≤((3:Int)-0).toNat) (h8:¬(d<0)) (h9:pNu ((0:Int)) ((0:Int)) ((0:Int)) 0 d):FC Tryz.prog 134 [reA (.lst .whole [a,b,g,j]),.lit (.slice none 0 0),W d] (loA ((0:Int)) ((0:Int)) ((0:Int)) 0 d):=fZ okQ0 60 [2] (.i h1<|.t h2<|.t h3<|.t h4<|.t h5<|.t h6<|.t h7<|.f h8<|.c h9<|.o<|.e) [1,0,0,2,3,0,4,5,6,7,8,0,0,0,0,0,9]
theorem rnd_0 (a b f g j d:Int) (h1:r64 ((4:Int))) (h2:0≤(4:Int)) (h3:(4:Int)≤4) (h4:0≤if 0<(4:Int) then 0 else(4:Int)) (h5:(0:Int)≤0) (h6:0≤0) (h7:0≤((4:Int)-0).toNat) (h8:d<0) (h9:pNu (-(0:Int)) (-(0:Int)) (-(0:Int)) (-(0:Int)) (-d)):FC Tryz.prog 134 [reA (.lst .whole [a,b,f,g,j]),.lit (.slice none 0 0),W d] (loA (-(0:Int)) (-(0:Int)) (-(0:Int)) (-(0:Int)) (-d)):=fZ okQ0 60 [3] (.i h1<|.t h2<|.t h3<|.t h4<|.t h5<|.t h6<|.t h7<|.t h8<|.c h9<|.o<|.o<|.e) [1,0,0,2,3,0,4,5,6,7,8,0,0,0,0,0,0,0,0,0,0,0,0,0,0,0,0,0,0,0,0,0,0,0,0,0,0,0,0,0,0,0,0,0,0,0,9]
theorem rnd_1 (a b g j l d:Int) (h1:r64 ((4:Int))) (h2:0≤(4:Int)) (h3:(4:Int)≤4) (h4:0≤if 0<(4:Int) then 0 else(4:Int)) (h5:(0:Int)≤0) (h6:0≤0) (h7:0≤((4:Int)-0).toNat) (h8:¬(d<0)) (h9:pNu ((0:Int)) ((0:Int)) ((0:Int)) ((0:Int)) d):FC Tryz.prog 134 [reA (.lst .whole [a,b,g,j,l]),.lit (.slice none 0 0),W d] (loA ((0:Int)) ((0:Int)) ((0:Int)) ((0:Int)) d):=fZ okQ0 60 [2] (.i h1<|.t h2<|.t h3<|.t h4<|.t h5<|.t h6<|.t h7<|.f h8<|.c h9<|.o<|.e) [1,0,0,2,3,0,4,5,6,7,8,0,0,0,0,0,9]
end
open Go.Kf
theorem e0000 {d:Int} (hd:d≠0):nuF [] d=nuF [0,0,0,0] d:=zdJ hd fun i=>by
  match i with
  | 0=>rfl
  | 1=>rfl
  | 2=>rfl
  | 3=>rfl
  | i+4=>rfl
theorem redn_a (p0 p1 d:Int) (hd:d≠0) (hsd:Sz 20000 d):FC Tryz.prog 134 [reA (.lst .whole [p0,p1]),.lit (.slice none 0 0),W d] (nuF [] d):=by
  have hN:((List.length [p0,p1]:Int)-1)=((1:Nat):Int):=by simp
  rw [e0000 hd,← zc5]
  by_cases h0:d<0
  · have s:∀x,sgD d x = -x:=fun x=>if_pos h0
    simp only [s,Int.neg_zero]
    have:=rna_0 p0 p1 d (by omega) (by omega) (by omega) (by decide) (by decide) (Nat.le_refl _) (by simp) h0 (by(try simp only [Int.neg_zero]);exact ⟨by omega,Sz.zero,Sz.zero,Sz.zero,Sz.zero,hsd.neg.mono (by omega)⟩)
    (try simp only [Int.neg_zero] at this)
    exact this
  · have s:∀x,sgD d x=x:=fun x=>if_neg h0
    simp only [s]
    have:=rna_1 p0 p1 d (by omega) (by omega) (by omega) (by decide) (by decide) (Nat.le_refl _) (by simp) h0 (by(try simp only [Int.neg_zero]);exact ⟨hd,Sz.zero,Sz.zero,Sz.zero,Sz.zero,hsd.mono (by omega)⟩)
    (try simp only [Int.neg_zero] at this)
    exact this
theorem redn_b (p0 p1 p2 d:Int) (hd:d≠0) (hsd:Sz 20000 d):FC Tryz.prog 134 [reA (.lst .whole [p0,p1,p2]),.lit (.slice none 0 0),W d] (nuF [] d):=by
  have hN:((List.length [p0,p1,p2]:Int)-1)=((2:Nat):Int):=by simp
  rw [e0000 hd,← zc5]
  by_cases h0:d<0
  · have s:∀x,sgD d x = -x:=fun x=>if_pos h0
    simp only [s,Int.neg_zero]
    have:=rnb_0 p0 p1 p2 d (by omega) (by omega) (by omega) (by decide) (by decide) (Nat.le_refl _) (by simp) h0 (by(try simp only [Int.neg_zero]);exact ⟨by omega,Sz.zero,Sz.zero,Sz.zero,Sz.zero,hsd.neg.mono (by omega)⟩)
    (try simp only [Int.neg_zero] at this)
    exact this
  · have s:∀x,sgD d x=x:=fun x=>if_neg h0
    simp only [s]
    have:=rnb_1 p0 p1 p2 d (by omega) (by omega) (by omega) (by decide) (by decide) (Nat.le_refl _) (by simp) h0 (by(try simp only [Int.neg_zero]);exact ⟨hd,Sz.zero,Sz.zero,Sz.zero,Sz.zero,hsd.mono (by omega)⟩)
    (try simp only [Int.neg_zero] at this)
    exact this
theorem redn_c (p0 p1 p2 p3 d:Int) (hd:d≠0) (hsd:Sz 20000 d):FC Tryz.prog 134 [reA (.lst .whole [p0,p1,p2,p3]),.lit (.slice none 0 0),W d] (nuF [] d):=by
  have hN:((List.length [p0,p1,p2,p3]:Int)-1)=((3:Nat):Int):=by simp
  rw [e0000 hd,← zc5]
  by_cases h0:d<0
  · have s:∀x,sgD d x = -x:=fun x=>if_pos h0
    simp only [s,Int.neg_zero]
    have:=rnc_0 p0 p1 p2 p3 d (by omega) (by omega) (by omega) (by decide) (by decide) (Nat.le_refl _) (by simp) h0 (by(try simp only [Int.neg_zero]);exact ⟨by omega,Sz.zero,Sz.zero,Sz.zero,Sz.zero,hsd.neg.mono (by omega)⟩)
    (try simp only [Int.neg_zero] at this)
    exact this
  · have s:∀x,sgD d x=x:=fun x=>if_neg h0
    simp only [s]
    have:=rnc_1 p0 p1 p2 p3 d (by omega) (by omega) (by omega) (by decide) (by decide) (Nat.le_refl _) (by simp) h0 (by(try simp only [Int.neg_zero]);exact ⟨hd,Sz.zero,Sz.zero,Sz.zero,Sz.zero,hsd.mono (by omega)⟩)
    (try simp only [Int.neg_zero] at this)
    exact this
theorem redn_d (p0 p1 p2 p3 p4 d:Int) (hd:d≠0) (hsd:Sz 20000 d):FC Tryz.prog 134 [reA (.lst .whole [p0,p1,p2,p3,p4]),.lit (.slice none 0 0),W d] (nuF [] d):=by
  have hN:((List.length [p0,p1,p2,p3,p4]:Int)-1)=((4:Nat):Int):=by simp
  rw [e0000 hd,← zc5]
  by_cases h0:d<0
  · have s:∀x,sgD d x = -x:=fun x=>if_pos h0
    simp only [s,Int.neg_zero]
    have:=rnd_0 p0 p1 p2 p3 p4 d (by omega) (by omega) (by omega) (by decide) (by decide) (Nat.le_refl _) (by simp) h0 (by(try simp only [Int.neg_zero]);exact ⟨by omega,Sz.zero,Sz.zero,Sz.zero,Sz.zero,hsd.neg.mono (by omega)⟩)
    (try simp only [Int.neg_zero] at this)
    exact this
  · have s:∀x,sgD d x=x:=fun x=>if_neg h0
    simp only [s]
    have:=rnd_1 p0 p1 p2 p3 p4 d (by omega) (by omega) (by omega) (by decide) (by decide) (Nat.le_refl _) (by simp) h0 (by(try simp only [Int.neg_zero]);exact ⟨hd,Sz.zero,Sz.zero,Sz.zero,Sz.zero,hsd.mono (by omega)⟩)
    (try simp only [Int.neg_zero] at this)
    exact this
theorem zmH (p:List Int) (d:Int) (h2:2≤p.length) (h5:p.length≤5) (hd:d≠0) (hsd:Sz 20000 d):FC Tryz.prog 134 [reA (.lst .whole p),.lit (.slice none 0 0),W d] (nuF [] d):=by
  match p,h2,h5 with
  | [p0,p1],_,_=>exact redn_a p0 p1 d hd hsd
  | [p0,p1,p2],_,_=>exact redn_b p0 p1 p2 d hd hsd
  | [p0,p1,p2,p3],_,_=>exact redn_c p0 p1 p2 p3 d hd hsd
  | [p0,p1,p2,p3,p4],_,_=>exact redn_d p0 p1 p2 p3 p4 d hd hsd
  | _ :: _ :: _ :: _ :: _ :: _ :: _,_,h5=>simp at h5
def asWL (x:AV):M (List Int):=match x with
  | .lst .whole l=>M.pure l
  | x=>asWs x
theorem Le.zl_lst {x:AV} {l:List Int} (h:Le x (.zl .W l)):Le x (.lst .whole l):=h.trans (Le.zlW_lst l)
theorem asWL_spec {x:AV}:Go.Ev.Spec (asWL x) fun l=>Le x (.lst .whole l):=by
  unfold asWL
  split
  · exact Spec.pure' (Le.refl _)
  · exact asWs_spec.mono fun l h=>Le.zl_lst h
def zqo (x:AV):M (List Int):=match x with
  | .pd [_,_,_,_,p,_,_,_,_,_,_,_] 0=>asWL p
  | _=>fail 311
theorem asRL_spec {x:AV}:Go.Ev.Spec (zqo x) fun q=>Le x (reA (.lst .whole q)):=by
  unfold zqo
  split
  · refine asWL_spec.mono fun p hp=>?_
    exact Le.pd (.cons (Le.junk _) (.cons (Le.junk _) (.cons (Le.junk _) (.cons (Le.junk _) (.cons hp (.cons (Le.junk _) (.cons (Le.junk _) (.cons (Le.junk _) (.cons (Le.junk _) (.cons (Le.junk _) (.cons (Le.junk _) (.cons (Le.junk _) .nil))))))))))))
  · exact Spec.fail
def pRdN (p:List Int) (d:Int):Prop:=2≤p.length∧p.length≤5∧d≠0∧Sz 20000 d
def cRd (args:List AV):M AV:=match args with
  | [x,c,y]=>do
    let p ← zqo x
    let d ← asW y
    match c with
    | .lit (.slice none 0 0)=>do
      tell (pRdN p d)
      M.pure (nuF [] d)
    | c=>do
      let l ← asWL c
      tell (zmC p l d)
      M.pure (nuF (zaq p (p.length-1) l) d)
  | _=>fail 312
theorem cRd_ok:lZ Tryz.prog 134 cRd:=by
  intro args _
  unfold cRd
  split
  · refine Spec.bind (asRL_spec.mono fun p hp=>Spec.bind (asW_spec.mono fun d hd=>?_))
    split
    · exact Spec.bind (Spec.tell fun h=>Spec.pure' ((zmH p d h.1 h.2.1 h.2.2.1 h.2.2.2).le (.cons hp (.cons (Le.refl _) (.cons hd .nil))) (Le.refl _)))
    · exact Spec.bind (asWL_spec.mono fun l hl=>Spec.bind (Spec.tell fun h=>Spec.pure' ((zhM p l d h).le (.cons hp (.cons hl (.cons hd .nil))) (Le.refl _))))
  · exact Spec.fail
noncomputable def ctrQ1:Ctr:=(134,cRd) :: ctrQ
theorem zkP:∀p∈ctrQ1,lZ Tryz.prog p.1 p.2:=CAll.cons cRd_ok zgw
abbrev kdQ2:List (TypeId × EK):=[(100,.whole),(22,.sl (.int .i64))]
theorem zle:(dZ Tryz.prog ctrQ1 bw [] kdQ2).OK:=OZ zcM mixed zkP zcF
noncomputable section
abbrev zgt (s:St) (r:Ex × St):Prop:=Loops 2 Tryz.prog (pZ Tryz.prog 80 0) s r
abbrev zeH (a:List Int) (b:List (List Int)) (c:Int) (d:List Int):St:=⟨sp 33 [(0,.pd [aJ,aJ,aJ,aJ,.lst EK.whole a,aJ,aJ,aJ,aJ,aJ,aJ,aJ] 0),(3,.ref 0 0),(4,.ref 1 0),(5,aN),(10,.lst (EK.sl (.int .i64)) b),(11,aI c),(12,aI 0)],[.flat [.lst (EK.sl (.int .i64)) b,.sq d] true,.flat [aF,aN,aF,aN,aF,aN,aF,aN,aF,aN] true],[]⟩
abbrev zh3 (a:List Int) (b:List (List Int)) (c:Int) (d:List Int) (e:Nat) (f:Int) (g:List Int):St:=⟨sp 33 [(0,.pd [aJ,aJ,aJ,aJ,.lst EK.whole a,aJ,aJ,aJ,aJ,aJ,aJ,aJ] 0),(3,.ref 0 0),(4,.ref 1 0),(5,.own 2 0 e 2),(10,.lst (EK.sl (.int .i64)) b),(11,aI c),(12,aI f)],[.flat [.lst (EK.sl (.int .i64)) b,.sq d] true,.flat [aF,aN,aF,aN,aF,aN,aF,aN,aF,aN] true,.lst EK.whole g true],[]⟩
abbrev zkh (a:List Int) (b:List (List Int)) (c:Int) (d:List Int):St:=⟨sp 33 [(0,.pd [aJ,aJ,aJ,aJ,.lst EK.whole a,aJ,aJ,aJ,aJ,aJ,aJ,aJ] 0),(3,.ref 0 0),(4,.ref 1 0),(5,aN),(10,.lst (EK.sl (.int .i64)) b),(11,aI c),(12,aI 0)],[.flat [.lst (EK.sl (.int .i64)) b,.sq d] true,.flat [aF,aN,aF,aN,aF,aN,aF,aN,aF,aN] true],[]⟩
abbrev zef (a:List Int) (b:List (List Int)) (c:Int) (d:List Int) (e:Nat) (f:Int) (g:List Int):St:=⟨sp 33 [(0,.pd [aJ,aJ,aJ,aJ,.lst EK.whole a,aJ,aJ,aJ,aJ,aJ,aJ,aJ] 0),(3,.ref 0 0),(4,.ref 1 0),(5,.own 2 0 e 2),(10,.lst (EK.sl (.int .i64)) b),(11,aI c),(12,aI f)],[.flat [.lst (EK.sl (.int .i64)) b,.sq d] true,.flat [aF,aN,aF,aN,aF,aN,aF,aN,aF,aN] true,.lst EK.whole g true],[]⟩
theorem tk_L0_0_0 (a:List Int) (b:List (List Int)) (d:Int) (f:List Int) (h1:0<d) (h2:0<(b.length:Int)) (h3:zbu (b.getD 0 (EK.dflt (EK.sl (.int .i64))))) (h4:1≤List.length [vl (b.getD 0 (EK.dflt (EK.sl (.int .i64))))]) (h5:0<(List.take 1 [vl (b.getD 0 (EK.dflt (EK.sl (.int .i64))))]).length) (h6:(List.take 1 [vl (b.getD 0 (EK.dflt (EK.sl (.int .i64))))]).length*32≤140737488355328) (h7:(List.take 1 [vl (b.getD 0 (EK.dflt (EK.sl (.int .i64))))]).length≤4611686018427387904) {r:Ex × St} (k:zgt (zh3 a b d f (1) (1) ([vl (b.getD 0 (EK.dflt (EK.sl (.int .i64))))])) r):zgt (zeH a b d f) r:=Loops.go (LS.at zle 60 [3] [0,3,4,5,10,11,12] [] [1] (.t h1<|.t h2<|.c h3<|.c h4<|.t h5<|.t h6<|.t h7<|.e) [1,0,2,3,0,4,5,6,7,0]) k
theorem tk_L0_0_1 (a:List Int) (b:List (List Int)) (c:Int) (d:List Int) (h1:¬(0<c)):zgt (zeH a b c d) (Ex.exit 0,(zkh a b c d)):=Loops.fin (LS.at zle 60 [] [0,3,4,5,10,11,12] [] [0] (.f h1<|.e) [1]) (fun h=>nomatch h)
theorem tk_L0_1_0 (a:List Int) (b:List (List Int)) (d:Int) (f:List Int) (g:Nat) (j:Int) (l:List Int) (h1:j<d) (h2:0≤j) (h3:j<(b.length:Int)) (h4:zbu (b.getD j.toNat (EK.dflt (EK.sl (.int .i64))))) (h5:1≤List.length [vl (b.getD j.toNat (EK.dflt (EK.sl (.int .i64))))]) (h6:(g+(List.take 1 [vl (b.getD j.toNat (EK.dflt (EK.sl (.int .i64))))]).length)*32≤140737488355328) (h7:g+(List.take 1 [vl (b.getD j.toNat (EK.dflt (EK.sl (.int .i64))))]).length≤4611686018427387904) (h8:g≤l.length) (h9:r64 (j+1)) {r:Ex × St} (k:zgt (zh3 a b d f (g+(List.take 1 [vl (b.getD j.toNat (EK.dflt (EK.sl (.int .i64))))]).length) (j+1) (l.take g++List.take 1 [vl (b.getD j.toNat (EK.dflt (EK.sl (.int .i64))))])) r):zgt (zh3 a b d f g j l) r:=Loops.go (LS.at zle 60 [4] [0,3,4,5,10,11,12] [] [1] (.t h1<|.t h2<|.t h3<|.c h4<|.c h5<|.t h6<|.t h7<|.t h8<|.i h9<|.e) [1,2,3,4,0,5,6,7,8,9]) k
theorem tk_L0_1_1 (a:List Int) (b:List (List Int)) (c:Int) (d:List Int) (g:Nat) (i:Int) (j:List Int) (h1:¬(i<c)):zgt (zh3 a b c d g i j) (Ex.exit 0,(zef a b c d g i j)):=Loops.fin (LS.at zle 60 [2] [0,3,4,5,10,11,12] [] [0] (.f h1<|.e) [1]) (fun h=>nomatch h)
theorem tk_0 (p:List Int) (C:List (List Int)) (D:List Int) (hL1:zgt (zeH p C ((C.length:Int)) D) (Ex.exit 0,(zkh p C ((C.length:Int)) D))) (h2:zbu D) (h3:(vl D).sign=0) (h4:bZ 1) (h5:pRdN p 1):FC Tryz.prog 80 [reA (.lst .whole p),.agg [.lst (.sl (.int .i64)) C,.sq D]] (.agg [aF,.wd 0,aF,.wd 0,aF,.wd 0,aF,.wd 0,aF,.wd 1]):=fZ zle 60 [1] (.v [0,3,4,5,10,11,12] [] hL1<|.c h2<|.c (beq_iff_eq.2 h3)<|.c h4<|.c h5<|.e) [0,1,2,0,0,3,4,0,5]
theorem tk_1 (p:List Int) (C:List (List Int)) (D:List Int) (hL1:zgt (zeH p C ((C.length:Int)) D) (Ex.exit 0,(zkh p C ((C.length:Int)) D))) (h2:zbu D) (h3:(vl D).sign≠0) (h4:pRdN p (vl D)):FC Tryz.prog 80 [reA (.lst .whole p),.agg [.lst (.sl (.int .i64)) C,.sq D]] (.agg [.lit (.bool (decide (Kf.loC [] (vl D) 0<0))),.wd (Kf.loC [] (vl D) 0),.lit (.bool (decide (Kf.loC [] (vl D) 1<0))),.wd (Kf.loC [] (vl D) 1),.lit (.bool (decide (Kf.loC [] (vl D) 2<0))),.wd (Kf.loC [] (vl D) 2),.lit (.bool (decide (Kf.loC [] (vl D) 3<0))),.wd (Kf.loC [] (vl D) 3),.lit (.bool (decide (Kf.loD [] (vl D)<0))),.wd (Kf.loD [] (vl D))]):=fZ zle 60 [0] (.v [0,3,4,5,10,11,12] [] hL1<|.c h2<|.c (beq_false_of_ne h3)<|.c h4<|.e) [0,1,2,0,0,3,0,4]
theorem tk_2 (p:List Int) (C:List (List Int)) (D:List Int) (a:Nat) (b:Int) (d:List Int) (hL1:zgt (zeH p C ((C.length:Int)) D) (Ex.exit 0,(zef p C ((C.length:Int)) D a b d))) (h2:zbu D) (h3:(vl D).sign=0) (h4:bZ 1) (h5:a≤d.length) (h6:zmC p (d.take a) 1):FC Tryz.prog 80 [reA (.lst .whole p),.agg [.lst (.sl (.int .i64)) C,.sq D]] (.agg [.lit (.bool (decide (Kf.loC (zaq p (p.length-1) (d.take a)) 1 0<0))),.wd (Kf.loC (zaq p (p.length-1) (d.take a)) 1 0),.lit (.bool (decide (Kf.loC (zaq p (p.length-1) (d.take a)) 1 1<0))),.wd (Kf.loC (zaq p (p.length-1) (d.take a)) 1 1),.lit (.bool (decide (Kf.loC (zaq p (p.length-1) (d.take a)) 1 2<0))),.wd (Kf.loC (zaq p (p.length-1) (d.take a)) 1 2),.lit (.bool (decide (Kf.loC (zaq p (p.length-1) (d.take a)) 1 3<0))),.wd (Kf.loC (zaq p (p.length-1) (d.take a)) 1 3),aF,.wd (Kf.loD (zaq p (p.length-1) (d.take a)) 1)]):=fZ zle 60 [1] (.v [0,3,4,5,10,11,12] [] hL1<|.c h2<|.c (beq_iff_eq.2 h3)<|.c h4<|.c h5<|.c h6<|.e) [0,1,2,0,0,3,4,5,0,6]
theorem tk_3 (p:List Int) (C:List (List Int)) (D:List Int) (a:Nat) (b:Int) (d:List Int) (hL1:zgt (zeH p C ((C.length:Int)) D) (Ex.exit 0,(zef p C ((C.length:Int)) D a b d))) (h2:zbu D) (h3:(vl D).sign≠0) (h4:a≤d.length) (h5:zmC p (d.take a) (vl D)):FC Tryz.prog 80 [reA (.lst .whole p),.agg [.lst (.sl (.int .i64)) C,.sq D]] (.agg [.lit (.bool (decide (Kf.loC (zaq p (p.length-1) (d.take a)) (vl D) 0<0))),.wd (Kf.loC (zaq p (p.length-1) (d.take a)) (vl D) 0),.lit (.bool (decide (Kf.loC (zaq p (p.length-1) (d.take a)) (vl D) 1<0))),.wd (Kf.loC (zaq p (p.length-1) (d.take a)) (vl D) 1),.lit (.bool (decide (Kf.loC (zaq p (p.length-1) (d.take a)) (vl D) 2<0))),.wd (Kf.loC (zaq p (p.length-1) (d.take a)) (vl D) 2),.lit (.bool (decide (Kf.loC (zaq p (p.length-1) (d.take a)) (vl D) 3<0))),.wd (Kf.loC (zaq p (p.length-1) (d.take a)) (vl D) 3),.lit (.bool (decide (Kf.loD (zaq p (p.length-1) (d.take a)) (vl D)<0))),.wd (Kf.loD (zaq p (p.length-1) (d.take a)) (vl D))]):=fZ zle 60 [0] (.v [0,3,4,5,10,11,12] [] hL1<|.c h2<|.c (beq_false_of_ne h3)<|.c h4<|.c h5<|.e) [0,1,2,0,0,3,4,0,5]
theorem gv_0 (a b c e d:Int) (h1:e.sign=0) (h2:c.sign=0) (h3:b.sign=0) (h4:a.sign=0) (h5:dl d≤1048576):FC Tryz.prog 86 [nuA a b c e d] (.agg [aN,.ni d]):=fZ zle 60 [3,3,3,3] (.c (beq_iff_eq.2 h1)<|.c (beq_iff_eq.2 h2)<|.c (beq_iff_eq.2 h3)<|.c (beq_iff_eq.2 h4)<|.c h5<|.o<|.o<|.e) [0,0,0,0,0,1,0,0,0,0,0,0,2,0,0,0,0,0,0,3,0,0,0,0,0,0,4,0,0,0,0,0,5]
abbrev gv_1_s0 (a b c e d:Int):St:=⟨sp 41 [(0,.agg [aD a,.wd a,aD b,.wd b,aD c,.wd c,aD e,.wd e,aD d,.wd d]),(1,.ref 0 0),(2,.ref 1 0),(3,.ref 2 0),(4,aI 1),(6,.ref 3 0),(7,aI 1),(8,aT),(9,.tt),(10,aI 1),(11,aI 0),(12,.ref 0 0),(13,.ref 0 0),(14,.agg [aD a,.wd a]),(15,aI a.sign),(16,.lit (.bool (a.sign==0))),(17,.lit (.bool (a.sign==0))),(18,aI 2),(19,aI 1),(20,.ref 0 0),(21,aI 1),(22,.own 0 0 1 2),(23,aI 1),(24,aI 0),(25,aT),(26,.ref 0 0),(27,.agg [aD a,.wd a]),(28,.ref 2 0),(29,aN),(30,.agg [aD a,.wd a]),(31,.ni a),(32,.own 4 0 1 1),(33,.own 5 0 1 1),(34,.ref 2 0)],[.flat [aD a,.wd a,aD b,.wd b,aD c,.wd c,aD e,.wd e,aD d,.wd d] true,.flat [aN,aN] true,.flat [.own 5 0 1 1,aN] true,.flat [aD a,.wd a] true,.lst (EK.sl (.int .i64)) [aZ a] false,.lst (EK.sl (.int .i64)) [aZ a] true],[2,3]⟩
theorem gv_1 (a b c e d:Int) (h1:e.sign=0) (h2:c.sign=0) (h3:b.sign=0) (h4:a.sign≠0) (h5:dl a≤1048576) (h6:1≤List.length [aZ a]) (h7:0<(List.take 1 [aZ a]).length) (h8:(List.take 1 [aZ a]).length*24≤140737488355328) (h9:(List.take 1 [aZ a]).length≤4611686018427387904) (h10:dl d≤1048576) (h11:(List.take 1 [aZ a]).length≤(List.take 1 [aZ a]).length):FC Tryz.prog 86 [nuA a b c e d] (.agg [.lst (EK.sl (.int .i64)) [aZ a],.ni d]):=fZ zle 60 [3,3,3,2] (.c (beq_iff_eq.2 h1)<|.c (beq_iff_eq.2 h2)<|.c (beq_iff_eq.2 h3)<|.c (beq_false_of_ne h4)<|.c h5<|.c h6<|.t h7<|.t h8<|.t h9<|.s (gv_1_s0 a b c e d)<|.c h10<|.c h11<|.o<|.o<|.e) [0,0,0,0,0,1,0,0,0,0,0,0,2,0,0,0,0,0,0,3,0,0,0,0,0,0,4,0,0,0,0,0,0,5,6,7,8,9,0,5,6,7,8,9,6,7,8,9,10,10,0,0,11,12]
abbrev gv_2_s0 (a b c e d:Int):St:=⟨sp 41 [(0,.agg [aD a,.wd a,aD b,.wd b,aD c,.wd c,aD e,.wd e,aD d,.wd d]),(1,.ref 0 0),(2,.ref 1 0),(3,.ref 2 0),(4,aI 2),(6,.ref 3 0),(7,aI 2),(8,aT),(9,.tt),(10,aI 2),(11,aI 1),(12,.ref 0 0),(13,.ref 0 2),(14,.agg [aD b,.wd b]),(15,aI b.sign),(16,.lit (.bool (b.sign==0))),(17,.lit (.bool (b.sign==0))),(18,aI 3),(19,aI 2),(20,.ref 0 0),(21,aI 2),(22,.own 0 0 2 2),(23,aI 2),(24,aI 0),(25,aT),(26,.ref 0 0),(27,.agg [aD a,.wd a]),(28,.ref 2 0),(29,aN),(30,.agg [aD a,.wd a]),(31,.ni a),(32,.own 4 0 1 1),(33,.own 5 0 1 1),(34,.ref 2 0)],[.flat [aD a,.wd a,aD b,.wd b,aD c,.wd c,aD e,.wd e,aD d,.wd d] true,.flat [aN,aN] true,.flat [.own 5 0 1 1,aN] true,.flat [aD a,.wd a] true,.lst (EK.sl (.int .i64)) [aZ a] false,.lst (EK.sl (.int .i64)) [aZ a] true],[2,3]⟩
abbrev gv_2_s1 (a b c e d:Int):St:=⟨sp 41 [(0,.agg [aD a,.wd a,aD b,.wd b,aD c,.wd c,aD e,.wd e,aD d,.wd d]),(1,.ref 0 0),(2,.ref 1 0),(3,.ref 2 0),(4,aI 2),(6,.ref 6 0),(7,aI 2),(8,aT),(9,.tt),(10,aI 2),(11,aI 1),(12,.ref 0 0),(13,.ref 0 2),(14,.agg [aD b,.wd b]),(15,aI b.sign),(16,.lit (.bool (b.sign==0))),(17,.lit (.bool (b.sign==0))),(18,aI 3),(19,aI 2),(20,.ref 0 0),(21,aI 2),(22,.own 0 0 2 2),(23,aI 2),(24,aI 1),(25,aT),(26,.ref 0 2),(27,.agg [aD b,.wd b]),(28,.ref 2 0),(29,.own 5 0 1 1),(30,.agg [aD b,.wd b]),(31,.ni b),(32,.own 7 0 1 1),(33,.own 8 0 2 1),(34,.ref 2 0),(35,aI 1)],[.flat [aD a,.wd a,aD b,.wd b,aD c,.wd c,aD e,.wd e,aD d,.wd d] true,.flat [aN,aN] true,.flat [.own 8 0 2 1,aN] true,.flat [aD a,.wd a] true,.lst (EK.sl (.int .i64)) [aZ a] false,.dead,.flat [aD b,.wd b] true,.lst (EK.sl (.int .i64)) [aZ b] false,.lst (EK.sl (.int .i64)) [aZ a,aZ b] true],[2,3,5,6]⟩
theorem gv_2 (a b c e d:Int) (h1:e.sign=0) (h2:c.sign=0) (h3:b.sign≠0) (h4:dl a≤1048576) (h5:1≤List.length [aZ a]) (h6:0<(List.take 1 [aZ a]).length) (h7:(List.take 1 [aZ a]).length*24≤140737488355328) (h8:(List.take 1 [aZ a]).length≤4611686018427387904) (h9:dl b≤1048576) (h10:1≤List.length [aZ b]) (h11:((List.take 1 [aZ a]).length+(List.take 1 [aZ b]).length)*24≤140737488355328) (h12:(List.take 1 [aZ a]).length+(List.take 1 [aZ b]).length≤4611686018427387904) (h13:(List.take 1 [aZ a]).length≤(List.take 1 [aZ a]).length) (h14:dl d≤1048576) (h15:(List.take 1 [aZ a]).length+(List.take 1 [aZ b]).length≤((List.take 1 [aZ a]).take (List.take 1 [aZ a]).length++List.take 1 [aZ b]).length):FC Tryz.prog 86 [nuA a b c e d] (.agg [.lst (EK.sl (.int .i64)) [aZ a,aZ b],.ni d]):=fZ zle 60 [3,3,2] (.c (beq_iff_eq.2 h1)<|.c (beq_iff_eq.2 h2)<|.c (beq_false_of_ne h3)<|.c h4<|.c h5<|.t h6<|.t h7<|.t h8<|.s (gv_2_s0 a b c e d)<|.c h9<|.c h10<|.t h11<|.t h12<|.t h13<|.s (gv_2_s1 a b c e d)<|.c h14<|.c h15<|.o<|.o<|.e) [0,0,0,0,0,1,0,0,0,0,0,0,2,0,0,0,0,0,0,3,0,0,0,0,0,0,4,5,6,7,8,0,4,5,6,7,8,5,6,7,8,9,9,0,0,0,0,10,11,12,13,14,0,10,11,12,13,14,11,12,13,14,15,15,0,0,16,17]
abbrev zmo (a:Int) (b:Int) (c:Int) (e:Int) (d:Int):Row:=.flat [aD a,.wd a,aD b,.wd b,aD c,.wd c,aD e,.wd e,aD d,.wd d] true
abbrev zmp (a:Int) (b:Int) (c:Int) (e:Int) (d:Int):AV:=.agg [aD a,.wd a,aD b,.wd b,aD c,.wd c,aD e,.wd e,aD d,.wd d]
abbrev zfT (c:Int):AV:=.lit (.bool (c.sign==0))
abbrev zmq (a:Int):Row:=.lst (EK.sl (.int .i64)) [aZ a] false
abbrev gv_3_s0 (a b c e d:Int):St:=⟨sp 41 [(0,(zmp a b c e d)),(1,.ref 0 0),(2,.ref 1 0),(3,.ref 2 0),(4,aI 3),(6,.ref 3 0),(7,aI 3),(8,aT),(9,.tt),(10,aI 3),(11,aI 2),(12,.ref 0 0),(13,.ref 0 4),(14,.agg [aD c,.wd c]),(15,aI c.sign),(16,(zfT c)),(17,(zfT c)),(18,aI 4),(19,aI 3),(20,.ref 0 0),(21,aI 3),(22,.own 0 0 3 2),(23,aI 3),(24,aI 0),(25,aT),(26,.ref 0 0),(27,.agg [aD a,.wd a]),(28,.ref 2 0),(29,aN),(30,.agg [aD a,.wd a]),(31,.ni a),(32,.own 4 0 1 1),(33,.own 5 0 1 1),(34,.ref 2 0)],[(zmo a b c e d),.flat [aN,aN] true,.flat [.own 5 0 1 1,aN] true,.flat [aD a,.wd a] true,(zmq a),.lst (EK.sl (.int .i64)) [aZ a] true],[2,3]⟩
abbrev gv_3_s1 (a b c e d:Int):St:=⟨sp 41 [(0,(zmp a b c e d)),(1,.ref 0 0),(2,.ref 1 0),(3,.ref 2 0),(4,aI 3),(6,.ref 6 0),(7,aI 3),(8,aT),(9,.tt),(10,aI 3),(11,aI 2),(12,.ref 0 0),(13,.ref 0 4),(14,.agg [aD c,.wd c]),(15,aI c.sign),(16,(zfT c)),(17,(zfT c)),(18,aI 4),(19,aI 3),(20,.ref 0 0),(21,aI 3),(22,.own 0 0 3 2),(23,aI 3),(24,aI 1),(25,aT),(26,.ref 0 2),(27,.agg [aD b,.wd b]),(28,.ref 2 0),(29,.own 5 0 1 1),(30,.agg [aD b,.wd b]),(31,.ni b),(32,.own 7 0 1 1),(33,.own 8 0 2 1),(34,.ref 2 0),(35,aI 1)],[(zmo a b c e d),.flat [aN,aN] true,.flat [.own 8 0 2 1,aN] true,.flat [aD a,.wd a] true,(zmq a),.dead,.flat [aD b,.wd b] true,.lst (EK.sl (.int .i64)) [aZ b] false,.lst (EK.sl (.int .i64)) [aZ a,aZ b] true],[2,3,5,6]⟩
abbrev gv_3_s2 (a b c e d:Int):St:=⟨sp 41 [(0,(zmp a b c e d)),(1,.ref 0 0),(2,.ref 1 0),(3,.ref 2 0),(4,aI 3),(6,.ref 9 0),(7,aI 3),(8,aT),(9,.tt),(10,aI 3),(11,aI 2),(12,.ref 0 0),(13,.ref 0 4),(14,.agg [aD c,.wd c]),(15,aI c.sign),(16,(zfT c)),(17,(zfT c)),(18,aI 4),(19,aI 3),(20,.ref 0 0),(21,aI 3),(22,.own 0 0 3 2),(23,aI 3),(24,aI 2),(25,aT),(26,.ref 0 4),(27,.agg [aD c,.wd c]),(28,.ref 2 0),(29,.own 8 0 2 1),(30,.agg [aD c,.wd c]),(31,.ni c),(32,.own 10 0 1 1),(33,.own 11 0 3 1),(34,.ref 2 0),(35,aI 2)],[(zmo a b c e d),.flat [aN,aN] true,.flat [.own 11 0 3 1,aN] true,.flat [aD a,.wd a] true,(zmq a),.dead,.flat [aD b,.wd b] true,.lst (EK.sl (.int .i64)) [aZ b] false,.dead,.flat [aD c,.wd c] true,.lst (EK.sl (.int .i64)) [aZ c] false,.lst (EK.sl (.int .i64)) [aZ a,aZ b,aZ c] true],[2,3,5,6,8,9]⟩
theorem gv_3 (a b c e d:Int) (h1:e.sign=0) (h2:c.sign≠0) (h3:dl a≤1048576) (h4:1≤List.length [aZ a]) (h5:0<(List.take 1 [aZ a]).length) (h6:(List.take 1 [aZ a]).length*24≤140737488355328) (h7:(List.take 1 [aZ a]).length≤4611686018427387904) (h8:dl b≤1048576) (h9:1≤List.length [aZ b]) (h10:((List.take 1 [aZ a]).length+(List.take 1 [aZ b]).length)*24≤140737488355328) (h11:(List.take 1 [aZ a]).length+(List.take 1 [aZ b]).length≤4611686018427387904) (h12:(List.take 1 [aZ a]).length≤(List.take 1 [aZ a]).length) (h13:dl c≤1048576) (h14:1≤List.length [aZ c]) (h15:((List.take 1 [aZ a]).length+(List.take 1 [aZ b]).length+(List.take 1 [aZ c]).length)*24≤140737488355328) (h16:(List.take 1 [aZ a]).length+(List.take 1 [aZ b]).length+(List.take 1 [aZ c]).length≤4611686018427387904) (h17:(List.take 1 [aZ a]).length+(List.take 1 [aZ b]).length≤((List.take 1 [aZ a]).take (List.take 1 [aZ a]).length++List.take 1 [aZ b]).length) (h18:dl d≤1048576) (h19:(List.take 1 [aZ a]).length+(List.take 1 [aZ b]).length+(List.take 1 [aZ c]).length≤(((List.take 1 [aZ a]).take (List.take 1 [aZ a]).length++List.take 1 [aZ b]).take ((List.take 1 [aZ a]).length+(List.take 1 [aZ b]).length)++List.take 1 [aZ c]).length):FC Tryz.prog 86 [nuA a b c e d] (.agg [.lst (EK.sl (.int .i64)) [aZ a,aZ b,aZ c],.ni d]):=fZ zle 60 [3,2] (.c (beq_iff_eq.2 h1)<|.c (beq_false_of_ne h2)<|.c h3<|.c h4<|.t h5<|.t h6<|.t h7<|.s (gv_3_s0 a b c e d)<|.c h8<|.c h9<|.t h10<|.t h11<|.t h12<|.s (gv_3_s1 a b c e d)<|.c h13<|.c h14<|.t h15<|.t h16<|.t h17<|.s (gv_3_s2 a b c e d)<|.c h18<|.c h19<|.o<|.o<|.e) [0,0,0,0,0,1,0,0,0,0,0,0,2,0,0,0,0,0,0,3,4,5,6,7,0,3,4,5,6,7,4,5,6,7,8,8,0,0,0,0,9,10,11,12,13,0,9,10,11,12,13,10,11,12,13,14,14,0,0,0,0,15,16,17,18,19,0,15,16,17,18,19,16,17,18,19,20,20,0,0,21,22]
abbrev zjw (a:Int) (b:Int) (c:Int) (e:Int) (d:Int):Row:=.flat [aD a,.wd a,aD b,.wd b,aD c,.wd c,aD e,.wd e,aD d,.wd d] true
abbrev zjx (a:Int) (b:Int) (c:Int) (e:Int) (d:Int):AV:=.agg [aD a,.wd a,aD b,.wd b,aD c,.wd c,aD e,.wd e,aD d,.wd d]
abbrev zdD (e:Int):AV:=.lit (.bool (e.sign==0))
abbrev zjy (a:Int):Row:=.lst (EK.sl (.int .i64)) [aZ a] false
abbrev zmr (b:Int):Row:=.lst (EK.sl (.int .i64)) [aZ b] false
abbrev zjz:Row:=.flat [aN,aN] true
abbrev gv_4_s0 (a b c e d:Int):St:=⟨sp 41 [(0,(zjx a b c e d)),(1,.ref 0 0),(2,.ref 1 0),(3,.ref 2 0),(4,aI 4),(6,.ref 3 0),(7,aI 4),(8,aT),(9,.tt),(10,aI 4),(11,aI 3),(12,.ref 0 0),(13,.ref 0 6),(14,.agg [aD e,.wd e]),(15,aI e.sign),(16,(zdD e)),(17,(zdD e)),(20,.ref 0 0),(21,aI 4),(22,.own 0 0 4 2),(23,aI 4),(24,aI 0),(25,aT),(26,.ref 0 0),(27,.agg [aD a,.wd a]),(28,.ref 2 0),(29,aN),(30,.agg [aD a,.wd a]),(31,.ni a),(32,.own 4 0 1 1),(33,.own 5 0 1 1),(34,.ref 2 0)],[(zjw a b c e d),zjz,.flat [.own 5 0 1 1,aN] true,.flat [aD a,.wd a] true,(zjy a),.lst (EK.sl (.int .i64)) [aZ a] true],[2,3]⟩
abbrev gv_4_s1 (a b c e d:Int):St:=⟨sp 41 [(0,(zjx a b c e d)),(1,.ref 0 0),(2,.ref 1 0),(3,.ref 2 0),(4,aI 4),(6,.ref 6 0),(7,aI 4),(8,aT),(9,.tt),(10,aI 4),(11,aI 3),(12,.ref 0 0),(13,.ref 0 6),(14,.agg [aD e,.wd e]),(15,aI e.sign),(16,(zdD e)),(17,(zdD e)),(20,.ref 0 0),(21,aI 4),(22,.own 0 0 4 2),(23,aI 4),(24,aI 1),(25,aT),(26,.ref 0 2),(27,.agg [aD b,.wd b]),(28,.ref 2 0),(29,.own 5 0 1 1),(30,.agg [aD b,.wd b]),(31,.ni b),(32,.own 7 0 1 1),(33,.own 8 0 2 1),(34,.ref 2 0),(35,aI 1)],[(zjw a b c e d),zjz,.flat [.own 8 0 2 1,aN] true,.flat [aD a,.wd a] true,(zjy a),.dead,.flat [aD b,.wd b] true,(zmr b),.lst (EK.sl (.int .i64)) [aZ a,aZ b] true],[2,3,5,6]⟩
abbrev gv_4_s2 (a b c e d:Int):St:=⟨sp 41 [(0,(zjx a b c e d)),(1,.ref 0 0),(2,.ref 1 0),(3,.ref 2 0),(4,aI 4),(6,.ref 9 0),(7,aI 4),(8,aT),(9,.tt),(10,aI 4),(11,aI 3),(12,.ref 0 0),(13,.ref 0 6),(14,.agg [aD e,.wd e]),(15,aI e.sign),(16,(zdD e)),(17,(zdD e)),(20,.ref 0 0),(21,aI 4),(22,.own 0 0 4 2),(23,aI 4),(24,aI 2),(25,aT),(26,.ref 0 4),(27,.agg [aD c,.wd c]),(28,.ref 2 0),(29,.own 8 0 2 1),(30,.agg [aD c,.wd c]),(31,.ni c),(32,.own 10 0 1 1),(33,.own 11 0 3 1),(34,.ref 2 0),(35,aI 2)],[(zjw a b c e d),zjz,.flat [.own 11 0 3 1,aN] true,.flat [aD a,.wd a] true,(zjy a),.dead,.flat [aD b,.wd b] true,(zmr b),.dead,.flat [aD c,.wd c] true,.lst (EK.sl (.int .i64)) [aZ c] false,.lst (EK.sl (.int .i64)) [aZ a,aZ b,aZ c] true],[2,3,5,6,8,9]⟩
abbrev gv_4_s3 (a b c e d:Int):St:=⟨sp 41 [(0,(zjx a b c e d)),(1,.ref 0 0),(2,.ref 1 0),(3,.ref 2 0),(4,aI 4),(6,.ref 12 0),(7,aI 4),(8,aT),(9,.tt),(10,aI 4),(11,aI 3),(12,.ref 0 0),(13,.ref 0 6),(14,.agg [aD e,.wd e]),(15,aI e.sign),(16,(zdD e)),(17,(zdD e)),(20,.ref 0 0),(21,aI 4),(22,.own 0 0 4 2),(23,aI 4),(24,aI 3),(25,aT),(26,.ref 0 6),(27,.agg [aD e,.wd e]),(28,.ref 2 0),(29,.own 11 0 3 1),(30,.agg [aD e,.wd e]),(31,.ni e),(32,.own 13 0 1 1),(33,.own 14 0 4 1),(34,.ref 2 0),(35,aI 3)],[(zjw a b c e d),zjz,.flat [.own 14 0 4 1,aN] true,.flat [aD a,.wd a] true,(zjy a),.dead,.flat [aD b,.wd b] true,(zmr b),.dead,.flat [aD c,.wd c] true,.lst (EK.sl (.int .i64)) [aZ c] false,.dead,.flat [aD e,.wd e] true,.lst (EK.sl (.int .i64)) [aZ e] false,.lst (EK.sl (.int .i64)) [aZ a,aZ b,aZ c,aZ e] true],[2,3,5,6,8,9,11,12]⟩
theorem gv_4 (a b c e d:Int) (h1:e.sign≠0) (h2:dl a≤1048576) (h3:1≤List.length [aZ a]) (h4:0<(List.take 1 [aZ a]).length) (h5:(List.take 1 [aZ a]).length*24≤140737488355328) (h6:(List.take 1 [aZ a]).length≤4611686018427387904) (h7:dl b≤1048576) (h8:1≤List.length [aZ b]) (h9:((List.take 1 [aZ a]).length+(List.take 1 [aZ b]).length)*24≤140737488355328) (h10:(List.take 1 [aZ a]).length+(List.take 1 [aZ b]).length≤4611686018427387904) (h11:(List.take 1 [aZ a]).length≤(List.take 1 [aZ a]).length) (h12:dl c≤1048576) (h13:1≤List.length [aZ c]) (h14:((List.take 1 [aZ a]).length+(List.take 1 [aZ b]).length+(List.take 1 [aZ c]).length)*24≤140737488355328) (h15:(List.take 1 [aZ a]).length+(List.take 1 [aZ b]).length+(List.take 1 [aZ c]).length≤4611686018427387904) (h16:(List.take 1 [aZ a]).length+(List.take 1 [aZ b]).length≤((List.take 1 [aZ a]).take (List.take 1 [aZ a]).length++List.take 1 [aZ b]).length) (h17:dl e≤1048576) (h18:1≤List.length [aZ e]) (h19:((List.take 1 [aZ a]).length+(List.take 1 [aZ b]).length+(List.take 1 [aZ c]).length+(List.take 1 [aZ e]).length)*24≤140737488355328) (h20:(List.take 1 [aZ a]).length+(List.take 1 [aZ b]).length+(List.take 1 [aZ c]).length+(List.take 1 [aZ e]).length≤4611686018427387904) (h21:(List.take 1 [aZ a]).length+(List.take 1 [aZ b]).length+(List.take 1 [aZ c]).length≤(((List.take 1 [aZ a]).take (List.take 1 [aZ a]).length++List.take 1 [aZ b]).take ((List.take 1 [aZ a]).length+(List.take 1 [aZ b]).length)++List.take 1 [aZ c]).length) (h22:dl d≤1048576) (h23:(List.take 1 [aZ a]).length+(List.take 1 [aZ b]).length+(List.take 1 [aZ c]).length+(List.take 1 [aZ e]).length≤((((List.take 1 [aZ a]).take (List.take 1 [aZ a]).length++List.take 1 [aZ b]).take ((List.take 1 [aZ a]).length+(List.take 1 [aZ b]).length)++List.take 1 [aZ c]).take ((List.take 1 [aZ a]).length+(List.take 1 [aZ b]).length+(List.take 1 [aZ c]).length)++List.take 1 [aZ e]).length):FC Tryz.prog 86 [nuA a b c e d] (.agg [.lst (EK.sl (.int .i64)) [aZ a,aZ b,aZ c,aZ e],.ni d]):=fZ zle 60 [2] (.c (beq_false_of_ne h1)<|.c h2<|.c h3<|.t h4<|.t h5<|.t h6<|.s (gv_4_s0 a b c e d)<|.c h7<|.c h8<|.t h9<|.t h10<|.t h11<|.s (gv_4_s1 a b c e d)<|.c h12<|.c h13<|.t h14<|.t h15<|.t h16<|.s (gv_4_s2 a b c e d)<|.c h17<|.c h18<|.t h19<|.t h20<|.t h21<|.s (gv_4_s3 a b c e d)<|.c h22<|.c h23<|.o<|.o<|.e) [0,0,0,0,0,1,0,0,0,0,0,0,2,3,4,5,6,0,2,3,4,5,6,3,4,5,6,7,7,0,0,0,0,8,9,10,11,12,0,8,9,10,11,12,9,10,11,12,13,13,0,0,0,0,14,15,16,17,18,0,14,15,16,17,18,15,16,17,18,19,19,0,0,0,0,20,21,22,23,24,0,20,21,22,23,24,21,22,23,24,25,25,0,0,26,27]
end
open Go.Kf
theorem tkSn {l:List Int} {k:Nat} (h:k<l.length):List.take k (List.take k l)++List.take 1 [l.getD k 0]=l.take (k+1):=by
  rw [List.take_take,Nat.min_self,List.take_succ_eq_append_getElem h]
  simp [List.getD,h]
def vlL (C:List (List Int)):List Int:=C.map vl
theorem zkk (C:List (List Int)):(vlL C).length=C.length:=by simp [vlL]
theorem zmO {C:List (List Int)} {i:Nat}:(vlL C).getD i 0=vl (C.getD i []):=by
  simp only [vlL,List.getD_eq_getElem?_getD,List.getElem?_map]
  cases C[i]? <;> rfl
def zol (D:List Int):Int:=if vl D=0 then 1 else vl D
theorem denZ_ne (D:List Int):zol D≠0:=by unfold zol;split<;>omega
def pTk (p:List Int) (C:List (List Int)) (D:List Int):Prop:=(2≤p.length∧p.length≤5∧∀x∈p,x.natAbs≤1000)∧C.length≤100∧(∀l∈C,zbu l∧Sz 20000 (vl l))∧zbu D∧Sz 20000 (vl D)
theorem tk_loop {p D:List Int} {C:List (List Int)} (h:pTk p C D):∀(m i:Nat),i+m=C.length→1≤i →
    zgt (zh3 p C C.length D i i ((vlL C).take i)) (Ex.exit 0,zef p C C.length D C.length C.length (vlL C))
  | 0,i,hi,_=>by
    obtain rfl:i=C.length:=by omega
    have:=tk_L0_1_1 p C C.length D C.length C.length ((vlL C).take C.length) (by omega)
    rw [show(vlL C).take C.length=vlL C by rw [← zkk,List.take_length]] at this ⊢
    exact this
  | m+1,i,hi,h1=>by
    have hlt:i<C.length:=by omega
    have hl:=h.2.1
    have hv:=zkk C
    have ih:=tk_loop h m (i+1) (by omega) (by omega)
    have e1:Int.toNat (i:Int)=i:=rfl
    have hg:C.getD i []=C[i]:=by rw [List.getD_eq_getElem?_getD,List.getElem?_eq_getElem hlt];rfl
    have hp:zbu (C.getD i []):=by rw [hg];exact(h.2.2.1 _ (List.getElem_mem hlt)).1
    have go:=@tk_L0_1_0 p C C.length D i i ((vlL C).take i) (by omega) (by omega) (by omega) hp (by simp) (by simp;omega) (by simp;omega) (by rw [List.length_take];omega) (by omega) (Ex.exit 0,zef p C C.length D C.length C.length (vlL C))
    rw [e1] at go
    rw [show List.take 1 [vl (C.getD i (EK.dflt (EK.sl (EK.int IntKind.i64))))]=List.take 1 [(vlL C).getD i 0] by rw [zmO];rfl,tkSn (by omega)] at go
    exact go ih
theorem redP_nil (p:List Int) (n:Nat):zaq p n []=[]:=by unfold zaq;rw [show([]:List Int).length-n=0 by simp];exact List.take_nil
theorem take_fc (p:List Int) (C:List (List Int)) (D:List Int) (h:pTk p C D):FC Tryz.prog 80 [reA (.lst .whole p),.agg [.lst (.sl (.int .i64)) C,.sq D]] (nuF (zaq p (p.length-1) (vlL C)) (zol D)):=by
  have h':=h
  obtain ⟨hp,hl,hC,hD,hsD⟩:=h'
  have hs:Int.sign (vl D)=0↔vl D=0:=Int.sign_eq_zero_iff_zero
  by_cases h0:C=[]
  · subst h0
    have K:=tk_L0_0_1 p [] 0 D (by omega)
    rw [show vlL []=[] from rfl,redP_nil]
    by_cases hd:vl D=0
    · have e:zol D=1:=if_pos hd
      rw [e]
      exact tk_0 p [] D K hD (hs.2 hd) (by unfold bZ;omega) ⟨hp.1,hp.2.1,by decide,Sz.lit (by decide) (by decide)⟩
    · have e:zol D=vl D:=if_neg hd
      rw [e]
      exact tk_1 p [] D K hD (fun k=>hd (hs.1 k)) ⟨hp.1,hp.2.1,hd,hsD⟩
  · have hpos:1≤C.length:=List.length_pos_iff.2 h0
    have hv:=zkk C
    have hg:C.getD 0 []=C[0]:=by rw [List.getD_eq_getElem?_getD,List.getElem?_eq_getElem (by omega)];rfl
    have hp0:zbu (C.getD 0 []):=by rw [hg];exact(hC _ (List.getElem_mem (by omega))).1
    have L:=tk_loop h (C.length-1) 1 (by omega) (by omega)
    have e1:[vl (C.getD 0 [])]=(vlL C).take 1:=by
      have:=tkSn (l:=vlL C) (k:=0) (by omega)
      rw [zmO] at this
      rw [← this];rfl
    have K:zgt (zeH p C C.length D) (Ex.exit 0,zef p C C.length D C.length C.length (vlL C)):=by
      refine tk_L0_0_0 p C C.length D (by omega) (by omega) hp0 (by simp) (by simp) (by simp) (by simp) ?_
      rw [← e1] at L
      exact L
    have tl:List.take C.length (vlL C)=vlL C:=by rw [← hv,List.take_length]
    have hz:∀j,Sz 20000 ((vlL C).getD j 0):=fun j=>by
      rw [zmO,List.getD_eq_getElem?_getD]
      by_cases hj:j<C.length
      · rw [List.getElem?_eq_getElem hj];exact(hC _ (List.getElem_mem hj)).2
      · rw [List.getElem?_eq_none (by omega)];exact Sz.zero
    have hne:vlL C≠[]:=fun e=>by rw [e] at hv;simp at hv;omega
    by_cases hd:vl D=0
    · have e:zol D=1:=if_pos hd
      rw [e]
      have:=tk_2 p C D C.length C.length (vlL C) K hD (hs.2 hd) (by unfold bZ;omega) (by omega) (by rw [tl];exact ⟨hp,hne,by omega,hz,by decide,Sz.lit (by decide) (by decide)⟩)
      rw [tl] at this
      exact this
    · have e:zol D=vl D:=if_neg hd
      rw [e]
      have:=tk_3 p C D C.length C.length (vlL C) K hD (fun k=>hd (hs.1 k)) (by omega) (by rw [tl];exact ⟨hp,hne,by omega,hz,hd,hsD⟩)
      rw [tl] at this
      exact this
def gvZ (a b c e d:Int):numK.ty:=((zaX [a,b,c,e]).map aZ,aZ d)
def pGv (a b c e d:Int):Prop:=zaK a∧zaK b∧zaK c∧zaK e∧zaK d
theorem Le.ni_sq (z:Int):Le (.ni z) (.sq (aZ z)):=fun E v h=>h.toSq rfl
theorem give_fc (a b c e d:Int) (h:pGv a b c e d):FC Tryz.prog 86 [nuA a b c e d] (numK.val (gvZ a b c e d)):=by
  obtain ⟨ha,hb,hc,he,hd⟩:=h
  have s0:∀ {z:Int},Int.sign z=0↔z=0:=Int.sign_eq_zero_iff_zero
  have fin:∀ {x:AV} {l:List (List Int)},Le x (.lst (.sl (.int .i64)) l)→Le (.agg [x,.ni d]) (.agg [.lst (.sl (.int .i64)) l,.sq (aZ d)]):=fun h=>Le.agg (.cons h (.cons (Le.ni_sq d) .nil))
  by_cases h3:e=0
  · by_cases h2:c=0
    · by_cases h1:b=0
      · by_cases h0:a=0
        · have ht:zaX [a,b,c,e]=[]:=by rw [h0,h1,h2,h3];rfl
          unfold gvZ;rw [ht]
          exact(gv_0 a b c e d (s0.2 h3) (s0.2 h2) (s0.2 h1) (s0.2 h0) hd).le (LeL.refl _) (fin (nil_lst _))
        · have ht:zaX [a,b,c,e]=[a]:=by rw [h1,h2,h3];simp [zaX,h0]
          unfold gvZ;rw [ht]
          exact(gv_1 a b c e d (s0.2 h3) (s0.2 h2) (s0.2 h1) (fun k=>h0 (s0.1 k)) ha (by simp) (by simp) (by simp) (by simp) hd (by simp)).le (LeL.refl _) (fin (Le.refl _))
      · have ht:zaX [a,b,c,e]=[a,b]:=by rw [h2,h3];simp [zaX,h1]
        unfold gvZ;rw [ht]
        exact(gv_2 a b c e d (s0.2 h3) (s0.2 h2) (fun k=>h1 (s0.1 k)) ha (by simp) (by simp) (by simp) (by simp) hb (by simp) (by simp) (by simp) (by simp) hd (by simp)).le (LeL.refl _) (fin (Le.refl _))
    · have ht:zaX [a,b,c,e]=[a,b,c]:=by rw [h3];simp [zaX,h2]
      unfold gvZ;rw [ht]
      exact(gv_3 a b c e d (s0.2 h3) (fun k=>h2 (s0.1 k)) ha (by simp) (by simp) (by simp) (by simp) hb (by simp) (by simp) (by simp) (by simp) hc (by simp) (by simp) (by simp) (by simp) hd (by simp)).le (LeL.refl _) (fin (Le.refl _))
  · have ht:zaX [a,b,c,e]=[a,b,c,e]:=by simp [zaX,h3]
    unfold gvZ;rw [ht]
    exact(gv_4 a b c e d (fun k=>h3 (s0.1 k)) ha (by simp) (by simp) (by simp) (by simp) hb (by simp) (by simp) (by simp) (by simp) hc (by simp) (by simp) (by simp) (by simp) he (by simp) (by simp) (by simp) (by simp) hd (by simp)).le (LeL.refl _) (fin (Le.refl _))
noncomputable section
theorem np_0 (a b c e d f g h i j:Int):FunI (dZ Tryz.prog ctrL bw) 60 92 [nuA a b c e d,nuA f g h i j] [1,1,1,1,0] [] [0,0,1,0,0,0,0,0,0,0,2,0,0,3,0,0,4,0,0,0,0,0,0,0,0,0,0,5,0,0,6,0,0,7,0,0,0,0,0,0,0,0,0,0,8,0,0,9,0,0,10,0,0,0,0,0,0,0,0,0,0,11,0,0,12,0,0,13,0,0,0,0,0,0,0,0,0,14] (.agg [.lit (.bool (decide ((a*j+f*d) / gc5 (a*j+f*d) (b*j+g*d) (c*j+h*d) (e*j+i*d) (d*j)<0))),.wd ((a*j+f*d) / gc5 (a*j+f*d) (b*j+g*d) (c*j+h*d) (e*j+i*d) (d*j)),.lit (.bool (decide ((b*j+g*d) / gc5 (a*j+f*d) (b*j+g*d) (c*j+h*d) (e*j+i*d) (d*j)<0))),.wd ((b*j+g*d) / gc5 (a*j+f*d) (b*j+g*d) (c*j+h*d) (e*j+i*d) (d*j)),.lit (.bool (decide ((c*j+h*d) / gc5 (a*j+f*d) (b*j+g*d) (c*j+h*d) (e*j+i*d) (d*j)<0))),.wd ((c*j+h*d) / gc5 (a*j+f*d) (b*j+g*d) (c*j+h*d) (e*j+i*d) (d*j)),.lit (.bool (decide ((e*j+i*d) / gc5 (a*j+f*d) (b*j+g*d) (c*j+h*d) (e*j+i*d) (d*j)<0))),.wd ((e*j+i*d) / gc5 (a*j+f*d) (b*j+g*d) (c*j+h*d) (e*j+i*d) (d*j)),.lit (.bool (decide (d*j / gc5 (a*j+f*d) (b*j+g*d) (c*j+h*d) (e*j+i*d) (d*j)<0))),.wd (d*j / gc5 (a*j+f*d) (b*j+g*d) (c*j+h*d) (e*j+i*d) (d*j))]) [pDD d j,pDD a j,pDD f d,pDD (a*j) (f*d),pDD b j,pDD g d,pDD (b*j) (g*d),pDD c j,pDD h d,pDD (c*j) (h*d),pDD e j,pDD i d,pDD (e*j) (i*d),pNu (a*j+f*d) (b*j+g*d) (c*j+h*d) (e*j+i*d) (d*j)]:={}
end
theorem pNu_sz {a b c e d:Int} {i j k m n:Nat} [ha:SzC a i] [hb:SzC b j] [hc:SzC c k] [he:SzC e m] [hd:SzC d n] (h0:d≠0) (hi:i≤50000) (hj:j≤50000) (hk:k≤50000) (hm:m≤50000) (hn:n≤50000):pNu a b c e d:=
  ⟨h0,ha.ok.mono hi,hb.ok.mono hj,hc.ok.mono hk,he.ok.mono hm,hd.ok.mono hn⟩
def pNs (a b c e d:Int):Prop:=d≠0∧Sz 2000 a∧Sz 2000 b∧Sz 2000 c∧Sz 2000 e∧Sz 2000 d
instance tstNs {a b c e d:Int}:Tst (pNs a b c e d):=inferInstanceAs (Tst (d≠0∧Sz 2000 a∧Sz 2000 b∧Sz 2000 c∧Sz 2000 e∧Sz 2000 d))
theorem znt (a b c e d f g h i j:Int) (hx:pNs a b c e d) (hy:pNs f g h i j) :
    FC Tryz.prog 92 [nuA a b c e d,nuA f g h i j] (loA (a*j+f*d) (b*j+g*d) (c*j+h*d) (e*j+i*d) (d*j)):=by
  obtain ⟨hd,h1,h2,h3,h4,h5⟩:=hx
  obtain ⟨hj,k1,k2,k3,k4,k5⟩:=hy
  have ia:SzC a 2000:=⟨h1⟩
  have ib:SzC b 2000:=⟨h2⟩
  have ic:SzC c 2000:=⟨h3⟩
  have ie:SzC e 2000:=⟨h4⟩
  have id:SzC d 2000:=⟨h5⟩
  have if':SzC f 2000:=⟨k1⟩
  have ig:SzC g 2000:=⟨k2⟩
  have ih:SzC h 2000:=⟨k3⟩
  have ii:SzC i 2000:=⟨k4⟩
  have ij:SzC j 2000:=⟨k5⟩
  have hm:d*j≠0:=Int.mul_ne_zero hd hj
  exact mZ okL (np_0 a b c e d f g h i j) (by(repeat' (first | exact AllC.nil | refine AllC.cons ?_ ?_));all_goals (first | (with_reducible rfl) | (with_reducible exact nZ (by decide) (by decide)) | (with_reducible exact pNu_sz (by assumption) (by decide) (by decide) (by decide) (by decide) (by decide)) | rfl | trivial))
def cNp (args:List AV):M AV:=match args with
  | [x,y]=>do
    let q ← zqn x
    let q2 ← zqn y
    match q,q2 with
    | (a,b,c,e,d),(f,g,h,i,j)=>do
      tellD (pNs a b c e d∧pNs f g h i j) (Tst.b (pNs a b c e d∧pNs f g h i j))
      gives (loA (a*j+f*d) (b*j+g*d) (c*j+h*d) (e*j+i*d) (d*j))
  | _=>fail 262
theorem cNp_ok:lZ Tryz.prog 92 cNp:=by
  intro args _
  unfold cNp
  split
  · exact Spec.bind (asNu_spec.mono fun q hq=>Spec.bind (asNu_spec.mono fun q2 hq2=>Spec.bind (Spec.tellD Tst.ok fun h=>Spec.gives ((znt _ _ _ _ _ _ _ _ _ _ h.1 h.2).le (.cons hq (.cons hq2 .nil)) (Le.refl _)))))
  · exact Spec.fail
noncomputable section
abbrev znY (l:Int) (m:Int):AV:=.pd [aJ,aJ,aJ,aJ,.lst EK.whole [l,m],aJ,aJ,aJ,aJ,aJ,aJ,aJ] 0
abbrev tma_0_s0 (l m a b c e d f g h i j:Int):St:=⟨sp 53 [(0,(znY l m)),(1,.agg [aD a,.wd a,aD b,.wd b,aD c,.wd c,aD e,.wd e,aD d,.wd d]),(2,.agg [aD f,.wd f,aD g,.wd g,aD h,.wd h,aD i,.wd i,aD j,.wd j]),(4,.ref 0 0),(5,.ref 1 0),(6,.ref 2 0),(7,aI ((1:Int))),(8,.ref 3 0),(9,aI 0),(10,aI 0),(11,(znY l m)),(12,aI ((1:Int))),(13,aI ((1:Int))),(14,aI 0),(15,aT),(16,aI 0),(17,aI ((1:Int))),(18,aI 0),(19,aT),(20,aI 0),(21,aI 0),(22,aI 0),(23,aI 0),(24,aI 0),(25,aI 0),(26,aI 0),(27,.ref 3 0),(28,.agg [aF,aN]),(29,aI 0),(30,.ref 0 0),(31,.ref 0 0),(32,.agg [aD a,.wd a]),(33,aI 0),(34,.ref 1 0),(35,.ref 1 0),(36,.agg [aD f,.wd f]),(37,.agg [.lit (.bool (decide (a*f<0))),.wd (a*f)]),(38,.agg [.lit (.bool (decide (0+a*f<0))),.wd (0+a*f)]),(39,.ref 3 0)],[.flat [aD a,.wd a,aD b,.wd b,aD c,.wd c,aD e,.wd e,aD d,.wd d] true,.flat [aD f,.wd f,aD g,.wd g,aD h,.wd h,aD i,.wd i,aD j,.wd j] true,.flat [aF,aN,aF,aN,aF,aN,aF,aN,aF,aN] true,.flat [.lit (.bool (decide (0+a*f<0))),.wd (0+a*f),aF,aN,aF,aN,aF,aN,aF,aN,aF,aN,aF,aN] true],[3]⟩
theorem tma_0 (l m a b c e d f g h i j:Int) (h1:r64 ((1:Int))) (h2:pDD a f) (h3:pDD 0 (a*f)) (h4:r64 (2*((1:Int)))) (h5:r64 (2*((1:Int))-1)) (h6:0≤2*((1:Int))-1) (h7:2*((1:Int))-1≤7) (h8:pDD d j) (h9:zmC [l,m] [0+a*f] (d*j)):FC Tryz.prog 84 [reA (.lst .whole [l,m]),nuA a b c e d,nuA f g h i j] (nuF (zaq [l,m] (List.length [l,m]-1) [0+a*f]) (d*j)):=fZ zle 60 [] (.i h1<|.c h2<|.c h3<|.s (tma_0_s0 l m a b c e d f g h i j)<|.i h4<|.i h5<|.t h6<|.t h7<|.c h8<|.c h9<|.o<|.o<|.e) [1,0,0,0,0,0,0,0,0,0,0,2,0,0,3,0,0,0,0,2,0,0,3,0,0,4,0,0,5,6,0,7,8,0,0,9,0,0,10]
abbrev zcy (l:Int) (m:Int) (n:Int):AV:=.pd [aJ,aJ,aJ,aJ,.lst EK.whole [l,m,n],aJ,aJ,aJ,aJ,aJ,aJ,aJ] 0
abbrev zgU (a:Int) (b:Int) (c:Int) (e:Int) (d:Int):Row:=.flat [aD a,.wd a,aD b,.wd b,aD c,.wd c,aD e,.wd e,aD d,.wd d] true
abbrev zgV (f:Int) (g:Int) (h:Int) (i:Int) (j:Int):Row:=.flat [aD f,.wd f,aD g,.wd g,aD h,.wd h,aD i,.wd i,aD j,.wd j] true
abbrev zgW (a:Int) (b:Int) (c:Int) (e:Int) (d:Int):AV:=.agg [aD a,.wd a,aD b,.wd b,aD c,.wd c,aD e,.wd e,aD d,.wd d]
abbrev zgX (f:Int) (g:Int) (h:Int) (i:Int) (j:Int):AV:=.agg [aD f,.wd f,aD g,.wd g,aD h,.wd h,aD i,.wd i,aD j,.wd j]
abbrev zah:AV:=aI ((2:Int))
abbrev zgY:Row:=.flat [aF,aN,aF,aN,aF,aN,aF,aN,aF,aN] true
abbrev tmb_0_s0 (l m n a b c e d f g h i j:Int):St:=⟨sp 53 [(0,(zcy l m n)),(1,(zgW a b c e d)),(2,(zgX f g h i j)),(4,.ref 0 0),(5,.ref 1 0),(6,.ref 2 0),(7,zah),(8,.ref 3 0),(9,aI 0),(10,aI 0),(11,(zcy l m n)),(12,zah),(13,zah),(14,aI 0),(15,aT),(16,aI 0),(17,zah),(18,aI 0),(19,aT),(20,aI 0),(21,aI 0),(22,aI 0),(23,aI 0),(24,aI 0),(25,aI 0),(26,aI 0),(27,.ref 3 0),(28,.agg [aF,aN]),(29,aI 0),(30,.ref 0 0),(31,.ref 0 0),(32,.agg [aD a,.wd a]),(33,aI 0),(34,.ref 1 0),(35,.ref 1 0),(36,.agg [aD f,.wd f]),(37,.agg [.lit (.bool (decide (a*f<0))),.wd (a*f)]),(38,.agg [.lit (.bool (decide (0+a*f<0))),.wd (0+a*f)]),(39,.ref 3 0)],[(zgU a b c e d),(zgV f g h i j),zgY,.flat [.lit (.bool (decide (0+a*f<0))),.wd (0+a*f),aF,aN,aF,aN,aF,aN,aF,aN,aF,aN,aF,aN] true],[3]⟩
abbrev tmb_0_s1 (l m n a b c e d f g h i j:Int):St:=⟨sp 53 [(0,(zcy l m n)),(1,(zgW a b c e d)),(2,(zgX f g h i j)),(4,.ref 0 0),(5,.ref 1 0),(6,.ref 2 0),(7,zah),(8,.ref 3 0),(9,aI 0),(10,aI 1),(11,(zcy l m n)),(12,zah),(13,zah),(14,aI 0),(15,aT),(16,aI 0),(17,zah),(18,aI 1),(19,aT),(20,aI 1),(21,aI 0),(22,aI 1),(23,aI 1),(24,aI 0),(25,aI 1),(26,aI 1),(27,.ref 3 2),(28,.agg [aF,aN]),(29,aI 0),(30,.ref 0 0),(31,.ref 0 0),(32,.agg [aD a,.wd a]),(33,aI 1),(34,.ref 1 0),(35,.ref 1 2),(36,.agg [aD g,.wd g]),(37,.agg [.lit (.bool (decide (a*g<0))),.wd (a*g)]),(38,.agg [.lit (.bool (decide (0+a*g<0))),.wd (0+a*g)]),(39,.ref 3 2),(40,aI 1)],[(zgU a b c e d),(zgV f g h i j),zgY,.flat [.lit (.bool (decide (0+a*f<0))),.wd (0+a*f),.lit (.bool (decide (0+a*g<0))),.wd (0+a*g),aF,aN,aF,aN,aF,aN,aF,aN,aF,aN] true],[3,3]⟩
abbrev tmb_0_s2 (l m n a b c e d f g h i j:Int):St:=⟨sp 53 [(0,(zcy l m n)),(1,(zgW a b c e d)),(2,(zgX f g h i j)),(4,.ref 0 0),(5,.ref 1 0),(6,.ref 2 0),(7,zah),(8,.ref 3 0),(9,aI 1),(10,aI 0),(11,(zcy l m n)),(12,zah),(13,zah),(14,aI 1),(15,aT),(16,aI 1),(17,zah),(18,aI 0),(19,aT),(20,aI 0),(21,aI 1),(22,aI 0),(23,aI 1),(24,aI 1),(25,aI 0),(26,aI 1),(27,.ref 3 2),(28,.agg [.lit (.bool (decide (0+a*g<0))),.wd (0+a*g)]),(29,aI 1),(30,.ref 0 0),(31,.ref 0 2),(32,.agg [aD b,.wd b]),(33,aI 0),(34,.ref 1 0),(35,.ref 1 0),(36,.agg [aD f,.wd f]),(37,.agg [.lit (.bool (decide (b*f<0))),.wd (b*f)]),(38,.agg [.lit (.bool (decide (0+a*g+b*f<0))),.wd (0+a*g+b*f)]),(39,.ref 3 2),(40,aI 2),(41,aI 1)],[(zgU a b c e d),(zgV f g h i j),zgY,.flat [.lit (.bool (decide (0+a*f<0))),.wd (0+a*f),.lit (.bool (decide (0+a*g+b*f<0))),.wd (0+a*g+b*f),aF,aN,aF,aN,aF,aN,aF,aN,aF,aN] true],[3,3,3]⟩
abbrev tmb_0_s3 (l m n a b c e d f g h i j:Int):St:=⟨sp 53 [(0,(zcy l m n)),(1,(zgW a b c e d)),(2,(zgX f g h i j)),(4,.ref 0 0),(5,.ref 1 0),(6,.ref 2 0),(7,zah),(8,.ref 3 0),(9,aI 1),(10,aI 1),(11,(zcy l m n)),(12,zah),(13,zah),(14,aI 1),(15,aT),(16,aI 1),(17,zah),(18,aI 1),(19,aT),(20,aI 1),(21,aI 1),(22,aI 1),(23,aI 2),(24,aI 1),(25,aI 1),(26,aI 2),(27,.ref 3 4),(28,.agg [aF,aN]),(29,aI 1),(30,.ref 0 0),(31,.ref 0 2),(32,.agg [aD b,.wd b]),(33,aI 1),(34,.ref 1 0),(35,.ref 1 2),(36,.agg [aD g,.wd g]),(37,.agg [.lit (.bool (decide (b*g<0))),.wd (b*g)]),(38,.agg [.lit (.bool (decide (0+b*g<0))),.wd (0+b*g)]),(39,.ref 3 4),(40,aI 1),(41,aI 1)],[(zgU a b c e d),(zgV f g h i j),zgY,.flat [.lit (.bool (decide (0+a*f<0))),.wd (0+a*f),.lit (.bool (decide (0+a*g+b*f<0))),.wd (0+a*g+b*f),.lit (.bool (decide (0+b*g<0))),.wd (0+b*g),aF,aN,aF,aN,aF,aN,aF,aN] true],[3,3,3,3]⟩
theorem tmb_0 (l m n a b c e d f g h i j:Int) (h1:r64 ((2:Int))) (h2:pDD a f) (h3:pDD 0 (a*f)) (h4:pDD a g) (h5:pDD 0 (a*g)) (h6:pDD b f) (h7:pDD (0+a*g) (b*f)) (h8:pDD b g) (h9:pDD 0 (b*g)) (h10:r64 (2*((2:Int)))) (h11:r64 (2*((2:Int))-1)) (h12:0≤2*((2:Int))-1) (h13:2*((2:Int))-1≤7) (h14:pDD d j) (h15:zmC [l,m,n] [0+a*f,0+a*g+b*f,0+b*g] (d*j)):FC Tryz.prog 84 [reA (.lst .whole [l,m,n]),nuA a b c e d,nuA f g h i j] (nuF (zaq [l,m,n] (List.length [l,m,n]-1) [0+a*f,0+a*g+b*f,0+b*g]) (d*j)):=fZ zle 60 [] (.i h1<|.c h2<|.c h3<|.s (tmb_0_s0 l m n a b c e d f g h i j)<|.c h4<|.c h5<|.s (tmb_0_s1 l m n a b c e d f g h i j)<|.c h6<|.c h7<|.s (tmb_0_s2 l m n a b c e d f g h i j)<|.c h8<|.c h9<|.s (tmb_0_s3 l m n a b c e d f g h i j)<|.i h10<|.i h11<|.t h12<|.t h13<|.c h14<|.c h15<|.o<|.o<|.o<|.e) [1,0,0,0,0,0,0,0,0,0,0,2,0,0,3,0,0,0,0,2,0,0,3,0,0,4,0,0,0,0,0,0,0,0,0,0,0,5,0,0,6,0,0,0,0,5,0,0,6,0,0,7,0,0,0,0,0,0,0,0,0,0,0,0,8,0,0,9,0,0,0,0,8,0,0,9,0,0,10,0,0,0,0,0,0,0,0,0,0,0,11,0,0,12,0,0,0,0,11,0,0,12,0,0,13,0,0,14,15,0,16,17,0,0,18,0,0,0,0,19]
abbrev VZ (l:Int) (m:Int) (n:Int) (o:Int):AV:=.pd [aJ,aJ,aJ,aJ,.lst EK.whole [l,m,n,o],aJ,aJ,aJ,aJ,aJ,aJ,aJ] 0
abbrev zbU (a:Int) (b:Int) (c:Int) (e:Int) (d:Int):Row:=.flat [aD a,.wd a,aD b,.wd b,aD c,.wd c,aD e,.wd e,aD d,.wd d] true
abbrev zbV (f:Int) (g:Int) (h:Int) (i:Int) (j:Int):Row:=.flat [aD f,.wd f,aD g,.wd g,aD h,.wd h,aD i,.wd i,aD j,.wd j] true
abbrev zbW (a:Int) (b:Int) (c:Int) (e:Int) (d:Int):AV:=.agg [aD a,.wd a,aD b,.wd b,aD c,.wd c,aD e,.wd e,aD d,.wd d]
abbrev zbX (f:Int) (g:Int) (h:Int) (i:Int) (j:Int):AV:=.agg [aD f,.wd f,aD g,.wd g,aD h,.wd h,aD i,.wd i,aD j,.wd j]
abbrev sZ:AV:=aI ((3:Int))
abbrev zbY:Row:=.flat [aF,aN,aF,aN,aF,aN,aF,aN,aF,aN] true
abbrev tmc_0_s0 (l m n o a b c e d f g h i j:Int):St:=⟨sp 53 [(0,(VZ l m n o)),(1,(zbW a b c e d)),(2,(zbX f g h i j)),(4,.ref 0 0),(5,.ref 1 0),(6,.ref 2 0),(7,sZ),(8,.ref 3 0),(9,aI 0),(10,aI 0),(11,(VZ l m n o)),(12,sZ),(13,sZ),(14,aI 0),(15,aT),(16,aI 0),(17,sZ),(18,aI 0),(19,aT),(20,aI 0),(21,aI 0),(22,aI 0),(23,aI 0),(24,aI 0),(25,aI 0),(26,aI 0),(27,.ref 3 0),(28,.agg [aF,aN]),(29,aI 0),(30,.ref 0 0),(31,.ref 0 0),(32,.agg [aD a,.wd a]),(33,aI 0),(34,.ref 1 0),(35,.ref 1 0),(36,.agg [aD f,.wd f]),(37,.agg [.lit (.bool (decide (a*f<0))),.wd (a*f)]),(38,.agg [.lit (.bool (decide (0+a*f<0))),.wd (0+a*f)]),(39,.ref 3 0)],[(zbU a b c e d),(zbV f g h i j),zbY,.flat [.lit (.bool (decide (0+a*f<0))),.wd (0+a*f),aF,aN,aF,aN,aF,aN,aF,aN,aF,aN,aF,aN] true],[3]⟩
abbrev tmc_0_s1 (l m n o a b c e d f g h i j:Int):St:=⟨sp 53 [(0,(VZ l m n o)),(1,(zbW a b c e d)),(2,(zbX f g h i j)),(4,.ref 0 0),(5,.ref 1 0),(6,.ref 2 0),(7,sZ),(8,.ref 3 0),(9,aI 0),(10,aI 1),(11,(VZ l m n o)),(12,sZ),(13,sZ),(14,aI 0),(15,aT),(16,aI 0),(17,sZ),(18,aI 1),(19,aT),(20,aI 1),(21,aI 0),(22,aI 1),(23,aI 1),(24,aI 0),(25,aI 1),(26,aI 1),(27,.ref 3 2),(28,.agg [aF,aN]),(29,aI 0),(30,.ref 0 0),(31,.ref 0 0),(32,.agg [aD a,.wd a]),(33,aI 1),(34,.ref 1 0),(35,.ref 1 2),(36,.agg [aD g,.wd g]),(37,.agg [.lit (.bool (decide (a*g<0))),.wd (a*g)]),(38,.agg [.lit (.bool (decide (0+a*g<0))),.wd (0+a*g)]),(39,.ref 3 2),(40,aI 1)],[(zbU a b c e d),(zbV f g h i j),zbY,.flat [.lit (.bool (decide (0+a*f<0))),.wd (0+a*f),.lit (.bool (decide (0+a*g<0))),.wd (0+a*g),aF,aN,aF,aN,aF,aN,aF,aN,aF,aN] true],[3,3]⟩
abbrev tmc_0_s2 (l m n o a b c e d f g h i j:Int):St:=⟨sp 53 [(0,(VZ l m n o)),(1,(zbW a b c e d)),(2,(zbX f g h i j)),(4,.ref 0 0),(5,.ref 1 0),(6,.ref 2 0),(7,sZ),(8,.ref 3 0),(9,aI 0),(10,aI 2),(11,(VZ l m n o)),(12,sZ),(13,sZ),(14,aI 0),(15,aT),(16,aI 0),(17,sZ),(18,aI 2),(19,aT),(20,aI 2),(21,aI 0),(22,aI 2),(23,aI 2),(24,aI 0),(25,aI 2),(26,aI 2),(27,.ref 3 4),(28,.agg [aF,aN]),(29,aI 0),(30,.ref 0 0),(31,.ref 0 0),(32,.agg [aD a,.wd a]),(33,aI 2),(34,.ref 1 0),(35,.ref 1 4),(36,.agg [aD h,.wd h]),(37,.agg [.lit (.bool (decide (a*h<0))),.wd (a*h)]),(38,.agg [.lit (.bool (decide (0+a*h<0))),.wd (0+a*h)]),(39,.ref 3 4),(40,aI 2)],[(zbU a b c e d),(zbV f g h i j),zbY,.flat [.lit (.bool (decide (0+a*f<0))),.wd (0+a*f),.lit (.bool (decide (0+a*g<0))),.wd (0+a*g),.lit (.bool (decide (0+a*h<0))),.wd (0+a*h),aF,aN,aF,aN,aF,aN,aF,aN] true],[3,3,3]⟩
abbrev tmc_0_s3 (l m n o a b c e d f g h i j:Int):St:=⟨sp 53 [(0,(VZ l m n o)),(1,(zbW a b c e d)),(2,(zbX f g h i j)),(4,.ref 0 0),(5,.ref 1 0),(6,.ref 2 0),(7,sZ),(8,.ref 3 0),(9,aI 1),(10,aI 0),(11,(VZ l m n o)),(12,sZ),(13,sZ),(14,aI 1),(15,aT),(16,aI 1),(17,sZ),(18,aI 0),(19,aT),(20,aI 0),(21,aI 1),(22,aI 0),(23,aI 1),(24,aI 1),(25,aI 0),(26,aI 1),(27,.ref 3 2),(28,.agg [.lit (.bool (decide (0+a*g<0))),.wd (0+a*g)]),(29,aI 1),(30,.ref 0 0),(31,.ref 0 2),(32,.agg [aD b,.wd b]),(33,aI 0),(34,.ref 1 0),(35,.ref 1 0),(36,.agg [aD f,.wd f]),(37,.agg [.lit (.bool (decide (b*f<0))),.wd (b*f)]),(38,.agg [.lit (.bool (decide (0+a*g+b*f<0))),.wd (0+a*g+b*f)]),(39,.ref 3 2),(40,aI 3),(41,aI 1)],[(zbU a b c e d),(zbV f g h i j),zbY,.flat [.lit (.bool (decide (0+a*f<0))),.wd (0+a*f),.lit (.bool (decide (0+a*g+b*f<0))),.wd (0+a*g+b*f),.lit (.bool (decide (0+a*h<0))),.wd (0+a*h),aF,aN,aF,aN,aF,aN,aF,aN] true],[3,3,3,3]⟩
abbrev tmc_0_s4 (l m n o a b c e d f g h i j:Int):St:=⟨sp 53 [(0,(VZ l m n o)),(1,(zbW a b c e d)),(2,(zbX f g h i j)),(4,.ref 0 0),(5,.ref 1 0),(6,.ref 2 0),(7,sZ),(8,.ref 3 0),(9,aI 1),(10,aI 1),(11,(VZ l m n o)),(12,sZ),(13,sZ),(14,aI 1),(15,aT),(16,aI 1),(17,sZ),(18,aI 1),(19,aT),(20,aI 1),(21,aI 1),(22,aI 1),(23,aI 2),(24,aI 1),(25,aI 1),(26,aI 2),(27,.ref 3 4),(28,.agg [.lit (.bool (decide (0+a*h<0))),.wd (0+a*h)]),(29,aI 1),(30,.ref 0 0),(31,.ref 0 2),(32,.agg [aD b,.wd b]),(33,aI 1),(34,.ref 1 0),(35,.ref 1 2),(36,.agg [aD g,.wd g]),(37,.agg [.lit (.bool (decide (b*g<0))),.wd (b*g)]),(38,.agg [.lit (.bool (decide (0+a*h+b*g<0))),.wd (0+a*h+b*g)]),(39,.ref 3 4),(40,aI 1),(41,aI 1)],[(zbU a b c e d),(zbV f g h i j),zbY,.flat [.lit (.bool (decide (0+a*f<0))),.wd (0+a*f),.lit (.bool (decide (0+a*g+b*f<0))),.wd (0+a*g+b*f),.lit (.bool (decide (0+a*h+b*g<0))),.wd (0+a*h+b*g),aF,aN,aF,aN,aF,aN,aF,aN] true],[3,3,3,3,3]⟩
abbrev tmc_0_s5 (l m n o a b c e d f g h i j:Int):St:=⟨sp 53 [(0,(VZ l m n o)),(1,(zbW a b c e d)),(2,(zbX f g h i j)),(4,.ref 0 0),(5,.ref 1 0),(6,.ref 2 0),(7,sZ),(8,.ref 3 0),(9,aI 1),(10,aI 2),(11,(VZ l m n o)),(12,sZ),(13,sZ),(14,aI 1),(15,aT),(16,aI 1),(17,sZ),(18,aI 2),(19,aT),(20,aI 2),(21,aI 1),(22,aI 2),(23,aI 3),(24,aI 1),(25,aI 2),(26,aI 3),(27,.ref 3 6),(28,.agg [aF,aN]),(29,aI 1),(30,.ref 0 0),(31,.ref 0 2),(32,.agg [aD b,.wd b]),(33,aI 2),(34,.ref 1 0),(35,.ref 1 4),(36,.agg [aD h,.wd h]),(37,.agg [.lit (.bool (decide (b*h<0))),.wd (b*h)]),(38,.agg [.lit (.bool (decide (0+b*h<0))),.wd (0+b*h)]),(39,.ref 3 6),(40,aI 2),(41,aI 1)],[(zbU a b c e d),(zbV f g h i j),zbY,.flat [.lit (.bool (decide (0+a*f<0))),.wd (0+a*f),.lit (.bool (decide (0+a*g+b*f<0))),.wd (0+a*g+b*f),.lit (.bool (decide (0+a*h+b*g<0))),.wd (0+a*h+b*g),.lit (.bool (decide (0+b*h<0))),.wd (0+b*h),aF,aN,aF,aN,aF,aN] true],[3,3,3,3,3,3]⟩
abbrev tmc_0_s6 (l m n o a b c e d f g h i j:Int):St:=⟨sp 53 [(0,(VZ l m n o)),(1,(zbW a b c e d)),(2,(zbX f g h i j)),(4,.ref 0 0),(5,.ref 1 0),(6,.ref 2 0),(7,sZ),(8,.ref 3 0),(9,aI 2),(10,aI 0),(11,(VZ l m n o)),(12,sZ),(13,sZ),(14,aI 2),(15,aT),(16,aI 2),(17,sZ),(18,aI 0),(19,aT),(20,aI 0),(21,aI 2),(22,aI 0),(23,aI 2),(24,aI 2),(25,aI 0),(26,aI 2),(27,.ref 3 4),(28,.agg [.lit (.bool (decide (0+a*h+b*g<0))),.wd (0+a*h+b*g)]),(29,aI 2),(30,.ref 0 0),(31,.ref 0 4),(32,.agg [aD c,.wd c]),(33,aI 0),(34,.ref 1 0),(35,.ref 1 0),(36,.agg [aD f,.wd f]),(37,.agg [.lit (.bool (decide (c*f<0))),.wd (c*f)]),(38,.agg [.lit (.bool (decide (0+a*h+b*g+c*f<0))),.wd (0+a*h+b*g+c*f)]),(39,.ref 3 4),(40,aI 3),(41,aI 2)],[(zbU a b c e d),(zbV f g h i j),zbY,.flat [.lit (.bool (decide (0+a*f<0))),.wd (0+a*f),.lit (.bool (decide (0+a*g+b*f<0))),.wd (0+a*g+b*f),.lit (.bool (decide (0+a*h+b*g+c*f<0))),.wd (0+a*h+b*g+c*f),.lit (.bool (decide (0+b*h<0))),.wd (0+b*h),aF,aN,aF,aN,aF,aN] true],[3,3,3,3,3,3,3]⟩
abbrev tmc_0_s7 (l m n o a b c e d f g h i j:Int):St:=⟨sp 53 [(0,(VZ l m n o)),(1,(zbW a b c e d)),(2,(zbX f g h i j)),(4,.ref 0 0),(5,.ref 1 0),(6,.ref 2 0),(7,sZ),(8,.ref 3 0),(9,aI 2),(10,aI 1),(11,(VZ l m n o)),(12,sZ),(13,sZ),(14,aI 2),(15,aT),(16,aI 2),(17,sZ),(18,aI 1),(19,aT),(20,aI 1),(21,aI 2),(22,aI 1),(23,aI 3),(24,aI 2),(25,aI 1),(26,aI 3),(27,.ref 3 6),(28,.agg [.lit (.bool (decide (0+b*h<0))),.wd (0+b*h)]),(29,aI 2),(30,.ref 0 0),(31,.ref 0 4),(32,.agg [aD c,.wd c]),(33,aI 1),(34,.ref 1 0),(35,.ref 1 2),(36,.agg [aD g,.wd g]),(37,.agg [.lit (.bool (decide (c*g<0))),.wd (c*g)]),(38,.agg [.lit (.bool (decide (0+b*h+c*g<0))),.wd (0+b*h+c*g)]),(39,.ref 3 6),(40,aI 1),(41,aI 2)],[(zbU a b c e d),(zbV f g h i j),zbY,.flat [.lit (.bool (decide (0+a*f<0))),.wd (0+a*f),.lit (.bool (decide (0+a*g+b*f<0))),.wd (0+a*g+b*f),.lit (.bool (decide (0+a*h+b*g+c*f<0))),.wd (0+a*h+b*g+c*f),.lit (.bool (decide (0+b*h+c*g<0))),.wd (0+b*h+c*g),aF,aN,aF,aN,aF,aN] true],[3,3,3,3,3,3,3,3]⟩
abbrev tmc_0_s8 (l m n o a b c e d f g h i j:Int):St:=⟨sp 53 [(0,(VZ l m n o)),(1,(zbW a b c e d)),(2,(zbX f g h i j)),(4,.ref 0 0),(5,.ref 1 0),(6,.ref 2 0),(7,sZ),(8,.ref 3 0),(9,aI 2),(10,aI 2),(11,(VZ l m n o)),(12,sZ),(13,sZ),(14,aI 2),(15,aT),(16,aI 2),(17,sZ),(18,aI 2),(19,aT),(20,aI 2),(21,aI 2),(22,aI 2),(23,aI 4),(24,aI 2),(25,aI 2),(26,aI 4),(27,.ref 3 8),(28,.agg [aF,aN]),(29,aI 2),(30,.ref 0 0),(31,.ref 0 4),(32,.agg [aD c,.wd c]),(33,aI 2),(34,.ref 1 0),(35,.ref 1 4),(36,.agg [aD h,.wd h]),(37,.agg [.lit (.bool (decide (c*h<0))),.wd (c*h)]),(38,.agg [.lit (.bool (decide (0+c*h<0))),.wd (0+c*h)]),(39,.ref 3 8),(40,aI 2),(41,aI 2)],[(zbU a b c e d),(zbV f g h i j),zbY,.flat [.lit (.bool (decide (0+a*f<0))),.wd (0+a*f),.lit (.bool (decide (0+a*g+b*f<0))),.wd (0+a*g+b*f),.lit (.bool (decide (0+a*h+b*g+c*f<0))),.wd (0+a*h+b*g+c*f),.lit (.bool (decide (0+b*h+c*g<0))),.wd (0+b*h+c*g),.lit (.bool (decide (0+c*h<0))),.wd (0+c*h),aF,aN,aF,aN] true],[3,3,3,3,3,3,3,3,3]⟩
theorem tmc_0 (l m n p a b c e d f g h i j:Int) (h1:r64 ((3:Int))) (h2:pDD a f) (h3:pDD 0 (a*f)) (h4:pDD a g) (h5:pDD 0 (a*g)) (h6:pDD a h) (h7:pDD 0 (a*h)) (h8:pDD b f) (h9:pDD (0+a*g) (b*f)) (h10:pDD b g) (h11:pDD (0+a*h) (b*g)) (h12:pDD b h) (h13:pDD 0 (b*h)) (h14:pDD c f) (h15:pDD (0+a*h+b*g) (c*f)) (h16:pDD c g) (h17:pDD (0+b*h) (c*g)) (h18:pDD c h) (h19:pDD 0 (c*h)) (h20:r64 (2*((3:Int)))) (h21:r64 (2*((3:Int))-1)) (h22:0≤2*((3:Int))-1) (h23:2*((3:Int))-1≤7) (h24:pDD d j) (h25:zmC [l,m,n,p] [0+a*f,0+a*g+b*f,0+a*h+b*g+c*f,0+b*h+c*g,0+c*h] (d*j)):FC Tryz.prog 84 [reA (.lst .whole [l,m,n,p]),nuA a b c e d,nuA f g h i j] (nuF (zaq [l,m,n,p] (List.length [l,m,n,p]-1) [0+a*f,0+a*g+b*f,0+a*h+b*g+c*f,0+b*h+c*g,0+c*h]) (d*j)):=fZ zle 60 [] (.i h1<|.c h2<|.c h3<|.s (tmc_0_s0 l m n p a b c e d f g h i j)<|.c h4<|.c h5<|.s (tmc_0_s1 l m n p a b c e d f g h i j)<|.c h6<|.c h7<|.s (tmc_0_s2 l m n p a b c e d f g h i j)<|.c h8<|.c h9<|.s (tmc_0_s3 l m n p a b c e d f g h i j)<|.c h10<|.c h11<|.s (tmc_0_s4 l m n p a b c e d f g h i j)<|.c h12<|.c h13<|.s (tmc_0_s5 l m n p a b c e d f g h i j)<|.c h14<|.c h15<|.s (tmc_0_s6 l m n p a b c e d f g h i j)<|.c h16<|.c h17<|.s (tmc_0_s7 l m n p a b c e d f g h i j)<|.c h18<|.c h19<|.s (tmc_0_s8 l m n p a b c e d f g h i j)<|.i h20<|.i h21<|.t h22<|.t h23<|.c h24<|.c h25<|.o<|.o<|.o<|.o<|.e) [1,0,0,0,0,0,0,0,0,0,0,2,0,0,3,0,0,0,0,2,0,0,3,0,0,4,0,0,0,0,0,0,0,0,0,0,0,5,0,0,6,0,0,0,0,5,0,0,6,0,0,7,0,0,0,0,0,0,0,0,0,0,0,8,0,0,9,0,0,0,0,8,0,0,9,0,0,10,0,0,0,0,0,0,0,0,0,0,0,0,11,0,0,12,0,0,0,0,11,0,0,12,0,0,13,0,0,0,0,0,0,0,0,0,0,0,14,0,0,15,0,0,0,0,14,0,0,15,0,0,16,0,0,0,0,0,0,0,0,0,0,0,17,0,0,18,0,0,0,0,17,0,0,18,0,0,19,0,0,0,0,0,0,0,0,0,0,0,0,20,0,0,21,0,0,0,0,20,0,0,21,0,0,22,0,0,0,0,0,0,0,0,0,0,0,23,0,0,24,0,0,0,0,23,0,0,24,0,0,25,0,0,0,0,0,0,0,0,0,0,0,26,0,0,27,0,0,0,0,26,0,0,27,0,0,28,0,0,29,30,0,31,32,0,0,33,0,0,0,0,0,0,34]
abbrev xZ (l:Int) (m:Int) (n:Int) (o:Int) (p:Int):AV:=.pd [aJ,aJ,aJ,aJ,.lst EK.whole [l,m,n,o,p],aJ,aJ,aJ,aJ,aJ,aJ,aJ] 0
abbrev zai (a:Int) (b:Int) (c:Int) (e:Int) (d:Int):Row:=.flat [aD a,.wd a,aD b,.wd b,aD c,.wd c,aD e,.wd e,aD d,.wd d] true
abbrev zaj (f:Int) (g:Int) (h:Int) (i:Int) (j:Int):Row:=.flat [aD f,.wd f,aD g,.wd g,aD h,.wd h,aD i,.wd i,aD j,.wd j] true
abbrev zak (a:Int) (b:Int) (c:Int) (e:Int) (d:Int):AV:=.agg [aD a,.wd a,aD b,.wd b,aD c,.wd c,aD e,.wd e,aD d,.wd d]
abbrev zal (f:Int) (g:Int) (h:Int) (i:Int) (j:Int):AV:=.agg [aD f,.wd f,aD g,.wd g,aD h,.wd h,aD i,.wd i,aD j,.wd j]
abbrev gZ:AV:=aI ((4:Int))
abbrev zam:Row:=.flat [aF,aN,aF,aN,aF,aN,aF,aN,aF,aN] true
abbrev tmd_0_s0 (l m n o p a b c e d f g h i j:Int):St:=⟨sp 53 [(0,(xZ l m n o p)),(1,(zak a b c e d)),(2,(zal f g h i j)),(4,.ref 0 0),(5,.ref 1 0),(6,.ref 2 0),(7,gZ),(8,.ref 3 0),(9,aI 0),(10,aI 0),(11,(xZ l m n o p)),(12,gZ),(13,gZ),(14,aI 0),(15,aT),(16,aI 0),(17,gZ),(18,aI 0),(19,aT),(20,aI 0),(21,aI 0),(22,aI 0),(23,aI 0),(24,aI 0),(25,aI 0),(26,aI 0),(27,.ref 3 0),(28,.agg [aF,aN]),(29,aI 0),(30,.ref 0 0),(31,.ref 0 0),(32,.agg [aD a,.wd a]),(33,aI 0),(34,.ref 1 0),(35,.ref 1 0),(36,.agg [aD f,.wd f]),(37,.agg [.lit (.bool (decide (a*f<0))),.wd (a*f)]),(38,.agg [.lit (.bool (decide (0+a*f<0))),.wd (0+a*f)]),(39,.ref 3 0)],[(zai a b c e d),(zaj f g h i j),zam,.flat [.lit (.bool (decide (0+a*f<0))),.wd (0+a*f),aF,aN,aF,aN,aF,aN,aF,aN,aF,aN,aF,aN] true],[3]⟩
abbrev tmd_0_s1 (l m n o p a b c e d f g h i j:Int):St:=⟨sp 53 [(0,(xZ l m n o p)),(1,(zak a b c e d)),(2,(zal f g h i j)),(4,.ref 0 0),(5,.ref 1 0),(6,.ref 2 0),(7,gZ),(8,.ref 3 0),(9,aI 0),(10,aI 1),(11,(xZ l m n o p)),(12,gZ),(13,gZ),(14,aI 0),(15,aT),(16,aI 0),(17,gZ),(18,aI 1),(19,aT),(20,aI 1),(21,aI 0),(22,aI 1),(23,aI 1),(24,aI 0),(25,aI 1),(26,aI 1),(27,.ref 3 2),(28,.agg [aF,aN]),(29,aI 0),(30,.ref 0 0),(31,.ref 0 0),(32,.agg [aD a,.wd a]),(33,aI 1),(34,.ref 1 0),(35,.ref 1 2),(36,.agg [aD g,.wd g]),(37,.agg [.lit (.bool (decide (a*g<0))),.wd (a*g)]),(38,.agg [.lit (.bool (decide (0+a*g<0))),.wd (0+a*g)]),(39,.ref 3 2),(40,aI 1)],[(zai a b c e d),(zaj f g h i j),zam,.flat [.lit (.bool (decide (0+a*f<0))),.wd (0+a*f),.lit (.bool (decide (0+a*g<0))),.wd (0+a*g),aF,aN,aF,aN,aF,aN,aF,aN,aF,aN] true],[3,3]⟩
abbrev tmd_0_s2 (l m n o p a b c e d f g h i j:Int):St:=⟨sp 53 [(0,(xZ l m n o p)),(1,(zak a b c e d)),(2,(zal f g h i j)),(4,.ref 0 0),(5,.ref 1 0),(6,.ref 2 0),(7,gZ),(8,.ref 3 0),(9,aI 0),(10,aI 2),(11,(xZ l m n o p)),(12,gZ),(13,gZ),(14,aI 0),(15,aT),(16,aI 0),(17,gZ),(18,aI 2),(19,aT),(20,aI 2),(21,aI 0),(22,aI 2),(23,aI 2),(24,aI 0),(25,aI 2),(26,aI 2),(27,.ref 3 4),(28,.agg [aF,aN]),(29,aI 0),(30,.ref 0 0),(31,.ref 0 0),(32,.agg [aD a,.wd a]),(33,aI 2),(34,.ref 1 0),(35,.ref 1 4),(36,.agg [aD h,.wd h]),(37,.agg [.lit (.bool (decide (a*h<0))),.wd (a*h)]),(38,.agg [.lit (.bool (decide (0+a*h<0))),.wd (0+a*h)]),(39,.ref 3 4),(40,aI 2)],[(zai a b c e d),(zaj f g h i j),zam,.flat [.lit (.bool (decide (0+a*f<0))),.wd (0+a*f),.lit (.bool (decide (0+a*g<0))),.wd (0+a*g),.lit (.bool (decide (0+a*h<0))),.wd (0+a*h),aF,aN,aF,aN,aF,aN,aF,aN] true],[3,3,3]⟩
abbrev tmd_0_s3 (l m n o p a b c e d f g h i j:Int):St:=⟨sp 53 [(0,(xZ l m n o p)),(1,(zak a b c e d)),(2,(zal f g h i j)),(4,.ref 0 0),(5,.ref 1 0),(6,.ref 2 0),(7,gZ),(8,.ref 3 0),(9,aI 0),(10,aI 3),(11,(xZ l m n o p)),(12,gZ),(13,gZ),(14,aI 0),(15,aT),(16,aI 0),(17,gZ),(18,aI 3),(19,aT),(20,aI 3),(21,aI 0),(22,aI 3),(23,aI 3),(24,aI 0),(25,aI 3),(26,aI 3),(27,.ref 3 6),(28,.agg [aF,aN]),(29,aI 0),(30,.ref 0 0),(31,.ref 0 0),(32,.agg [aD a,.wd a]),(33,aI 3),(34,.ref 1 0),(35,.ref 1 6),(36,.agg [aD i,.wd i]),(37,.agg [.lit (.bool (decide (a*i<0))),.wd (a*i)]),(38,.agg [.lit (.bool (decide (0+a*i<0))),.wd (0+a*i)]),(39,.ref 3 6),(40,aI 3)],[(zai a b c e d),(zaj f g h i j),zam,.flat [.lit (.bool (decide (0+a*f<0))),.wd (0+a*f),.lit (.bool (decide (0+a*g<0))),.wd (0+a*g),.lit (.bool (decide (0+a*h<0))),.wd (0+a*h),.lit (.bool (decide (0+a*i<0))),.wd (0+a*i),aF,aN,aF,aN,aF,aN] true],[3,3,3,3]⟩
abbrev tmd_0_s4 (l m n o p a b c e d f g h i j:Int):St:=⟨sp 53 [(0,(xZ l m n o p)),(1,(zak a b c e d)),(2,(zal f g h i j)),(4,.ref 0 0),(5,.ref 1 0),(6,.ref 2 0),(7,gZ),(8,.ref 3 0),(9,aI 1),(10,aI 0),(11,(xZ l m n o p)),(12,gZ),(13,gZ),(14,aI 1),(15,aT),(16,aI 1),(17,gZ),(18,aI 0),(19,aT),(20,aI 0),(21,aI 1),(22,aI 0),(23,aI 1),(24,aI 1),(25,aI 0),(26,aI 1),(27,.ref 3 2),(28,.agg [.lit (.bool (decide (0+a*g<0))),.wd (0+a*g)]),(29,aI 1),(30,.ref 0 0),(31,.ref 0 2),(32,.agg [aD b,.wd b]),(33,aI 0),(34,.ref 1 0),(35,.ref 1 0),(36,.agg [aD f,.wd f]),(37,.agg [.lit (.bool (decide (b*f<0))),.wd (b*f)]),(38,.agg [.lit (.bool (decide (0+a*g+b*f<0))),.wd (0+a*g+b*f)]),(39,.ref 3 2),(40,aI 4),(41,aI 1)],[(zai a b c e d),(zaj f g h i j),zam,.flat [.lit (.bool (decide (0+a*f<0))),.wd (0+a*f),.lit (.bool (decide (0+a*g+b*f<0))),.wd (0+a*g+b*f),.lit (.bool (decide (0+a*h<0))),.wd (0+a*h),.lit (.bool (decide (0+a*i<0))),.wd (0+a*i),aF,aN,aF,aN,aF,aN] true],[3,3,3,3,3]⟩
abbrev tmd_0_s5 (l m n o p a b c e d f g h i j:Int):St:=⟨sp 53 [(0,(xZ l m n o p)),(1,(zak a b c e d)),(2,(zal f g h i j)),(4,.ref 0 0),(5,.ref 1 0),(6,.ref 2 0),(7,gZ),(8,.ref 3 0),(9,aI 1),(10,aI 1),(11,(xZ l m n o p)),(12,gZ),(13,gZ),(14,aI 1),(15,aT),(16,aI 1),(17,gZ),(18,aI 1),(19,aT),(20,aI 1),(21,aI 1),(22,aI 1),(23,aI 2),(24,aI 1),(25,aI 1),(26,aI 2),(27,.ref 3 4),(28,.agg [.lit (.bool (decide (0+a*h<0))),.wd (0+a*h)]),(29,aI 1),(30,.ref 0 0),(31,.ref 0 2),(32,.agg [aD b,.wd b]),(33,aI 1),(34,.ref 1 0),(35,.ref 1 2),(36,.agg [aD g,.wd g]),(37,.agg [.lit (.bool (decide (b*g<0))),.wd (b*g)]),(38,.agg [.lit (.bool (decide (0+a*h+b*g<0))),.wd (0+a*h+b*g)]),(39,.ref 3 4),(40,aI 1),(41,aI 1)],[(zai a b c e d),(zaj f g h i j),zam,.flat [.lit (.bool (decide (0+a*f<0))),.wd (0+a*f),.lit (.bool (decide (0+a*g+b*f<0))),.wd (0+a*g+b*f),.lit (.bool (decide (0+a*h+b*g<0))),.wd (0+a*h+b*g),.lit (.bool (decide (0+a*i<0))),.wd (0+a*i),aF,aN,aF,aN,aF,aN] true],[3,3,3,3,3,3]⟩
abbrev tmd_0_s6 (l m n o p a b c e d f g h i j:Int):St:=⟨sp 53 [(0,(xZ l m n o p)),(1,(zak a b c e d)),(2,(zal f g h i j)),(4,.ref 0 0),(5,.ref 1 0),(6,.ref 2 0),(7,gZ),(8,.ref 3 0),(9,aI 1),(10,aI 2),(11,(xZ l m n o p)),(12,gZ),(13,gZ),(14,aI 1),(15,aT),(16,aI 1),(17,gZ),(18,aI 2),(19,aT),(20,aI 2),(21,aI 1),(22,aI 2),(23,aI 3),(24,aI 1),(25,aI 2),(26,aI 3),(27,.ref 3 6),(28,.agg [.lit (.bool (decide (0+a*i<0))),.wd (0+a*i)]),(29,aI 1),(30,.ref 0 0),(31,.ref 0 2),(32,.agg [aD b,.wd b]),(33,aI 2),(34,.ref 1 0),(35,.ref 1 4),(36,.agg [aD h,.wd h]),(37,.agg [.lit (.bool (decide (b*h<0))),.wd (b*h)]),(38,.agg [.lit (.bool (decide (0+a*i+b*h<0))),.wd (0+a*i+b*h)]),(39,.ref 3 6),(40,aI 2),(41,aI 1)],[(zai a b c e d),(zaj f g h i j),zam,.flat [.lit (.bool (decide (0+a*f<0))),.wd (0+a*f),.lit (.bool (decide (0+a*g+b*f<0))),.wd (0+a*g+b*f),.lit (.bool (decide (0+a*h+b*g<0))),.wd (0+a*h+b*g),.lit (.bool (decide (0+a*i+b*h<0))),.wd (0+a*i+b*h),aF,aN,aF,aN,aF,aN] true],[3,3,3,3,3,3,3]⟩
abbrev tmd_0_s7 (l m n o p a b c e d f g h i j:Int):St:=⟨sp 53 [(0,(xZ l m n o p)),(1,(zak a b c e d)),(2,(zal f g h i j)),(4,.ref 0 0),(5,.ref 1 0),(6,.ref 2 0),(7,gZ),(8,.ref 3 0),(9,aI 1),(10,aI 3),(11,(xZ l m n o p)),(12,gZ),(13,gZ),(14,aI 1),(15,aT),(16,aI 1),(17,gZ),(18,aI 3),(19,aT),(20,aI 3),(21,aI 1),(22,aI 3),(23,aI 4),(24,aI 1),(25,aI 3),(26,aI 4),(27,.ref 3 8),(28,.agg [aF,aN]),(29,aI 1),(30,.ref 0 0),(31,.ref 0 2),(32,.agg [aD b,.wd b]),(33,aI 3),(34,.ref 1 0),(35,.ref 1 6),(36,.agg [aD i,.wd i]),(37,.agg [.lit (.bool (decide (b*i<0))),.wd (b*i)]),(38,.agg [.lit (.bool (decide (0+b*i<0))),.wd (0+b*i)]),(39,.ref 3 8),(40,aI 3),(41,aI 1)],[(zai a b c e d),(zaj f g h i j),zam,.flat [.lit (.bool (decide (0+a*f<0))),.wd (0+a*f),.lit (.bool (decide (0+a*g+b*f<0))),.wd (0+a*g+b*f),.lit (.bool (decide (0+a*h+b*g<0))),.wd (0+a*h+b*g),.lit (.bool (decide (0+a*i+b*h<0))),.wd (0+a*i+b*h),.lit (.bool (decide (0+b*i<0))),.wd (0+b*i),aF,aN,aF,aN] true],[3,3,3,3,3,3,3,3]⟩
abbrev tmd_0_s8 (l m n o p a b c e d f g h i j:Int):St:=⟨sp 53 [(0,(xZ l m n o p)),(1,(zak a b c e d)),(2,(zal f g h i j)),(4,.ref 0 0),(5,.ref 1 0),(6,.ref 2 0),(7,gZ),(8,.ref 3 0),(9,aI 2),(10,aI 0),(11,(xZ l m n o p)),(12,gZ),(13,gZ),(14,aI 2),(15,aT),(16,aI 2),(17,gZ),(18,aI 0),(19,aT),(20,aI 0),(21,aI 2),(22,aI 0),(23,aI 2),(24,aI 2),(25,aI 0),(26,aI 2),(27,.ref 3 4),(28,.agg [.lit (.bool (decide (0+a*h+b*g<0))),.wd (0+a*h+b*g)]),(29,aI 2),(30,.ref 0 0),(31,.ref 0 4),(32,.agg [aD c,.wd c]),(33,aI 0),(34,.ref 1 0),(35,.ref 1 0),(36,.agg [aD f,.wd f]),(37,.agg [.lit (.bool (decide (c*f<0))),.wd (c*f)]),(38,.agg [.lit (.bool (decide (0+a*h+b*g+c*f<0))),.wd (0+a*h+b*g+c*f)]),(39,.ref 3 4),(40,aI 4),(41,aI 2)],[(zai a b c e d),(zaj f g h i j),zam,.flat [.lit (.bool (decide (0+a*f<0))),.wd (0+a*f),.lit (.bool (decide (0+a*g+b*f<0))),.wd (0+a*g+b*f),.lit (.bool (decide (0+a*h+b*g+c*f<0))),.wd (0+a*h+b*g+c*f),.lit (.bool (decide (0+a*i+b*h<0))),.wd (0+a*i+b*h),.lit (.bool (decide (0+b*i<0))),.wd (0+b*i),aF,aN,aF,aN] true],[3,3,3,3,3,3,3,3,3]⟩
abbrev tmd_0_s9 (l m n o p a b c e d f g h i j:Int):St:=⟨sp 53 [(0,(xZ l m n o p)),(1,(zak a b c e d)),(2,(zal f g h i j)),(4,.ref 0 0),(5,.ref 1 0),(6,.ref 2 0),(7,gZ),(8,.ref 3 0),(9,aI 2),(10,aI 1),(11,(xZ l m n o p)),(12,gZ),(13,gZ),(14,aI 2),(15,aT),(16,aI 2),(17,gZ),(18,aI 1),(19,aT),(20,aI 1),(21,aI 2),(22,aI 1),(23,aI 3),(24,aI 2),(25,aI 1),(26,aI 3),(27,.ref 3 6),(28,.agg [.lit (.bool (decide (0+a*i+b*h<0))),.wd (0+a*i+b*h)]),(29,aI 2),(30,.ref 0 0),(31,.ref 0 4),(32,.agg [aD c,.wd c]),(33,aI 1),(34,.ref 1 0),(35,.ref 1 2),(36,.agg [aD g,.wd g]),(37,.agg [.lit (.bool (decide (c*g<0))),.wd (c*g)]),(38,.agg [.lit (.bool (decide (0+a*i+b*h+c*g<0))),.wd (0+a*i+b*h+c*g)]),(39,.ref 3 6),(40,aI 1),(41,aI 2)],[(zai a b c e d),(zaj f g h i j),zam,.flat [.lit (.bool (decide (0+a*f<0))),.wd (0+a*f),.lit (.bool (decide (0+a*g+b*f<0))),.wd (0+a*g+b*f),.lit (.bool (decide (0+a*h+b*g+c*f<0))),.wd (0+a*h+b*g+c*f),.lit (.bool (decide (0+a*i+b*h+c*g<0))),.wd (0+a*i+b*h+c*g),.lit (.bool (decide (0+b*i<0))),.wd (0+b*i),aF,aN,aF,aN] true],[3,3,3,3,3,3,3,3,3,3]⟩
abbrev tmd_0_s10 (l m n o p a b c e d f g h i j:Int):St:=⟨sp 53 [(0,(xZ l m n o p)),(1,(zak a b c e d)),(2,(zal f g h i j)),(4,.ref 0 0),(5,.ref 1 0),(6,.ref 2 0),(7,gZ),(8,.ref 3 0),(9,aI 2),(10,aI 2),(11,(xZ l m n o p)),(12,gZ),(13,gZ),(14,aI 2),(15,aT),(16,aI 2),(17,gZ),(18,aI 2),(19,aT),(20,aI 2),(21,aI 2),(22,aI 2),(23,aI 4),(24,aI 2),(25,aI 2),(26,aI 4),(27,.ref 3 8),(28,.agg [.lit (.bool (decide (0+b*i<0))),.wd (0+b*i)]),(29,aI 2),(30,.ref 0 0),(31,.ref 0 4),(32,.agg [aD c,.wd c]),(33,aI 2),(34,.ref 1 0),(35,.ref 1 4),(36,.agg [aD h,.wd h]),(37,.agg [.lit (.bool (decide (c*h<0))),.wd (c*h)]),(38,.agg [.lit (.bool (decide (0+b*i+c*h<0))),.wd (0+b*i+c*h)]),(39,.ref 3 8),(40,aI 2),(41,aI 2)],[(zai a b c e d),(zaj f g h i j),zam,.flat [.lit (.bool (decide (0+a*f<0))),.wd (0+a*f),.lit (.bool (decide (0+a*g+b*f<0))),.wd (0+a*g+b*f),.lit (.bool (decide (0+a*h+b*g+c*f<0))),.wd (0+a*h+b*g+c*f),.lit (.bool (decide (0+a*i+b*h+c*g<0))),.wd (0+a*i+b*h+c*g),.lit (.bool (decide (0+b*i+c*h<0))),.wd (0+b*i+c*h),aF,aN,aF,aN] true],[3,3,3,3,3,3,3,3,3,3,3]⟩
abbrev tmd_0_s11 (l m n o p a b c e d f g h i j:Int):St:=⟨sp 53 [(0,(xZ l m n o p)),(1,(zak a b c e d)),(2,(zal f g h i j)),(4,.ref 0 0),(5,.ref 1 0),(6,.ref 2 0),(7,gZ),(8,.ref 3 0),(9,aI 2),(10,aI 3),(11,(xZ l m n o p)),(12,gZ),(13,gZ),(14,aI 2),(15,aT),(16,aI 2),(17,gZ),(18,aI 3),(19,aT),(20,aI 3),(21,aI 2),(22,aI 3),(23,aI 5),(24,aI 2),(25,aI 3),(26,aI 5),(27,.ref 3 10),(28,.agg [aF,aN]),(29,aI 2),(30,.ref 0 0),(31,.ref 0 4),(32,.agg [aD c,.wd c]),(33,aI 3),(34,.ref 1 0),(35,.ref 1 6),(36,.agg [aD i,.wd i]),(37,.agg [.lit (.bool (decide (c*i<0))),.wd (c*i)]),(38,.agg [.lit (.bool (decide (0+c*i<0))),.wd (0+c*i)]),(39,.ref 3 10),(40,aI 3),(41,aI 2)],[(zai a b c e d),(zaj f g h i j),zam,.flat [.lit (.bool (decide (0+a*f<0))),.wd (0+a*f),.lit (.bool (decide (0+a*g+b*f<0))),.wd (0+a*g+b*f),.lit (.bool (decide (0+a*h+b*g+c*f<0))),.wd (0+a*h+b*g+c*f),.lit (.bool (decide (0+a*i+b*h+c*g<0))),.wd (0+a*i+b*h+c*g),.lit (.bool (decide (0+b*i+c*h<0))),.wd (0+b*i+c*h),.lit (.bool (decide (0+c*i<0))),.wd (0+c*i),aF,aN] true],[3,3,3,3,3,3,3,3,3,3,3,3]⟩
abbrev tmd_0_s12 (l m n o p a b c e d f g h i j:Int):St:=⟨sp 53 [(0,(xZ l m n o p)),(1,(zak a b c e d)),(2,(zal f g h i j)),(4,.ref 0 0),(5,.ref 1 0),(6,.ref 2 0),(7,gZ),(8,.ref 3 0),(9,aI 3),(10,aI 0),(11,(xZ l m n o p)),(12,gZ),(13,gZ),(14,aI 3),(15,aT),(16,aI 3),(17,gZ),(18,aI 0),(19,aT),(20,aI 0),(21,aI 3),(22,aI 0),(23,aI 3),(24,aI 3),(25,aI 0),(26,aI 3),(27,.ref 3 6),(28,.agg [.lit (.bool (decide (0+a*i+b*h+c*g<0))),.wd (0+a*i+b*h+c*g)]),(29,aI 3),(30,.ref 0 0),(31,.ref 0 6),(32,.agg [aD e,.wd e]),(33,aI 0),(34,.ref 1 0),(35,.ref 1 0),(36,.agg [aD f,.wd f]),(37,.agg [.lit (.bool (decide (e*f<0))),.wd (e*f)]),(38,.agg [.lit (.bool (decide (0+a*i+b*h+c*g+e*f<0))),.wd (0+a*i+b*h+c*g+e*f)]),(39,.ref 3 6),(40,aI 4),(41,aI 3)],[(zai a b c e d),(zaj f g h i j),zam,.flat [.lit (.bool (decide (0+a*f<0))),.wd (0+a*f),.lit (.bool (decide (0+a*g+b*f<0))),.wd (0+a*g+b*f),.lit (.bool (decide (0+a*h+b*g+c*f<0))),.wd (0+a*h+b*g+c*f),.lit (.bool (decide (0+a*i+b*h+c*g+e*f<0))),.wd (0+a*i+b*h+c*g+e*f),.lit (.bool (decide (0+b*i+c*h<0))),.wd (0+b*i+c*h),.lit (.bool (decide (0+c*i<0))),.wd (0+c*i),aF,aN] true],[3,3,3,3,3,3,3,3,3,3,3,3,3]⟩
abbrev tmd_0_s13 (l m n o p a b c e d f g h i j:Int):St:=⟨sp 53 [(0,(xZ l m n o p)),(1,(zak a b c e d)),(2,(zal f g h i j)),(4,.ref 0 0),(5,.ref 1 0),(6,.ref 2 0),(7,gZ),(8,.ref 3 0),(9,aI 3),(10,aI 1),(11,(xZ l m n o p)),(12,gZ),(13,gZ),(14,aI 3),(15,aT),(16,aI 3),(17,gZ),(18,aI 1),(19,aT),(20,aI 1),(21,aI 3),(22,aI 1),(23,aI 4),(24,aI 3),(25,aI 1),(26,aI 4),(27,.ref 3 8),(28,.agg [.lit (.bool (decide (0+b*i+c*h<0))),.wd (0+b*i+c*h)]),(29,aI 3),(30,.ref 0 0),(31,.ref 0 6),(32,.agg [aD e,.wd e]),(33,aI 1),(34,.ref 1 0),(35,.ref 1 2),(36,.agg [aD g,.wd g]),(37,.agg [.lit (.bool (decide (e*g<0))),.wd (e*g)]),(38,.agg [.lit (.bool (decide (0+b*i+c*h+e*g<0))),.wd (0+b*i+c*h+e*g)]),(39,.ref 3 8),(40,aI 1),(41,aI 3)],[(zai a b c e d),(zaj f g h i j),zam,.flat [.lit (.bool (decide (0+a*f<0))),.wd (0+a*f),.lit (.bool (decide (0+a*g+b*f<0))),.wd (0+a*g+b*f),.lit (.bool (decide (0+a*h+b*g+c*f<0))),.wd (0+a*h+b*g+c*f),.lit (.bool (decide (0+a*i+b*h+c*g+e*f<0))),.wd (0+a*i+b*h+c*g+e*f),.lit (.bool (decide (0+b*i+c*h+e*g<0))),.wd (0+b*i+c*h+e*g),.lit (.bool (decide (0+c*i<0))),.wd (0+c*i),aF,aN] true],[3,3,3,3,3,3,3,3,3,3,3,3,3,3]⟩
abbrev tmd_0_s14 (l m n o p a b c e d f g h i j:Int):St:=⟨sp 53 [(0,(xZ l m n o p)),(1,(zak a b c e d)),(2,(zal f g h i j)),(4,.ref 0 0),(5,.ref 1 0),(6,.ref 2 0),(7,gZ),(8,.ref 3 0),(9,aI 3),(10,aI 2),(11,(xZ l m n o p)),(12,gZ),(13,gZ),(14,aI 3),(15,aT),(16,aI 3),(17,gZ),(18,aI 2),(19,aT),(20,aI 2),(21,aI 3),(22,aI 2),(23,aI 5),(24,aI 3),(25,aI 2),(26,aI 5),(27,.ref 3 10),(28,.agg [.lit (.bool (decide (0+c*i<0))),.wd (0+c*i)]),(29,aI 3),(30,.ref 0 0),(31,.ref 0 6),(32,.agg [aD e,.wd e]),(33,aI 2),(34,.ref 1 0),(35,.ref 1 4),(36,.agg [aD h,.wd h]),(37,.agg [.lit (.bool (decide (e*h<0))),.wd (e*h)]),(38,.agg [.lit (.bool (decide (0+c*i+e*h<0))),.wd (0+c*i+e*h)]),(39,.ref 3 10),(40,aI 2),(41,aI 3)],[(zai a b c e d),(zaj f g h i j),zam,.flat [.lit (.bool (decide (0+a*f<0))),.wd (0+a*f),.lit (.bool (decide (0+a*g+b*f<0))),.wd (0+a*g+b*f),.lit (.bool (decide (0+a*h+b*g+c*f<0))),.wd (0+a*h+b*g+c*f),.lit (.bool (decide (0+a*i+b*h+c*g+e*f<0))),.wd (0+a*i+b*h+c*g+e*f),.lit (.bool (decide (0+b*i+c*h+e*g<0))),.wd (0+b*i+c*h+e*g),.lit (.bool (decide (0+c*i+e*h<0))),.wd (0+c*i+e*h),aF,aN] true],[3,3,3,3,3,3,3,3,3,3,3,3,3,3,3]⟩
abbrev tmd_0_s15 (l m n o p a b c e d f g h i j:Int):St:=⟨sp 53 [(0,(xZ l m n o p)),(1,(zak a b c e d)),(2,(zal f g h i j)),(4,.ref 0 0),(5,.ref 1 0),(6,.ref 2 0),(7,gZ),(8,.ref 3 0),(9,aI 3),(10,aI 3),(11,(xZ l m n o p)),(12,gZ),(13,gZ),(14,aI 3),(15,aT),(16,aI 3),(17,gZ),(18,aI 3),(19,aT),(20,aI 3),(21,aI 3),(22,aI 3),(23,aI 6),(24,aI 3),(25,aI 3),(26,aI 6),(27,.ref 3 12),(28,.agg [aF,aN]),(29,aI 3),(30,.ref 0 0),(31,.ref 0 6),(32,.agg [aD e,.wd e]),(33,aI 3),(34,.ref 1 0),(35,.ref 1 6),(36,.agg [aD i,.wd i]),(37,.agg [.lit (.bool (decide (e*i<0))),.wd (e*i)]),(38,.agg [.lit (.bool (decide (0+e*i<0))),.wd (0+e*i)]),(39,.ref 3 12),(40,aI 3),(41,aI 3)],[(zai a b c e d),(zaj f g h i j),zam,.flat [.lit (.bool (decide (0+a*f<0))),.wd (0+a*f),.lit (.bool (decide (0+a*g+b*f<0))),.wd (0+a*g+b*f),.lit (.bool (decide (0+a*h+b*g+c*f<0))),.wd (0+a*h+b*g+c*f),.lit (.bool (decide (0+a*i+b*h+c*g+e*f<0))),.wd (0+a*i+b*h+c*g+e*f),.lit (.bool (decide (0+b*i+c*h+e*g<0))),.wd (0+b*i+c*h+e*g),.lit (.bool (decide (0+c*i+e*h<0))),.wd (0+c*i+e*h),.lit (.bool (decide (0+e*i<0))),.wd (0+e*i)] true],[3,3,3,3,3,3,3,3,3,3,3,3,3,3,3,3]⟩
theorem tmd_0 (l m n p q a b c e d f g h i j:Int) (h1:r64 ((4:Int))) (h2:pDD a f) (h3:pDD 0 (a*f)) (h4:pDD a g) (h5:pDD 0 (a*g)) (h6:pDD a h) (h7:pDD 0 (a*h)) (h8:pDD a i) (h9:pDD 0 (a*i)) (h10:pDD b f) (h11:pDD (0+a*g) (b*f)) (h12:pDD b g) (h13:pDD (0+a*h) (b*g)) (h14:pDD b h) (h15:pDD (0+a*i) (b*h)) (h16:pDD b i) (h17:pDD 0 (b*i)) (h18:pDD c f) (h19:pDD (0+a*h+b*g) (c*f)) (h20:pDD c g) (h21:pDD (0+a*i+b*h) (c*g)) (h22:pDD c h) (h23:pDD (0+b*i) (c*h)) (h24:pDD c i) (h25:pDD 0 (c*i)) (h26:pDD e f) (h27:pDD (0+a*i+b*h+c*g) (e*f)) (h28:pDD e g) (h29:pDD (0+b*i+c*h) (e*g)) (h30:pDD e h) (h31:pDD (0+c*i) (e*h)) (h32:pDD e i) (h33:pDD 0 (e*i)) (h34:r64 (2*((4:Int)))) (h35:r64 (2*((4:Int))-1)) (h36:0≤2*((4:Int))-1) (h37:2*((4:Int))-1≤7) (h38:pDD d j) (h39:zmC [l,m,n,p,q] [0+a*f,0+a*g+b*f,0+a*h+b*g+c*f,0+a*i+b*h+c*g+e*f,0+b*i+c*h+e*g,0+c*i+e*h,0+e*i] (d*j)):FC Tryz.prog 84 [reA (.lst .whole [l,m,n,p,q]),nuA a b c e d,nuA f g h i j] (nuF (zaq [l,m,n,p,q] (List.length [l,m,n,p,q]-1) [0+a*f,0+a*g+b*f,0+a*h+b*g+c*f,0+a*i+b*h+c*g+e*f,0+b*i+c*h+e*g,0+c*i+e*h,0+e*i]) (d*j)):=fZ zle 60 [] (.i h1<|.c h2<|.c h3<|.s (tmd_0_s0 l m n p q a b c e d f g h i j)<|.c h4<|.c h5<|.s (tmd_0_s1 l m n p q a b c e d f g h i j)<|.c h6<|.c h7<|.s (tmd_0_s2 l m n p q a b c e d f g h i j)<|.c h8<|.c h9<|.s (tmd_0_s3 l m n p q a b c e d f g h i j)<|.c h10<|.c h11<|.s (tmd_0_s4 l m n p q a b c e d f g h i j)<|.c h12<|.c h13<|.s (tmd_0_s5 l m n p q a b c e d f g h i j)<|.c h14<|.c h15<|.s (tmd_0_s6 l m n p q a b c e d f g h i j)<|.c h16<|.c h17<|.s (tmd_0_s7 l m n p q a b c e d f g h i j)<|.c h18<|.c h19<|.s (tmd_0_s8 l m n p q a b c e d f g h i j)<|.c h20<|.c h21<|.s (tmd_0_s9 l m n p q a b c e d f g h i j)<|.c h22<|.c h23<|.s (tmd_0_s10 l m n p q a b c e d f g h i j)<|.c h24<|.c h25<|.s (tmd_0_s11 l m n p q a b c e d f g h i j)<|.c h26<|.c h27<|.s (tmd_0_s12 l m n p q a b c e d f g h i j)<|.c h28<|.c h29<|.s (tmd_0_s13 l m n p q a b c e d f g h i j)<|.c h30<|.c h31<|.s (tmd_0_s14 l m n p q a b c e d f g h i j)<|.c h32<|.c h33<|.s (tmd_0_s15 l m n p q a b c e d f g h i j)<|.i h34<|.i h35<|.t h36<|.t h37<|.c h38<|.c h39<|.o<|.o<|.o<|.o<|.o<|.e) [1,0,0,0,0,0,0,0,0,0,0,2,0,0,3,0,0,0,0,2,0,0,3,0,0,4,0,0,0,0,0,0,0,0,0,0,0,5,0,0,6,0,0,0,0,5,0,0,6,0,0,7,0,0,0,0,0,0,0,0,0,0,0,8,0,0,9,0,0,0,0,8,0,0,9,0,0,10,0,0,0,0,0,0,0,0,0,0,0,11,0,0,12,0,0,0,0,11,0,0,12,0,0,13,0,0,0,0,0,0,0,0,0,0,0,0,14,0,0,15,0,0,0,0,14,0,0,15,0,0,16,0,0,0,0,0,0,0,0,0,0,0,17,0,0,18,0,0,0,0,17,0,0,18,0,0,19,0,0,0,0,0,0,0,0,0,0,0,20,0,0,21,0,0,0,0,20,0,0,21,0,0,22,0,0,0,0,0,0,0,0,0,0,0,23,0,0,24,0,0,0,0,23,0,0,24,0,0,25,0,0,0,0,0,0,0,0,0,0,0,0,26,0,0,27,0,0,0,0,26,0,0,27,0,0,28,0,0,0,0,0,0,0,0,0,0,0,29,0,0,30,0,0,0,0,29,0,0,30,0,0,31,0,0,0,0,0,0,0,0,0,0,0,32,0,0,33,0,0,0,0,32,0,0,33,0,0,34,0,0,0,0,0,0,0,0,0,0,0,35,0,0,36,0,0,0,0,35,0,0,36,0,0,37,0,0,0,0,0,0,0,0,0,0,0,0,38,0,0,39,0,0,0,0,38,0,0,39,0,0,40,0,0,0,0,0,0,0,0,0,0,0,41,0,0,42,0,0,0,0,41,0,0,42,0,0,43,0,0,0,0,0,0,0,0,0,0,0,44,0,0,45,0,0,0,0,44,0,0,45,0,0,46,0,0,0,0,0,0,0,0,0,0,0,47,0,0,48,0,0,0,0,47,0,0,48,0,0,49,0,0,50,51,0,52,53,0,0,54,0,0,0,0,0,0,0,0,55]
end
open Go.Kf
theorem szLg {k:Nat}:∀ {l:List Int},SzL k l→∀j,Sz k (l.getD j 0)
  | [],_,j=>Sz.zero
  | z :: l,h,0=>h.1
  | z :: l,h,j+1=>szLg h.2 j
theorem zl4 {z:Int} {k:Nat} [h:SzC z k] (hk:k≤20000):Sz 20000 z:=h.ok.mono hk
theorem ntm_a (p0 p1 a b c e d f g h i j:Int) (hp:∀x∈[p0,p1],x.natAbs≤1000) (hx:pNs a b c e d) (hy:pNs f g h i j):FC Tryz.prog 84 [reA (.lst .whole [p0,p1]),nuA a b c e d,nuA f g h i j] (nuF (zaq [p0,p1] 1 [0+a*f]) (d*j)):=by
  have hN:((List.length [p0,p1]:Int)-1)=((1:Nat):Int):=by simp
  have zia:SzC a 2000:=⟨hx.2.1⟩
  have zif:SzC f 2000:=⟨hy.2.1⟩
  have zid:SzC d 2000:=⟨hx.2.2.2.2.2⟩
  have zij:SzC j 2000:=⟨hy.2.2.2.2.2⟩
  exact tma_0 p0 p1 a b c e d f g h i j (by omega) (nZ (by decide) (by decide)) (nZ (by decide) (by decide)) (by omega) (by omega) (by omega) (by omega) (nZ (by decide) (by decide)) ⟨⟨by simp,by simp,hp⟩,by simp,by simp,szLg (l:=[0+a*f]) ⟨zl4 (by decide),trivial⟩,Int.mul_ne_zero hx.1 hy.1,(hx.2.2.2.2.2.mul hy.2.2.2.2.2).mono (by decide)⟩
theorem ntm_b (p0 p1 p2 a b c e d f g h i j:Int) (hp:∀x∈[p0,p1,p2],x.natAbs≤1000) (hx:pNs a b c e d) (hy:pNs f g h i j):FC Tryz.prog 84 [reA (.lst .whole [p0,p1,p2]),nuA a b c e d,nuA f g h i j] (nuF (zaq [p0,p1,p2] 2 [0+a*f,0+a*g+b*f,0+b*g]) (d*j)):=by
  have hN:((List.length [p0,p1,p2]:Int)-1)=((2:Nat):Int):=by simp
  have zia:SzC a 2000:=⟨hx.2.1⟩
  have zib:SzC b 2000:=⟨hx.2.2.1⟩
  have zif:SzC f 2000:=⟨hy.2.1⟩
  have zig:SzC g 2000:=⟨hy.2.2.1⟩
  have zid:SzC d 2000:=⟨hx.2.2.2.2.2⟩
  have zij:SzC j 2000:=⟨hy.2.2.2.2.2⟩
  exact tmb_0 p0 p1 p2 a b c e d f g h i j (by omega) (nZ (by decide) (by decide)) (nZ (by decide) (by decide)) (nZ (by decide) (by decide)) (nZ (by decide) (by decide)) (nZ (by decide) (by decide)) (nZ (by decide) (by decide)) (nZ (by decide) (by decide)) (nZ (by decide) (by decide)) (by omega) (by omega) (by omega) (by omega) (nZ (by decide) (by decide)) ⟨⟨by simp,by simp,hp⟩,by simp,by simp,szLg (l:=[0+a*f,0+a*g+b*f,0+b*g]) ⟨zl4 (by decide),zl4 (by decide),zl4 (by decide),trivial⟩,Int.mul_ne_zero hx.1 hy.1,(hx.2.2.2.2.2.mul hy.2.2.2.2.2).mono (by decide)⟩
theorem ntm_c (p0 p1 p2 p3 a b c e d f g h i j:Int) (hp:∀x∈[p0,p1,p2,p3],x.natAbs≤1000) (hx:pNs a b c e d) (hy:pNs f g h i j):FC Tryz.prog 84 [reA (.lst .whole [p0,p1,p2,p3]),nuA a b c e d,nuA f g h i j] (nuF (zaq [p0,p1,p2,p3] 3 [0+a*f,0+a*g+b*f,0+a*h+b*g+c*f,0+b*h+c*g,0+c*h]) (d*j)):=by
  have hN:((List.length [p0,p1,p2,p3]:Int)-1)=((3:Nat):Int):=by simp
  have zia:SzC a 2000:=⟨hx.2.1⟩
  have zib:SzC b 2000:=⟨hx.2.2.1⟩
  have zic:SzC c 2000:=⟨hx.2.2.2.1⟩
  have zif:SzC f 2000:=⟨hy.2.1⟩
  have zig:SzC g 2000:=⟨hy.2.2.1⟩
  have zih:SzC h 2000:=⟨hy.2.2.2.1⟩
  have zid:SzC d 2000:=⟨hx.2.2.2.2.2⟩
  have zij:SzC j 2000:=⟨hy.2.2.2.2.2⟩
  exact tmc_0 p0 p1 p2 p3 a b c e d f g h i j (by omega) (nZ (by decide) (by decide)) (nZ (by decide) (by decide)) (nZ (by decide) (by decide)) (nZ (by decide) (by decide)) (nZ (by decide) (by decide)) (nZ (by decide) (by decide)) (nZ (by decide) (by decide)) (nZ (by decide) (by decide)) (nZ (by decide) (by decide)) (nZ (by decide) (by decide)) (nZ (by decide) (by decide)) (nZ (by decide) (by decide)) (nZ (by decide) (by decide)) (nZ (by decide) (by decide)) (nZ (by decide) (by decide)) (nZ (by decide) (by decide)) (nZ (by decide) (by decide)) (nZ (by decide) (by decide)) (by omega) (by omega) (by omega) (by omega) (nZ (by decide) (by decide)) ⟨⟨by simp,by simp,hp⟩,by simp,by simp,szLg (l:=[0+a*f,0+a*g+b*f,0+a*h+b*g+c*f,0+b*h+c*g,0+c*h]) ⟨zl4 (by decide),zl4 (by decide),zl4 (by decide),zl4 (by decide),zl4 (by decide),trivial⟩,Int.mul_ne_zero hx.1 hy.1,(hx.2.2.2.2.2.mul hy.2.2.2.2.2).mono (by decide)⟩
theorem ntm_d (p0 p1 p2 p3 p4 a b c e d f g h i j:Int) (hp:∀x∈[p0,p1,p2,p3,p4],x.natAbs≤1000) (hx:pNs a b c e d) (hy:pNs f g h i j):FC Tryz.prog 84 [reA (.lst .whole [p0,p1,p2,p3,p4]),nuA a b c e d,nuA f g h i j] (nuF (zaq [p0,p1,p2,p3,p4] 4 [0+a*f,0+a*g+b*f,0+a*h+b*g+c*f,0+a*i+b*h+c*g+e*f,0+b*i+c*h+e*g,0+c*i+e*h,0+e*i]) (d*j)):=by
  have hN:((List.length [p0,p1,p2,p3,p4]:Int)-1)=((4:Nat):Int):=by simp
  have zia:SzC a 2000:=⟨hx.2.1⟩
  have zib:SzC b 2000:=⟨hx.2.2.1⟩
  have zic:SzC c 2000:=⟨hx.2.2.2.1⟩
  have zie:SzC e 2000:=⟨hx.2.2.2.2.1⟩
  have zif:SzC f 2000:=⟨hy.2.1⟩
  have zig:SzC g 2000:=⟨hy.2.2.1⟩
  have zih:SzC h 2000:=⟨hy.2.2.2.1⟩
  have zii:SzC i 2000:=⟨hy.2.2.2.2.1⟩
  have zid:SzC d 2000:=⟨hx.2.2.2.2.2⟩
  have zij:SzC j 2000:=⟨hy.2.2.2.2.2⟩
  exact tmd_0 p0 p1 p2 p3 p4 a b c e d f g h i j (by omega) (nZ (by decide) (by decide)) (nZ (by decide) (by decide)) (nZ (by decide) (by decide)) (nZ (by decide) (by decide)) (nZ (by decide) (by decide)) (nZ (by decide) (by decide)) (nZ (by decide) (by decide)) (nZ (by decide) (by decide)) (nZ (by decide) (by decide)) (nZ (by decide) (by decide)) (nZ (by decide) (by decide)) (nZ (by decide) (by decide)) (nZ (by decide) (by decide)) (nZ (by decide) (by decide)) (nZ (by decide) (by decide)) (nZ (by decide) (by decide)) (nZ (by decide) (by decide)) (nZ (by decide) (by decide)) (nZ (by decide) (by decide)) (nZ (by decide) (by decide)) (nZ (by decide) (by decide)) (nZ (by decide) (by decide)) (nZ (by decide) (by decide)) (nZ (by decide) (by decide)) (nZ (by decide) (by decide)) (nZ (by decide) (by decide)) (nZ (by decide) (by decide)) (nZ (by decide) (by decide)) (nZ (by decide) (by decide)) (nZ (by decide) (by decide)) (nZ (by decide) (by decide)) (nZ (by decide) (by decide)) (by omega) (by omega) (by omega) (by omega) (nZ (by decide) (by decide)) ⟨⟨by simp,by simp,hp⟩,by simp,by simp,szLg (l:=[0+a*f,0+a*g+b*f,0+a*h+b*g+c*f,0+a*i+b*h+c*g+e*f,0+b*i+c*h+e*g,0+c*i+e*h,0+e*i]) ⟨zl4 (by decide),zl4 (by decide),zl4 (by decide),zl4 (by decide),zl4 (by decide),zl4 (by decide),zl4 (by decide),trivial⟩,Int.mul_ne_zero hx.1 hy.1,(hx.2.2.2.2.2.mul hy.2.2.2.2.2).mono (by decide)⟩
def tmS (n:Nat) (a b c e f g h i:Int):List Int:=match n with
  | 1=>[0+a*f]
  | 2=>[0+a*f,0+a*g+b*f,0+b*g]
  | 3=>[0+a*f,0+a*g+b*f,0+a*h+b*g+c*f,0+b*h+c*g,0+c*h]
  | 4=>[0+a*f,0+a*g+b*f,0+a*h+b*g+c*f,0+a*i+b*h+c*g+e*f,0+b*i+c*h+e*g,0+c*i+e*h,0+e*i]
  | _=>[]
theorem ntm_fc (p:List Int) (a b c e d f g h i j:Int) (h2:2≤p.length) (h5:p.length≤5) (hp:∀x∈p,x.natAbs≤1000) (hx:pNs a b c e d) (hy:pNs f g h i j):FC Tryz.prog 84 [reA (.lst .whole p),nuA a b c e d,nuA f g h i j] (nuF (zaq p (p.length-1) (tmS (p.length-1) a b c e f g h i)) (d*j)):=by
  match p,h2,h5,hp with
  | [p0,p1],_,_,hp=>exact ntm_a p0 p1 a b c e d f g h i j hp hx hy
  | [p0,p1,p2],_,_,hp=>exact ntm_b p0 p1 p2 a b c e d f g h i j hp hx hy
  | [p0,p1,p2,p3],_,_,hp=>exact ntm_c p0 p1 p2 p3 a b c e d f g h i j hp hx hy
  | [p0,p1,p2,p3,p4],_,_,hp=>exact ntm_d p0 p1 p2 p3 p4 a b c e d f g h i j hp hx hy
  | _ :: _ :: _ :: _ :: _ :: _ :: _,_,h5,_=>simp at h5
end Go.Proofs.YtloaeinogiplbaaGreatDoor
end
