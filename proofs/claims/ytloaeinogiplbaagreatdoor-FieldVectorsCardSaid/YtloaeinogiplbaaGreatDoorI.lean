/- Part of a proof about a given program: see the last module of the claim. -/
import Derived.Test.YtloaeinogiplbaaGreatDoorH
import Derived.Test.YtloaeinogiplbaaGreatDoorD
import Derived.Test.YtloaeinogiplbaaGreatDoorC
import Derived.Test.YtloaeinogiplbaaGreatDoorG
import Derived.Test.YtloaeinogiplbaaGreatDoorF
section
open Go Go.Ev Go.RowKit
namespace Go.Proofs.YtloaeinogiplbaaGreatDoor
open Go.Proofs
set_option maxRecDepth 100000
set_option maxHeartbeats 1000000
set_option linter.unusedVariables false
set_option linter.unusedSimpArgs false
noncomputable section
theorem bsh_0 (C:List (List Int)) (D:List Int) (k:Int) (h1:(C.length:Int) > 6):FC Tryz.prog 78 [.agg [.lst (.sl (.int .i64)) C,.sq D],.lit (.int .i64 k)] (.ff):=eZ okW 60 [1] (.t h1<|.e) [1]
theorem bsh_1 (C:List (List Int)) (D:List Int) (k:Int) (h1:¬((C.length:Int) > 6)) (h2:(D.length:Int) > k):FC Tryz.prog 78 [.agg [.lst (.sl (.int .i64)) C,.sq D],.lit (.int .i64 k)] (.ff):=eZ okW 60 [0,1] (.f h1<|.t h2<|.e) [1,2]
abbrev zeR (s:St) (r:Ex × St):Prop:=Loops 1 Tryz.prog (lZ Tryz.prog 78 0) s r
abbrev zbw (a:Int) (b:List (List Int)) (c:List Int) (d:Int):St:=⟨sp 32 [(1,aI a),(2,.ref 0 0),(5,aI d)],[.flat [.lst (EK.sl (.int .i64)) b,.sq c] true],[]⟩
abbrev zhP (a:Int) (b:List (List Int)) (c:List Int):St:=⟨sp 32 [(4,.ff)],[.flat [.lst (EK.sl (.int .i64)) b,.sq c] true],[]⟩
abbrev zhQ (a:Int) (b:List (List Int)) (c:List Int) (d:Int):St:=⟨sp 32 [(1,aI a),(2,.ref 0 0),(5,aI d)],[.flat [.lst (EK.sl (.int .i64)) b,.sq c] true],[]⟩
theorem zpg (a:Int) (b:List (List Int)) (c:List Int) (d:Int) (h1:d<(b.length:Int)) (h2:0≤d) (h3:(↑((b.getD d.toNat (EK.dflt (EK.sl (.int .i64)))).length):Int) > a):zeR (zbw a b c d) (Ex.ret,(zhP a b c)):=Loops.fin (LS.at okW 60 [] [4] [] [1,1] (.t h1<|.t h2<|.t h3<|.e) [1,2,1,3]) (fun h=>nomatch h)
theorem zph (a:Int) (b:List (List Int)) (c:List Int) (d:Int) (h1:d<(b.length:Int)) (h2:0≤d) (h3:¬((↑((b.getD d.toNat (EK.dflt (EK.sl (.int .i64)))).length):Int) > a)) (h4:r64 (d+1)) {r:Ex × St} (k:zeR (zbw a b c (d+1)) r):zeR (zbw a b c d) r:=Loops.go (LS.at okW 60 [] [1,2,5] [] [1,0] (.t h1<|.t h2<|.f h3<|.i h4<|.e) [1,2,1,3,4]) k
theorem zpi (a:Int) (b:List (List Int)) (c:List Int) (d:Int) (h1:¬(d<(b.length:Int))):zeR (zbw a b c d) (Ex.exit 0,(zhQ a b c d)):=Loops.fin (LS.at okW 60 [] [1,2,5] [] [0] (.f h1<|.e) [1]) (fun h=>nomatch h)
theorem bsh_2 (C:List (List Int)) (D:List Int) (k:Int) (h1:¬((C.length:Int) > 6)) (h2:¬((D.length:Int) > k)) (hL1:zeR (zbw k C D (0)) (Ex.ret,(zhP k C D))):FC Tryz.prog 78 [.agg [.lst (.sl (.int .i64)) C,.sq D],.lit (.int .i64 k)] (.ff):=eZ okW 60 [0,0] (.f h1<|.f h2<|.v [1,2,5] [] hL1<|.e) [1,2,0,3]
theorem bsh_3 (C:List (List Int)) (D:List Int) (k a:Int) (h1:¬((C.length:Int) > 6)) (h2:¬((D.length:Int) > k)) (hL1:zeR (zbw k C D (0)) (Ex.exit 0,(zhQ k C D a))):FC Tryz.prog 78 [.agg [.lst (.sl (.int .i64)) C,.sq D],.lit (.int .i64 k)] (.tt):=eZ okW 60 [0,0] (.f h1<|.f h2<|.v [1,2,5] [] hL1<|.e) [1,2,0,3]
end
def shN (x:List (List Int) × List Int) (k:Int):Prop:=x.1.length≤6∧(x.2.length:Int)≤k∧∀l∈x.1,(l.length:Int)≤k
instance decShN {x:List (List Int) × List Int} {k:Int}:Decidable (shN x k):=inferInstanceAs (Decidable (_∧_∧_))
theorem zj5 (C:List (List Int)) (D:List Int) (k:Int) (hC:C.length≤6):∀(n i:Nat),i+n=C.length →
 (∀l∈C.drop i,(l.length:Int)≤k)∧zeR (zbw k C D i) (Ex.exit 0,zhQ k C D C.length)∨(¬ ∀l∈C.drop i,(l.length:Int)≤k)∧zeR (zbw k C D i) (Ex.ret,zhP k C D)
 | 0,i,hi=>by
  obtain rfl:i=C.length:=by omega
  exact .inl ⟨by simp,zpi k C D _ (by omega)⟩
 | n + 1,i,hi=>by
  have hlt:i<C.length:=by omega
  have hg:C.getD (Int.toNat (i:Int)) (EK.dflt (EK.sl (EK.int IntKind.i64)))=C[i]:=by
   rw [Int.toNat_natCast,List.getD_eq_getElem?_getD,List.getElem?_eq_getElem hlt];rfl
  have hd:C.drop i=C[i] :: C.drop (i+1):=List.drop_eq_getElem_cons hlt
  by_cases h:(C[i].length:Int)≤k
  ·have go:∀r,zeR (zbw k C D ((i:Int)+1)) r→zeR (zbw k C D i) r:=fun r hr=>
   zph k C D i (by omega) (by omega) (by rw [hg];omega) (by omega) hr
   rcases zj5 C D k hC n (i+1) (by omega) with ⟨h1,h2⟩ | ⟨h1,h2⟩
   ·refine .inl ⟨fun l hl=>?_,go _ h2⟩
    rw [hd] at hl
    rcases List.mem_cons.1 hl with rfl | hl
    ·exact h
    ·exact h1 l hl
   ·exact .inr ⟨fun h3=>h1 fun l hl=>h3 l (by rw [hd];exact List.mem_cons_of_mem _ hl),go _ h2⟩
  ·exact .inr ⟨fun h3=>h (h3 _ (by rw [hd];exact List.mem_cons_self)),zpg k C D i (by omega) (by omega) (by rw [hg];omega)⟩
theorem litB {P:Program} {f:FuncId} {a:List AV} {q:Prop} [Decidable q] (ht:q→FC P f a .tt) (hf:¬q→FC P f a .ff):FC P f a (.lit (.bool (decide q))):=by
 by_cases h:q
 ·rw [decide_eq_true h];exact(ht h).res fun E v hv=>by cases hv;exact .lit _
 ·rw [decide_eq_false h];exact(hf h).res fun E v hv=>by cases hv;exact .lit _
theorem bShort_fc (x:List (List Int) × List Int) (k:Int) (_:True):FC Tryz.prog 78 [numK.val x,.lit (.int .i64 k)] (.lit (.bool (decide (shN x k)))):=by
 obtain ⟨C,D⟩:=x
 refine litB (fun h=>?_) fun h=>?_
 ·obtain ⟨h1,h2,h3⟩:=h
  rcases zj5 C D k h1 C.length 0 (by omega) with ⟨_,k2⟩ | ⟨k1,_⟩
  ·exact bsh_3 C D k _ (by simp only at h1;omega) (by simp only at h2;omega) k2
  ·exact absurd h3 k1
 ·by_cases h1:C.length≤6
  ·by_cases h2:(D.length:Int)≤k
   ·rcases zj5 C D k h1 C.length 0 (by omega) with ⟨k1,_⟩ | ⟨_,k2⟩
    ·exact absurd ⟨h1,h2,k1⟩ h
    ·exact bsh_2 C D k (by omega) (by omega) k2
   ·exact bsh_1 C D k (by omega) (by omega)
  ·exact bsh_0 C D k (by omega)
def ctrA:Ctr:=(18,cK [] (.lit (.bool true))) :: (78,cD2 numK (.int .i64) (fun _ _=>True) (fun x k=>.lit (.bool (decide (shN x k))))) :: ctrX
theorem zn6:∀p∈ctrA,kZ Tryz.prog p.1 p.2:=CAll.cons (ze3 awake_fc)<|CAll.cons (zeS bShort_fc) zoc
theorem okA:(dZ Tryz.prog ctrA bw).OK:=TZ zn6
noncomputable section
theorem ls_0 (A B:List (List Int)) (h1:(A.length:Int)≠(B.length:Int)):FC Tryz.prog 88 [.lst (.sl (.int .i64)) A,.lst (.sl (.int .i64)) B] (.ff):=eZ okA 60 [1] (.c (bne_iff_ne.2 h1)<|.e) [1]
abbrev zjn (s:St) (r:Ex × St):Prop:=Loops 0 Tryz.prog (lZ Tryz.prog 88 0) s r
abbrev zcX (a b:List (List Int)) (c:Int):St:=⟨sp 27 [(0,.lst (EK.sl (.int .i64)) a),(1,.lst (EK.sl (.int .i64)) b),(5,aI c)],[],[]⟩
abbrev zks (a b:List (List Int)):St:=⟨sp 27 [(4,.ff)],[],[]⟩
abbrev zkt (a b:List (List Int)) (c:Int):St:=⟨sp 27 [(0,.lst (EK.sl (.int .i64)) a),(1,.lst (EK.sl (.int .i64)) b),(5,aI c)],[],[]⟩
theorem ls_L0_0_0 (a b:List (List Int)) (d:Int) (h1:d<(a.length:Int)) (h2:0≤d) (h3:d<(b.length:Int)) (h4:pIn (a.getD d.toNat (EK.dflt (EK.sl (.int .i64)))) (b.getD d.toNat (EK.dflt (EK.sl (.int .i64))))) (h5:¬(a.getD d.toNat (EK.dflt (EK.sl (.int .i64)))=b.getD d.toNat (EK.dflt (EK.sl (.int .i64))))):zjn (zcX a b d) (Ex.ret,(zks a b)):=Loops.fin (LS.at okA 60 [] [4] [] [1,1] (.t h1<|.t h2<|.t h3<|.c h4<|.y h5<|.e) [1,2,1,2,3,4,5]) (fun h=>nomatch h)
theorem ls_L0_0_1 (a b:List (List Int)) (d:Int) (h1:d<(a.length:Int)) (h2:0≤d) (h3:d<(b.length:Int)) (h4:pIn (a.getD d.toNat (EK.dflt (EK.sl (.int .i64)))) (b.getD d.toNat (EK.dflt (EK.sl (.int .i64))))) (h5:a.getD d.toNat (EK.dflt (EK.sl (.int .i64)))=b.getD d.toNat (EK.dflt (EK.sl (.int .i64)))) (h6:r64 (d+1)) {r:Ex × St} (k:zjn (zcX a b (d+1)) r):zjn (zcX a b d) r:=Loops.go (LS.at okA 60 [] [0,1,5] [] [1,0] (.t h1<|.t h2<|.t h3<|.c h4<|.x h5<|.i h6<|.e) [1,2,1,2,3,4,5,6]) k
theorem ls_L0_0_2 (a b:List (List Int)) (c:Int) (h1:¬(c<(a.length:Int))):zjn (zcX a b c) (Ex.exit 0,(zkt a b c)):=Loops.fin (LS.at okA 60 [] [0,1,5] [] [0] (.f h1<|.e) [1]) (fun h=>nomatch h)
theorem ls_1 (A B:List (List Int)) (h1:(A.length:Int)=(B.length:Int)) (hL1:zjn (zcX A B (0)) (Ex.ret,(zks A B))):FC Tryz.prog 88 [.lst (.sl (.int .i64)) A,.lst (.sl (.int .i64)) B] (.ff):=eZ okA 60 [0] (.c (bne_eq_false_iff_eq.2 h1)<|.v [0,1,5] [] hL1<|.e) [1,0,2]
theorem ls_2 (A B:List (List Int)) (a:Int) (h1:(A.length:Int)=(B.length:Int)) (hL1:zjn (zcX A B (0)) (Ex.exit 0,(zkt A B a))):FC Tryz.prog 88 [.lst (.sl (.int .i64)) A,.lst (.sl (.int .i64)) B] (.tt):=eZ okA 60 [0] (.c (bne_eq_false_iff_eq.2 h1)<|.v [0,1,5] [] hL1<|.e) [1,0,2]
end
def pLi (x:List (List Int)):Prop:=(decide (x.length≤1048576)&&x.all fun l=>decide (l.length≤1048576))=true
theorem pLi_iff {x:List (List Int)}:pLi x↔x.length≤1048576∧∀l∈x,l.length≤1048576:=by
 unfold pLi;rw [Bool.and_eq_true,decide_eq_true_eq,List.all_eq_true]
 exact ⟨fun h=>⟨h.1,fun l hl=>of_decide_eq_true (h.2 l hl)⟩,fun h=>⟨h.1,fun l hl=>decide_eq_true (h.2 l hl)⟩⟩
instance tLi2 {x y:List (List Int)}:Tst (pLi x∧pLi y):=⟨(decide (x.length≤1048576)&&x.all fun l=>decide (l.length≤1048576))&&(decide (y.length≤1048576)&&y.all fun l=>decide (l.length≤1048576)),fun h=>by rwa [Bool.and_eq_true] at h⟩
theorem ls_loop (A B:List (List Int)) (hl:A.length=B.length) (hA:pLi A) (hB:pLi B):∀(n i:Nat),i+n=A.length →
 A.drop i=B.drop i∧zjn (zcX A B i) (Ex.exit 0,zkt A B A.length)∨A.drop i≠B.drop i∧zjn (zcX A B i) (Ex.ret,zks A B)
 | 0,i,hi=>by
  obtain rfl:i=A.length:=by omega
  exact .inl ⟨by rw [List.drop_length,hl,List.drop_length],ls_L0_0_2 A B _ (by omega)⟩
 | n + 1,i,hi=>by
  have ha:i<A.length:=by omega
  have hb:i<B.length:=by omega
  have ga:A.getD (Int.toNat (i:Int)) (EK.dflt (EK.sl (EK.int IntKind.i64)))=A[i]:=by
   rw [Int.toNat_natCast,List.getD_eq_getElem?_getD,List.getElem?_eq_getElem ha];rfl
  have gb:B.getD (Int.toNat (i:Int)) (EK.dflt (EK.sl (EK.int IntKind.i64)))=B[i]:=by
   rw [Int.toNat_natCast,List.getD_eq_getElem?_getD,List.getElem?_eq_getElem hb];rfl
  have da:A.drop i=A[i] :: A.drop (i+1):=List.drop_eq_getElem_cons ha
  have db:B.drop i=B[i] :: B.drop (i+1):=List.drop_eq_getElem_cons hb
  have hp:pIn A[i] B[i]:=⟨(pLi_iff.1 hA).2 _ (List.getElem_mem ha),(pLi_iff.1 hB).2 _ (List.getElem_mem hb)⟩
  have l1:=(pLi_iff.1 hA).1
  by_cases h:A[i]=B[i]
  ·have go:∀r,zjn (zcX A B ((i:Int)+1)) r→zjn (zcX A B i) r:=fun r hr=>
   ls_L0_0_1 A B i (by omega) (by omega) (by omega) (by rw [ga,gb];exact hp) (by rw [ga,gb];exact h) (by omega) hr
   rcases ls_loop A B hl hA hB n (i+1) (by omega) with ⟨h1,h2⟩ | ⟨h1,h2⟩
   ·exact .inl ⟨by rw [da,db,h,h1],go _ h2⟩
   ·exact .inr ⟨fun h3=>h1 (by rw [da,db] at h3;exact(List.cons.inj h3).2),go _ h2⟩
  ·exact .inr ⟨fun h3=>h (by rw [da,db] at h3;exact(List.cons.inj h3).1),ls_L0_0_0 A B i (by omega) (by omega) (by omega) (by rw [ga,gb];exact hp) (by rw [ga,gb];exact h)⟩
theorem lists_fc (A B:List (List Int)) (h:pLi A∧pLi B):FC Tryz.prog 88 [.lst (.sl (.int .i64)) A,.lst (.sl (.int .i64)) B] (.lit (.bool (decide (A=B)))):=by
 by_cases hl:A.length=B.length
 ·rcases ls_loop A B hl h.1 h.2 A.length 0 (by omega) with ⟨h1,h2⟩ | ⟨h1,h2⟩
  ·exact litB (fun _=>ls_2 A B _ (by omega) h2) fun h3=>absurd h1 h3
  ·exact litB (fun h3=>absurd h3 h1) fun _=>ls_1 A B (by omega) h2
 ·exact litB (fun h3=>absurd (congrArg _ h3) hl) fun _=>ls_0 A B (by omega)
def ctrB:Ctr:=(88,cD2 (.sl (.sl (.int .i64))) (.sl (.sl (.int .i64))) (fun A B=>pLi A∧pLi B) (fun A B=>.lit (.bool (decide (A=B))))) :: ctrA
theorem zn7:∀p∈ctrB,kZ Tryz.prog p.1 p.2:=CAll.cons (zeS lists_fc) zn6
theorem okB:(dZ Tryz.prog ctrB bw).OK:=TZ zn7
noncomputable section
theorem sn_0 (x y:List (List Int) × List Int) (h1:pLi x.fst∧pLi y.fst) (h2:x.fst=y.fst) (h3:pIn x.snd y.snd):FC Tryz.prog 21 [numK.val x,numK.val y] (.lit (.bool (decide (x.snd=y.snd)))):=eZ okB 60 [1] (.c h1<|.t h2<|.c h3<|.e) [1,2,3]
theorem sn_1 (x y:List (List Int) × List Int) (h1:pLi x.fst∧pLi y.fst) (h2:¬(x.fst=y.fst)):FC Tryz.prog 21 [numK.val x,numK.val y] (.ff):=eZ okB 60 [0] (.c h1<|.f h2<|.e) [1,2]
end
def pNl (x:List (List Int) × List Int):Prop:=pLi x.1∧x.2.length≤1048576
instance tNl {x:List (List Int) × List Int}:Tst (pNl x):=⟨(decide (x.1.length≤1048576)&&x.1.all fun l=>decide (l.length≤1048576))&&decide (x.2.length≤1048576),fun h=>by
 rw [Bool.and_eq_true,decide_eq_true_eq] at h;exact h⟩
theorem zrJ (x y:List (List Int) × List Int) (h:pNl x∧pNl y):FC Tryz.prog 21 [numK.val x,numK.val y] (.lit (.bool (decide (x=y)))):=by
 obtain ⟨⟨h1,h2⟩,h3,h4⟩:=h
 by_cases e:x.1=y.1
 ·have:=sn_0 x y ⟨h1,h3⟩ e ⟨h2,h4⟩
  rwa [show decide (x=y)=decide (x.2=y.2) from decide_eq_decide.2 ⟨fun h=>by rw [h],fun h=>Prod.ext e h⟩]
 ·exact litB (fun h=>absurd (congrArg Prod.fst h) e) fun _=>sn_1 x y ⟨h1,h3⟩ e
abbrev zbp:=List (List Int) × List Int
abbrev vecK:EK:=.pr numK numK
abbrev matK:EK:=.pr numK (.pr numK (.pr numK numK))
def ctrD:Ctr:=(21,cD2 numK numK (fun x y=>pNl x∧pNl y) (fun A B=>.lit (.bool (decide (A=B))))) :: ctrB
theorem zn8:∀p∈ctrD,kZ Tryz.prog p.1 p.2:=CAll.cons (zeS zrJ) zn7
theorem okD:(dZ Tryz.prog ctrD bw).OK:=TZ zn8
open Go.Kf
abbrev NT:=numK.ty
def adN (p:List Int) (x y:NT):NT:=gvN (plN (tkN p x) (tkN p y))
def suN (p:List Int) (x y:NT):NT:=gvN (plN (tkN p x) (ngN (tkN p y)))
def muN (p:List Int) (x y:NT):NT:=gvN (tmN p (tkN p x) (tkN p y))
def Gd (p:List Int) (x:NT):Prop:=pTk p x.1 x.2∧Bd 800 (tkN p x)
def pOp (p:List Int) (x y:NT):Prop:=Gd p x∧Gd p y
def cO (f:List Int→NT→NT→NT) (args:List AV):M AV:=match args with
 | [r,y,z]=>do
  let p ← asRL r
  let x ← asK numK y
  let x2 ← asK numK z
  tell (pOp p x x2)
  M.pure (.agg [.lst (.sl (.int .i64)) (f p x x2).1,.sq (f p x x2).2])
 | _=>fail 324
noncomputable def ctrQ3:Ctr:=(24,cO adN) :: (26,cO suN) :: (28,cO muN) :: ctrQ2
theorem zaw {p:List Int} {x:NT} (h:Gd p x):Nrm (qO p) (tkN p x):=(tk_ok (A:=20000) h.1 (by decide) (fun l hl=>(h.1.2.2.1 l hl).2) h.1.2.2.2.2).1
theorem bd_pNs {u v:NZ} (bu:Bd 2000 u) (bv:Bd 2000 v) (pu:0<u.2) (pv:0<v.2):pPlN u v:=
 ⟨⟨by omega,bu.2 0,bu.2 1,bu.2 2,bu.2 3,bu.1⟩,⟨by omega,bv.2 0,bv.2 1,bv.2 2,bv.2 3,bv.1⟩,pu,pv⟩
theorem bd_pGv {m:Nat} {u:NZ} (bu:Bd m u) (hm:m≤1048576):pGvN u:=⟨vZ (bu.2 0) hm,vZ (bu.2 1) hm,vZ (bu.2 2) hm,vZ (bu.2 3) hm,vZ bu.1 hm⟩
theorem ad_fc {p:List Int} {x y:NT} (h:pOp p x y):FC Tryz.prog 24 [reA (.lst .whole p),numK.val x,numK.val y] (numK.val (adN p x y)):=by
 have n1:=zaw h.1
 have n2:=zaw h.2
 exact RAdd_fc p x y h.1.1 h.2.1 (bd_pNs (h.1.2.mono (by decide)) (h.2.2.mono (by decide)) n1.pos n2.pos) (bd_pGv (zp5 h.1.2 h.2.2 n1.pos n2.pos) (by decide))
theorem su_fc {p:List Int} {x y:NT} (h:pOp p x y):FC Tryz.prog 26 [reA (.lst .whole p),numK.val x,numK.val y] (numK.val (suN p x y)):=by
 have n1:=zaw h.1
 have n2:=(ng_ok (zm3 h.1.1.1) (zaw h.2)).1
 have b2:=ng_bd h.2.2
 exact RSub_fc p x y h.1.1 h.2.1 (bd_pNs (h.1.2.mono (by decide)) (b2.mono (by decide)) n1.pos n2.pos) (bd_pGv (zp5 h.1.2 b2 n1.pos n2.pos) (by decide))
theorem mu_fc {p:List Int} {x y:NT} (h:pOp p x y):FC Tryz.prog 28 [reA (.lst .whole p),numK.val x,numK.val y] (numK.val (muN p x y)):=by
 have n1:=zaw h.1
 have n2:=zaw h.2
 exact RMul_fc p x y h.1.1 h.2.1 h.1.1.1 (bd_pNs (h.1.2.mono (by decide)) (h.2.2.mono (by decide)) n1.pos n2.pos) (bd_pGv (tm_ok h.1.1.1 n1 n2 h.1.2 h.2.2).2.2 (by decide))
theorem cO_ok {f:List Int→NT→NT→NT} {k:FuncId} (h:∀p x y,pOp p x y→FC Tryz.prog k [reA (.lst .whole p),numK.val x,numK.val y] (numK.val (f p x y))):kZ Tryz.prog k (cO f):=by
 intro args _
 unfold cO
 split
 ·exact Spec.bind (asRL_spec.mono fun p hr=>Spec.bind (asK_spec.mono fun x hx=>Spec.bind (asK_spec.mono fun y hy=>Spec.bind (Spec.tell fun hp=>Spec.pure' ((h p x y hp).le (.cons hr (.cons hx (.cons hy .nil))) (Le.refl _))))))
 ·exact Spec.fail
theorem ctrQ3_all:∀p∈ctrQ3,kZ Tryz.prog p.1 p.2:=CAll.cons (cO_ok fun _ _ _=>ad_fc)<|CAll.cons (cO_ok fun _ _ _=>su_fc)<|CAll.cons (cO_ok fun _ _ _=>mu_fc) zlK
abbrev kdQ3:List (TypeId × EK):=kdQ2
theorem okQ3:(dZ Tryz.prog ctrQ3 bw [] kdQ3).OK:=DZ zbQ mixed ctrQ3_all zbM
noncomputable section
theorem oC_0 (p:List Int) (u v:vecK.ty) (h1:pOp p u.fst v.snd) (h2:pOp p u.snd v.fst) (h3:pOp p (muN p u.fst v.snd) (muN p u.snd v.fst)):FC Tryz.prog 43 [reA (.lst .whole p),vecK.val u,vecK.val v] (.agg [.lst (EK.sl (.int .i64)) (suN p (muN p u.fst v.snd) (muN p u.snd v.fst)).fst,.sq (suN p (muN p u.fst v.snd) (muN p u.snd v.fst)).snd]):=eZ okQ3 60 [] (.c h1<|.c h2<|.c h3<|.e) [1,2,3]
theorem oU_0 (p:List Int) (u v:vecK.ty) (h1:pOp p u.fst v.fst) (h2:pOp p u.snd v.snd):FC Tryz.prog 46 [reA (.lst .whole p),vecK.val u,vecK.val v] (.agg [.lst (EK.sl (.int .i64)) (adN p u.fst v.fst).fst,.sq (adN p u.fst v.fst).snd,.lst (EK.sl (.int .i64)) (adN p u.snd v.snd).fst,.sq (adN p u.snd v.snd).snd]):=eZ okQ3 60 [] (.c h1<|.c h2<|.e) [1,2]
theorem oT_0 (p:List Int) (x:numK.ty) (v:vecK.ty) (h1:pOp p x v.fst) (h2:pOp p x v.snd):FC Tryz.prog 48 [reA (.lst .whole p),numK.val x,vecK.val v] (.agg [.lst (EK.sl (.int .i64)) (muN p x v.fst).fst,.sq (muN p x v.fst).snd,.lst (EK.sl (.int .i64)) (muN p x v.snd).fst,.sq (muN p x v.snd).snd]):=eZ okQ3 60 [] (.c h1<|.c h2<|.e) [1,2]
theorem oY_0 (p:List Int) (m:matK.ty) (v:vecK.ty) (h1:pOp p m.fst v.fst) (h2:pOp p m.snd.fst v.snd) (h3:pOp p (muN p m.fst v.fst) (muN p m.snd.fst v.snd)) (h4:pOp p m.snd.snd.fst v.fst) (h5:pOp p m.snd.snd.snd v.snd) (h6:pOp p (muN p m.snd.snd.fst v.fst) (muN p m.snd.snd.snd v.snd)):FC Tryz.prog 42 [reA (.lst .whole p),matK.val m,vecK.val v] (.agg [.lst (EK.sl (.int .i64)) (adN p (muN p m.fst v.fst) (muN p m.snd.fst v.snd)).fst,.sq (adN p (muN p m.fst v.fst) (muN p m.snd.fst v.snd)).snd,.lst (EK.sl (.int .i64)) (adN p (muN p m.snd.snd.fst v.fst) (muN p m.snd.snd.snd v.snd)).fst,.sq (adN p (muN p m.snd.snd.fst v.fst) (muN p m.snd.snd.snd v.snd)).snd]):=eZ okQ3 60 [] (.c h1<|.c h2<|.c h3<|.c h4<|.c h5<|.c h6<|.e) [1,2,3,4,5,6]
abbrev KZ (m:matK.ty):AV:=.agg [.lst (EK.sl (.int .i64)) m.fst.fst,.sq m.fst.snd,.lst (EK.sl (.int .i64)) m.snd.fst.fst,.sq m.snd.fst.snd,.lst (EK.sl (.int .i64)) m.snd.snd.fst.fst,.sq m.snd.snd.fst.snd,.lst (EK.sl (.int .i64)) m.snd.snd.snd.fst,.sq m.snd.snd.snd.snd]
abbrev za0 (p:List Int) (m:matK.ty) (n:matK.ty):Row:=.flat [.lst (EK.sl (.int .i64)) (adN p (muN p m.fst n.fst) (muN p m.snd.fst n.snd.snd.fst)).fst,.sq (adN p (muN p m.fst n.fst) (muN p m.snd.fst n.snd.snd.fst)).snd,.lst (EK.sl (.int .i64)) (adN p (muN p m.snd.snd.fst n.fst) (muN p m.snd.snd.snd n.snd.snd.fst)).fst,.sq (adN p (muN p m.snd.snd.fst n.fst) (muN p m.snd.snd.snd n.snd.snd.fst)).snd] true
abbrev zaR (m:matK.ty):Row:=.flat [.lst (EK.sl (.int .i64)) m.fst.fst,.sq m.fst.snd,.lst (EK.sl (.int .i64)) m.snd.fst.fst,.sq m.snd.fst.snd,.lst (EK.sl (.int .i64)) m.snd.snd.fst.fst,.sq m.snd.snd.fst.snd,.lst (EK.sl (.int .i64)) m.snd.snd.snd.fst,.sq m.snd.snd.snd.snd] true
abbrev zcY (p:List Int) (m:matK.ty) (n:matK.ty):Row:=.flat [.lst (EK.sl (.int .i64)) (adN p (muN p m.fst n.snd.fst) (muN p m.snd.fst n.snd.snd.snd)).fst,.sq (adN p (muN p m.fst n.snd.fst) (muN p m.snd.fst n.snd.snd.snd)).snd,.lst (EK.sl (.int .i64)) (adN p (muN p m.snd.snd.fst n.snd.fst) (muN p m.snd.snd.snd n.snd.snd.snd)).fst,.sq (adN p (muN p m.snd.snd.fst n.snd.fst) (muN p m.snd.snd.snd n.snd.snd.snd)).snd] true
abbrev zdu (p:List Int) (m:matK.ty) (n:matK.ty):AV:=.agg [.lst (EK.sl (.int .i64)) (adN p (muN p m.fst n.snd.fst) (muN p m.snd.fst n.snd.snd.snd)).fst,.sq (adN p (muN p m.fst n.snd.fst) (muN p m.snd.fst n.snd.snd.snd)).snd,.lst (EK.sl (.int .i64)) (adN p (muN p m.snd.snd.fst n.snd.fst) (muN p m.snd.snd.snd n.snd.snd.snd)).fst,.sq (adN p (muN p m.snd.snd.fst n.snd.fst) (muN p m.snd.snd.snd n.snd.snd.snd)).snd]
abbrev zdv (p:List Int) (m:matK.ty) (n:matK.ty):AV:=.agg [.lst (EK.sl (.int .i64)) (adN p (muN p m.fst n.fst) (muN p m.snd.fst n.snd.snd.fst)).fst,.sq (adN p (muN p m.fst n.fst) (muN p m.snd.fst n.snd.snd.fst)).snd,.lst (EK.sl (.int .i64)) (adN p (muN p m.snd.snd.fst n.fst) (muN p m.snd.snd.snd n.snd.snd.fst)).fst,.sq (adN p (muN p m.snd.snd.fst n.fst) (muN p m.snd.snd.snd n.snd.snd.fst)).snd]
abbrev zdw (n:matK.ty):Row:=.flat [.lst (EK.sl (.int .i64)) n.fst.fst,.sq n.fst.snd,.lst (EK.sl (.int .i64)) n.snd.fst.fst,.sq n.snd.fst.snd,.lst (EK.sl (.int .i64)) n.snd.snd.fst.fst,.sq n.snd.snd.fst.snd,.lst (EK.sl (.int .i64)) n.snd.snd.snd.fst,.sq n.snd.snd.snd.snd] true
abbrev zdx (n:matK.ty):AV:=.agg [.lst (EK.sl (.int .i64)) n.fst.fst,.sq n.fst.snd,.lst (EK.sl (.int .i64)) n.snd.fst.fst,.sq n.snd.fst.snd,.lst (EK.sl (.int .i64)) n.snd.snd.fst.fst,.sq n.snd.snd.fst.snd,.lst (EK.sl (.int .i64)) n.snd.snd.snd.fst,.sq n.snd.snd.snd.snd]
abbrev LZ (p:List Int):AV:=.pd [aJ,aJ,aJ,aJ,.lst EK.whole p,aJ,aJ,aJ,aJ,aJ,aJ,aJ] 0
abbrev zdy (n:matK.ty):AV:=.agg [.lst (EK.sl (.int .i64)) n.snd.fst.fst,.sq n.snd.fst.snd,.lst (EK.sl (.int .i64)) n.snd.snd.snd.fst,.sq n.snd.snd.snd.snd]
abbrev zbX (n:matK.ty):AV:=.agg [.lst (EK.sl (.int .i64)) n.fst.fst,.sq n.fst.snd,.lst (EK.sl (.int .i64)) n.snd.snd.fst.fst,.sq n.snd.snd.fst.snd]
abbrev zeC (n:matK.ty):Row:=.flat [.lst (EK.sl (.int .i64)) n.fst.fst,.sq n.fst.snd,.lst (EK.sl (.int .i64)) n.snd.snd.fst.fst,.sq n.snd.snd.fst.snd] true
abbrev zbY (n:matK.ty):AV:=.agg [.lst (EK.sl (.int .i64)) n.snd.snd.fst.fst,.sq n.snd.snd.fst.snd]
abbrev zbZ (n:matK.ty):AV:=.agg [.lst (EK.sl (.int .i64)) n.snd.snd.snd.fst,.sq n.snd.snd.snd.snd]
abbrev zb0 (n:matK.ty):AV:=.agg [.lst (EK.sl (.int .i64)) n.snd.fst.fst,.sq n.snd.fst.snd]
abbrev zb1 (n:matK.ty):AV:=.agg [.lst (EK.sl (.int .i64)) n.fst.fst,.sq n.fst.snd]
abbrev zb2:Row:=.flat [aN,aN,aN,aN,aN,aN,aN,aN] true
abbrev oP_0_s0 (p:List Int) (m n:matK.ty):St:=⟨sp 34 [(0,(LZ p)),(1,(KZ m)),(2,(zdx n)),(4,.ref 0 0),(5,.ref 1 0),(6,.ref 2 0),(7,.ref 9 0),(8,.ref 10 0),(9,(LZ p)),(10,(KZ m)),(11,.ref 1 0),(12,(zb1 n)),(13,.ref 1 4),(14,(zbY n)),(15,(zbX n)),(16,(zdv p m n)),(17,(LZ p)),(18,(KZ m)),(19,.ref 1 2),(20,(zb0 n)),(21,.ref 1 6),(22,(zbZ n)),(23,(zdy n)),(24,(zdu p m n))],[(zaR m),(zdw n),zb2,(zaR m),(zeC n),(za0 p m n),(zaR m),.flat [.lst (EK.sl (.int .i64)) n.snd.fst.fst,.sq n.snd.fst.snd,.lst (EK.sl (.int .i64)) n.snd.snd.snd.fst,.sq n.snd.snd.snd.snd] true,(zcY p m n),(za0 p m n),(zcY p m n)],[5,8]⟩
abbrev oP_0_s1 (p:List Int) (m n:matK.ty):St:=⟨sp 34 [(0,(LZ p)),(1,(KZ m)),(2,(zdx n)),(4,.ref 0 0),(5,.ref 1 0),(6,.ref 2 0),(7,.ref 6 0),(8,.ref 7 0),(9,(LZ p)),(10,(KZ m)),(11,.ref 1 0),(12,(zb1 n)),(13,.ref 1 4),(14,(zbY n)),(15,(zbX n)),(16,(zdv p m n)),(17,(LZ p)),(18,(KZ m)),(19,.ref 1 2),(20,(zb0 n)),(21,.ref 1 6),(22,(zbZ n)),(23,(zdy n)),(24,(zdu p m n))],[(zaR m),(zdw n),zb2,(zaR m),(zeC n),(za0 p m n),(za0 p m n),(zcY p m n)],[5,6]⟩
abbrev oP_0_s2 (p:List Int) (m n:matK.ty):St:=⟨sp 34 [(0,(LZ p)),(1,(KZ m)),(2,(zdx n)),(4,.ref 0 0),(5,.ref 1 0),(6,.ref 2 0),(7,.ref 7 0),(8,.ref 6 0),(9,(LZ p)),(10,(KZ m)),(11,.ref 1 0),(12,(zb1 n)),(13,.ref 1 4),(14,(zbY n)),(15,(zbX n)),(16,(zdv p m n)),(17,(LZ p)),(18,(KZ m)),(19,.ref 1 2),(20,(zb0 n)),(21,.ref 1 6),(22,(zbZ n)),(23,(zdy n)),(24,(zdu p m n))],[(zaR m),(zdw n),zb2,(zaR m),(zeC n),(za0 p m n),(zcY p m n),(za0 p m n)],[5,6]⟩
abbrev oP_0_s3 (p:List Int) (m n:matK.ty):St:=⟨sp 34 [(0,(LZ p)),(1,(KZ m)),(2,(zdx n)),(4,.ref 0 0),(5,.ref 1 0),(6,.ref 2 0),(7,.ref 6 0),(8,.ref 7 0),(9,(LZ p)),(10,(KZ m)),(11,.ref 1 0),(12,(zb1 n)),(13,.ref 1 4),(14,(zbY n)),(15,(zbX n)),(16,(zdv p m n)),(17,(LZ p)),(18,(KZ m)),(19,.ref 1 2),(20,(zb0 n)),(21,.ref 1 6),(22,(zbZ n)),(23,(zdy n)),(24,(zdu p m n))],[(zaR m),(zdw n),zb2,(zaR m),(zeC n),(za0 p m n),(za0 p m n),(zcY p m n)],[5]⟩
abbrev oP_0_s4 (p:List Int) (m n:matK.ty):St:=⟨sp 34 [(0,(LZ p)),(1,(KZ m)),(2,(zdx n)),(4,.ref 0 0),(5,.ref 1 0),(6,.ref 2 0),(7,.ref 3 0),(8,.ref 7 0),(9,(LZ p)),(10,(KZ m)),(11,.ref 1 0),(12,(zb1 n)),(13,.ref 1 4),(14,(zbY n)),(15,(zbX n)),(16,(zdv p m n)),(17,(LZ p)),(18,(KZ m)),(19,.ref 1 2),(20,(zb0 n)),(21,.ref 1 6),(22,(zbZ n)),(23,(zdy n)),(24,(zdu p m n))],[(zaR m),(zdw n),zb2,(za0 p m n),(zaR m),(zeC n),(za0 p m n),(zcY p m n)],[3,6]⟩
abbrev oP_0_s5 (p:List Int) (m n:matK.ty):St:=⟨sp 34 [(0,(LZ p)),(1,(KZ m)),(2,(zdx n)),(4,.ref 0 0),(5,.ref 1 0),(6,.ref 2 0),(7,.ref 3 0),(8,.ref 4 0),(9,(LZ p)),(10,(KZ m)),(11,.ref 1 0),(12,(zb1 n)),(13,.ref 1 4),(14,(zbY n)),(15,(zbX n)),(16,(zdv p m n)),(17,(LZ p)),(18,(KZ m)),(19,.ref 1 2),(20,(zb0 n)),(21,.ref 1 6),(22,(zbZ n)),(23,(zdy n)),(24,(zdu p m n))],[(zaR m),(zdw n),zb2,(za0 p m n),(zcY p m n)],[3]⟩
abbrev oP_0_s6 (p:List Int) (m n:matK.ty):St:=⟨sp 34 [(0,(LZ p)),(1,(KZ m)),(2,(zdx n)),(4,.ref 0 0),(5,.ref 1 0),(6,.ref 2 0),(7,.ref 7 0),(8,.ref 3 0),(9,(LZ p)),(10,(KZ m)),(11,.ref 1 0),(12,(zb1 n)),(13,.ref 1 4),(14,(zbY n)),(15,(zbX n)),(16,(zdv p m n)),(17,(LZ p)),(18,(KZ m)),(19,.ref 1 2),(20,(zb0 n)),(21,.ref 1 6),(22,(zbZ n)),(23,(zdy n)),(24,(zdu p m n))],[(zaR m),(zdw n),zb2,(zcY p m n),(zaR m),(zeC n),(za0 p m n),(za0 p m n)],[3,6]⟩
abbrev oP_0_s7 (p:List Int) (m n:matK.ty):St:=⟨sp 34 [(0,(LZ p)),(1,(KZ m)),(2,(zdx n)),(4,.ref 0 0),(5,.ref 1 0),(6,.ref 2 0),(7,.ref 4 0),(8,.ref 3 0),(9,(LZ p)),(10,(KZ m)),(11,.ref 1 0),(12,(zb1 n)),(13,.ref 1 4),(14,(zbY n)),(15,(zbX n)),(16,(zdv p m n)),(17,(LZ p)),(18,(KZ m)),(19,.ref 1 2),(20,(zb0 n)),(21,.ref 1 6),(22,(zbZ n)),(23,(zdy n)),(24,(zdu p m n))],[(zaR m),(zdw n),zb2,(zcY p m n),(za0 p m n)],[3]⟩
abbrev oP_0_s8 (p:List Int) (m n:matK.ty):St:=⟨sp 34 [(0,(LZ p)),(1,(KZ m)),(2,(zdx n)),(4,.ref 0 0),(5,.ref 1 0),(6,.ref 2 0),(7,.ref 3 0),(8,.ref 4 0),(9,(LZ p)),(10,(KZ m)),(11,.ref 1 0),(12,(zb1 n)),(13,.ref 1 4),(14,(zbY n)),(15,(zbX n)),(16,(zdv p m n)),(17,(LZ p)),(18,(KZ m)),(19,.ref 1 2),(20,(zb0 n)),(21,.ref 1 6),(22,(zbZ n)),(23,(zdy n)),(24,(zdu p m n))],[(zaR m),(zdw n),zb2,(za0 p m n),(zcY p m n)],[]⟩
theorem oP_0 (p:List Int) (m n:matK.ty) (h1:pOp p m.fst n.fst) (h2:pOp p m.snd.fst n.snd.snd.fst) (h3:pOp p (muN p m.fst n.fst) (muN p m.snd.fst n.snd.snd.fst)) (h4:pOp p m.snd.snd.fst n.fst) (h5:pOp p m.snd.snd.snd n.snd.snd.fst) (h6:pOp p (muN p m.snd.snd.fst n.fst) (muN p m.snd.snd.snd n.snd.snd.fst)) (h7:pOp p m.fst n.snd.fst) (h8:pOp p m.snd.fst n.snd.snd.snd) (h9:pOp p (muN p m.fst n.snd.fst) (muN p m.snd.fst n.snd.snd.snd)) (h10:pOp p m.snd.snd.fst n.snd.fst) (h11:pOp p m.snd.snd.snd n.snd.snd.snd) (h12:pOp p (muN p m.snd.snd.fst n.snd.fst) (muN p m.snd.snd.snd n.snd.snd.snd)):FC Tryz.prog 40 [reA (.lst .whole p),matK.val m,matK.val n] (.agg [.lst (EK.sl (.int .i64)) (adN p (muN p m.fst n.fst) (muN p m.snd.fst n.snd.snd.fst)).fst,.sq (adN p (muN p m.fst n.fst) (muN p m.snd.fst n.snd.snd.fst)).snd,.lst (EK.sl (.int .i64)) (adN p (muN p m.fst n.snd.fst) (muN p m.snd.fst n.snd.snd.snd)).fst,.sq (adN p (muN p m.fst n.snd.fst) (muN p m.snd.fst n.snd.snd.snd)).snd,.lst (EK.sl (.int .i64)) (adN p (muN p m.snd.snd.fst n.fst) (muN p m.snd.snd.snd n.snd.snd.fst)).fst,.sq (adN p (muN p m.snd.snd.fst n.fst) (muN p m.snd.snd.snd n.snd.snd.fst)).snd,.lst (EK.sl (.int .i64)) (adN p (muN p m.snd.snd.fst n.snd.fst) (muN p m.snd.snd.snd n.snd.snd.snd)).fst,.sq (adN p (muN p m.snd.snd.fst n.snd.fst) (muN p m.snd.snd.snd n.snd.snd.snd)).snd]):=eZ okQ3 60 [] (.c h1<|.c h2<|.c h3<|.c h4<|.c h5<|.c h6<|.c h7<|.c h8<|.c h9<|.c h10<|.c h11<|.c h12<|.s (oP_0_s0 p m n)<|.s (oP_0_s1 p m n)<|.s (oP_0_s2 p m n)<|.s (oP_0_s3 p m n)<|.s (oP_0_s4 p m n)<|.s (oP_0_s5 p m n)<|.s (oP_0_s6 p m n)<|.s (oP_0_s7 p m n)<|.s (oP_0_s8 p m n)<|.e) [1,2,3,4,5,6,7,8,9,10,11,12,13,7,8,9,10,11,12,7,8,9,10,11,12,14,7,8,9,10,11,12,7,8,9,10,11,12,15,16,16,1,2,3,4,5,6,7,8,9,10,11,12,7,8,9,10,11,12,17,1,2,3,4,5,6,7,8,9,10,11,12,18,1,2,3,4,5,6,7,8,9,10,11,12,7,8,9,10,11,12,19,1,2,3,4,5,6,7,8,9,10,11,12,20,21,21]
end
def crN (p:List Int) (u v:vecK.ty):NT:=suN p (muN p u.1 v.2) (muN p u.2 v.1)
def apN (p:List Int) (m:matK.ty) (v:vecK.ty):vecK.ty:=(adN p (muN p m.1 v.1) (muN p m.2.1 v.2),adN p (muN p m.2.2.1 v.1) (muN p m.2.2.2 v.2))
def prN (p:List Int) (m n:matK.ty):matK.ty:=(adN p (muN p m.1 n.1) (muN p m.2.1 n.2.2.1),adN p (muN p m.1 n.2.1) (muN p m.2.1 n.2.2.2),adN p (muN p m.2.2.1 n.1) (muN p m.2.2.2 n.2.2.1),adN p (muN p m.2.2.1 n.2.1) (muN p m.2.2.2 n.2.2.2))
def pDt (p:List Int) (a b c d:NT):Prop:=pOp p a b∧pOp p c d∧pOp p (muN p a b) (muN p c d)
theorem cr_fc {p:List Int} {u v:vecK.ty} (h:pDt p u.1 v.2 u.2 v.1):FC Tryz.prog 43 [reA (.lst .whole p),vecK.val u,vecK.val v] (numK.val (crN p u v)):=oC_0 p u v h.1 h.2.1 h.2.2
theorem sum_fc {p:List Int} {u v:vecK.ty} (h:pOp p u.1 v.1∧pOp p u.2 v.2):FC Tryz.prog 46 [reA (.lst .whole p),vecK.val u,vecK.val v] (vecK.val (adN p u.1 v.1,adN p u.2 v.2)):=oU_0 p u v h.1 h.2
theorem tim_fc {p:List Int} {x:NT} {v:vecK.ty} (h:pOp p x v.1∧pOp p x v.2):FC Tryz.prog 48 [reA (.lst .whole p),numK.val x,vecK.val v] (vecK.val (muN p x v.1,muN p x v.2)):=oT_0 p x v h.1 h.2
theorem ap_fc {p:List Int} {m:matK.ty} {v:vecK.ty} (h:pDt p m.1 v.1 m.2.1 v.2∧pDt p m.2.2.1 v.1 m.2.2.2 v.2):FC Tryz.prog 42 [reA (.lst .whole p),matK.val m,vecK.val v] (vecK.val (apN p m v)):=oY_0 p m v h.1.1 h.1.2.1 h.1.2.2 h.2.1 h.2.2.1 h.2.2.2
theorem pr_fc {p:List Int} {m n:matK.ty} (h:pDt p m.1 n.1 m.2.1 n.2.2.1∧pDt p m.1 n.2.1 m.2.1 n.2.2.2∧pDt p m.2.2.1 n.1 m.2.2.2 n.2.2.1∧pDt p m.2.2.1 n.2.1 m.2.2.2 n.2.2.2):FC Tryz.prog 40 [reA (.lst .whole p),matK.val m,matK.val n] (matK.val (prN p m n)):=oP_0 p m n h.1.1 h.1.2.1 h.1.2.2 h.2.2.1.1 h.2.2.1.2.1 h.2.2.1.2.2 h.2.1.1 h.2.1.2.1 h.2.1.2.2 h.2.2.2.1 h.2.2.2.2.1 h.2.2.2.2.2
end Go.Proofs.YtloaeinogiplbaaGreatDoor
end
section
open Go Go.Ev Go.RowKit
namespace Go.Proofs.YtloaeinogiplbaaGreatDoor
open Go.Proofs
set_option maxRecDepth 100000
set_option maxHeartbeats 1000000
set_option linter.unusedVariables false
set_option linter.unusedSimpArgs false
noncomputable section
end
open Go.Kf
theorem zo3 {q c:List Int} (h:zo8 q c):(za4 c).length≤q.length:=by
 rcases zeL c with h0 | h0
 ·rw [h0];exact Nat.zero_le _
 ·apply Nat.le_of_not_lt
  intro hlt
  apply h0
  rw [List.getLastD_eq_getLast?,List.getLast?_eq_getElem?]
  have:=zbv c ((za4 c).length-1)
  rw [h _ (by omega),List.getD_eq_getElem?_getD] at this
  exact this
theorem zjL {m:Nat} {z:Int} (h:Sz m z) (hm:m≤20000):zbG (aZ z):=by
 refine ⟨?_,fun d hd=>?_⟩
 ·rw [fZ]
  have:dl z≤m:=zau _ _ h
  omega
 ·have:=zea z d hd
  unfold cZ
  omega
def Nb (p:List Int) (m:Nat) (x:NT):Prop:=pTk p x.1 x.2∧Bd m (tkN p x)
theorem Nb.gd {p:List Int} {m:Nat} {x:NT} (h:Nb p m x) (hm:m≤800):Gd p x:=⟨h.1,h.2.mono hm⟩
theorem gv_nb {p:List Int} (h:zjr p) {u:NZ} (hu:Nrm (qO p) u) {m:Nat} (hb:Bd m u) (hm:m≤20000):Nb p m (gvN u):=by
 refine ⟨⟨h,?_,?_,zjL hb.1 hm,?_⟩,?_⟩
 ·show((za4 u.1).map aZ).length≤100
  rw [List.length_map]
  have:=zo3 hu.sh
  have:=zm3 h
  omega
 ·intro l hl
  obtain ⟨z,hz,rfl⟩:=List.mem_map.1 hl
  obtain ⟨i,hi,rfl⟩:=List.getElem_of_mem hz
  have e:=zbv u.1 i
  rw [List.getD_eq_getElem?_getD,List.getElem?_eq_getElem hi,Option.getD_some] at e
  have s:Sz m (za4 u.1)[i]:=by rw [e];exact hb.2 i
  exact ⟨zjL s hm,by rw [bZ];exact s.mono hm⟩
 ·show Sz 20000 (vl (aZ u.2))
  rw [bZ];exact hb.1.mono hm
 ·rw [tk_gv h hu];exact hb
section
variable {p:List Int} [hq:Fact' (1≤(qO p).length)]
abbrev FR (p:List Int):Type:=F (qO p).length (pV (qO p))
def fv (p:List Int) [hq:Fact' (1≤(qO p).length)] (x:NT):FR p:=⟨nv (qO p) (tkN p x),sup_val hq.ok _ _⟩
def Op (m:Nat) (x:NT) (f:FR p):Prop:=Nb p m x∧fv p x=f
theorem op_gv (h:zjr p) {u:NZ} (hu:Nrm (qO p) u) {m:Nat} (hb:Bd m u) (hm:m≤20000) {f:FR p} (hf:nv (qO p) u=f.1):Op m (gvN u) f:=
 ⟨gv_nb h hu hb hm,Subtype.ext (by show nv (qO p) (tkN p (gvN u))=f.1;rw [tk_gv h hu];exact hf)⟩
theorem ad_op {m k:Nat} {x y:NT} {f g:FR p} (hx:Op m x f) (hy:Op k y g) (hm:m≤800) (hk:k≤800):Op (m+k+1) (adN p x y) (CR.add f g):=by
 have h:=hx.1.1.1
 have n1:=zaw (hx.1.gd hm)
 have n2:=zaw (hy.1.gd hk)
 have ⟨n3,v3⟩:=pl_ok (zm3 h) n1 n2
 exact op_gv h n3 (zp5 hx.1.2 hy.1.2 n1.pos n2.pos) (by omega) (by rw [v3,← hx.2,← hy.2];rfl)
theorem su_op {m k:Nat} {x y:NT} {f g:FR p} (hx:Op m x f) (hy:Op k y g) (hm:m≤800) (hk:k≤800):Op (m+k+1) (suN p x y) (CR.add f (CR.neg g)):=by
 have h:=hx.1.1.1
 have n1:=zaw (hx.1.gd hm)
 have ⟨n2,v2⟩:=ng_ok (zm3 h) (zaw (hy.1.gd hk))
 have ⟨n3,v3⟩:=pl_ok (zm3 h) n1 n2
 exact op_gv h n3 (zp5 hx.1.2 (ng_bd hy.1.2) n1.pos n2.pos) (by omega) (by rw [v3,v2,← hx.2,← hy.2];rfl)
theorem mu_op {m k:Nat} {x y:NT} {f g:FR p} (hx:Op m x f) (hy:Op k y g) (hm:m≤800) (hk:k≤800):Op (m+k+10) (muN p x y) (CR.mul f g):=by
 have h:=hx.1.1.1
 have ⟨n3,v3,b3⟩:=tm_ok h (zaw (hx.1.gd hm)) (zaw (hy.1.gd hk)) hx.1.2 hy.1.2
 exact op_gv h n3 b3 (by omega) (by rw [v3,← hx.2,← hy.2];rfl)
omit hq in
theorem Op.of {m:Nat} {x:NT} [hq:Fact' (1≤(qO p).length)] (h:Nb p m x):Op m x (fv p x):=⟨h,rfl⟩
omit hq in
omit hq in
omit hq in
end
abbrev kdV2:List (TypeId × EK):=[(22,.sl (.int .i64)),(27,numK)]
def ctrB0:Ctr:=(140,cLL pDM1 (fun x y=>.tup [.ni (vl x / vl y),.ni (vl x % vl y),.lit (.int .i64 0)])) :: ctrF8
theorem zlr:∀p∈ctrB0,kZ Tryz.prog p.1 p.2:=CAll.cons (zck rdm1_fc) zlA
theorem znD:(dZ Tryz.prog ctrB0 bw [] kdV2).OK:=DZ zbQ mixed zlr zbM
noncomputable section
theorem rbl_0 (x:zbp) (h1:pX x.snd) (h2:(vl x.snd).sign=0) (h3:1≤1):FC Tryz.prog 91 [numK.val x] (.sq [1]):=eZ znD 60 [1] (.c h1<|.c (beq_iff_eq.2 h2)<|.c h3<|.e) [1,2,3]
theorem rbl_1 (x:zbp) (h1:pX x.snd) (h2:(vl x.snd).sign≠0) (h3:pNm x.snd):FC Tryz.prog 91 [numK.val x] (.ni (vl x.snd)):=eZ znD 60 [0] (.c h1<|.c (beq_false_of_ne h2)<|.c h3<|.e) [1,2,3]
theorem rcf_0 (c:List (List Int)) (i:Int) (h1:i<(c.length:Int)) (h2:0≤i):FC Tryz.prog 95 [.lst (.sl (.int .i64)) c,.lit (.int .i64 i)] (.sq (c.getD i.toNat (EK.dflt (EK.sl (.int .i64))))):=eZ znD 60 [1] (.t h1<|.t h2<|.e) [1,2,1]
theorem rcf_1 (c:List (List Int)) (i:Int) (h1:¬(i<(c.length:Int))):FC Tryz.prog 95 [.lst (.sl (.int .i64)) c,.lit (.int .i64 i)] (aN):=eZ znD 60 [0] (.f h1<|.e) [1]
abbrev zeW (s:St) (r:Ex × St):Prop:=Loops 1 Tryz.prog (lZ Tryz.prog 89 0) s r
abbrev zbA (a:List (List Int)) (b:List Int) (c d e:Int):St:=⟨sp 71 [(0,.lst (EK.sl (.int .i64)) a),(1,.sq b),(4,.ref 0 0),(5,.ni c),(6,aI d),(7,aI e)],[.flat [aN,aN] true],[]⟩
abbrev zc9 (a:List (List Int)) (b:List Int) (c d e:Int):St:=⟨sp 71 [(0,.lst (EK.sl (.int .i64)) a),(1,.sq b),(4,.ref 0 0),(5,.ni c),(6,aI d),(7,aI e)],[.flat [aN,aN] true],[]⟩
theorem zqH (a:List (List Int)) (b:List Int) (d f g:Int) (h1:g<(a.length:Int)) (h2:0≤g) (h3:pDM (aZ d) (a.getD g.toNat (EK.dflt (EK.sl (.int .i64))))) (h4:pX (a.getD g.toNat (EK.dflt (EK.sl (.int .i64))))) (h5:(vl (a.getD g.toNat (EK.dflt (EK.sl (.int .i64))))).sign≠0) (h6:r64 (g+1)) {r:Ex × St} (k:zeW (zbA a b ((↑(Int.gcd (vl (aZ d)) (vl (a.getD g.toNat (EK.dflt (EK.sl (.int .i64)))))):Int)) (g+1) (g+1)) r):zeW (zbA a b d f g) r:=Loops.go (LS.at znD 60 [] [0,1,4,5,6,7] [] [1,1] (.t h1<|.t h2<|.c h3<|.c h4<|.c (bne_iff_ne.2 h5)<|.i h6<|.e) [1,2,1,3,2,1,4,5,6,6]) k
theorem zqI (a:List (List Int)) (b:List Int) (d f g:Int) (h1:g<(a.length:Int)) (h2:0≤g) (h3:pDM (aZ d) (a.getD g.toNat (EK.dflt (EK.sl (.int .i64))))) (h4:pX (a.getD g.toNat (EK.dflt (EK.sl (.int .i64))))) (h5:(vl (a.getD g.toNat (EK.dflt (EK.sl (.int .i64))))).sign=0) (h6:r64 (g+1)) {r:Ex × St} (k:zeW (zbA a b ((↑(Int.gcd (vl (aZ d)) (vl (a.getD g.toNat (EK.dflt (EK.sl (.int .i64)))))):Int)) f (g+1)) r):zeW (zbA a b d f g) r:=Loops.go (LS.at znD 60 [] [0,1,4,5,6,7] [] [1,0] (.t h1<|.t h2<|.c h3<|.c h4<|.c (bne_eq_false_iff_eq.2 h5)<|.i h6<|.e) [1,2,1,3,2,1,4,5,6]) k
theorem zqJ (a:List (List Int)) (b:List Int) (c d g:Int) (h1:¬(g<(a.length:Int))):zeW (zbA a b c d g) (Ex.exit 0,(zc9 a b c d g)):=Loops.fin (LS.at znD 60 [] [0,1,4,5,6,7] [] [0] (.f h1<|.e) [1]) (fun h=>nomatch h)
abbrev zda (s:St) (r:Ex × St):Prop:=Loops 2 Tryz.prog (lZ Tryz.prog 89 1) s r
abbrev zcO (a:List (List Int)) (b:List Int) (c d:Int):St:=⟨sp 71 [(0,.lst (EK.sl (.int .i64)) a),(1,.sq b),(4,.ref 0 0),(5,.ni c),(6,aI d),(8,.ref 1 0),(9,aI 0)],[.flat [aN,aN] true,.flat [aN,aN] true],[1]⟩
abbrev zfU (a:List (List Int)) (b:List Int) (c d e:Int) (f:Nat) (g:List (List Int)):St:=⟨sp 71 [(0,.lst (EK.sl (.int .i64)) a),(1,.sq b),(4,.ref 0 0),(5,.ni c),(6,aI d),(8,.ref 1 0),(9,aI e)],[.flat [aN,aN] true,.flat [.own 2 0 f 1,aN] true,.lst (EK.sl (.int .i64)) g true],[1]⟩
abbrev zfV (a:List (List Int)) (b:List Int) (c d:Int):St:=⟨sp 71 [(0,.lst (EK.sl (.int .i64)) a),(1,.sq b),(4,.ref 0 0),(5,.ni c),(6,aI d),(8,.ref 1 0),(9,aI 0)],[.flat [aN,aN] true,.flat [aN,aN] true],[1]⟩
abbrev zct (a:List (List Int)) (b:List Int) (c d e:Int) (f:Nat) (g:List (List Int)):St:=⟨sp 71 [(0,.lst (EK.sl (.int .i64)) a),(1,.sq b),(4,.ref 0 0),(5,.ni c),(6,aI d),(8,.ref 1 0),(9,aI e)],[.flat [aN,aN] true,.flat [.own 2 0 f 1,aN] true,.lst (EK.sl (.int .i64)) g true],[1]⟩
theorem zqK (a:List (List Int)) (b:List Int) (d f:Int) (h1:0<f) (h2:0<(a.length:Int)) (h3:pDM1 (a.getD 0 (EK.dflt (EK.sl (.int .i64)))) (aZ d)) (h4:1≤List.length [aZ (vl (a.getD 0 (EK.dflt (EK.sl (.int .i64)))) / vl (aZ d))]) (h5:0<(List.take 1 [aZ (vl (a.getD 0 (EK.dflt (EK.sl (.int .i64)))) / vl (aZ d))]).length) (h6:(List.take 1 [aZ (vl (a.getD 0 (EK.dflt (EK.sl (.int .i64)))) / vl (aZ d))]).length*24≤140737488355328) (h7:(List.take 1 [aZ (vl (a.getD 0 (EK.dflt (EK.sl (.int .i64)))) / vl (aZ d))]).length≤4611686018427387904) {r:Ex × St} (k:zda (zfU a b d f (1) (1) ([aZ (vl (a.getD 0 (EK.dflt (EK.sl (.int .i64)))) / vl (aZ d))])) r):zda (zcO a b d f) r:=Loops.go (LS.at znD 60 [3] [0,1,4,5,6,8,9] [1] [1] (.t h1<|.t h2<|.c h3<|.c h4<|.t h5<|.t h6<|.t h7<|.e) [1,0,2,3,4,5,6,7,0]) k
theorem zqL (a:List (List Int)) (b:List Int) (c d:Int) (h1:¬(0<d)):zda (zcO a b c d) (Ex.exit 2,(zfV a b c d)):=Loops.fin (LS.at znD 60 [] [0,1,4,5,6,8,9] [1] [0] (.f h1<|.e) [1]) (fun h=>nomatch h)
theorem zqM (a:List (List Int)) (b:List Int) (d f g:Int) (j:Nat) (l:List (List Int)) (h1:g<f) (h2:0≤g) (h3:g<(a.length:Int)) (h4:pDM1 (a.getD g.toNat (EK.dflt (EK.sl (.int .i64)))) (aZ d)) (h5:1≤List.length [aZ (vl (a.getD g.toNat (EK.dflt (EK.sl (.int .i64)))) / vl (aZ d))]) (h6:(j+(List.take 1 [aZ (vl (a.getD g.toNat (EK.dflt (EK.sl (.int .i64)))) / vl (aZ d))]).length)*24≤140737488355328) (h7:j+(List.take 1 [aZ (vl (a.getD g.toNat (EK.dflt (EK.sl (.int .i64)))) / vl (aZ d))]).length≤4611686018427387904) (h8:j≤l.length) (h9:r64 (g+1)) {r:Ex × St} (k:zda (zfU a b d f (g+1) (j+(List.take 1 [aZ (vl (a.getD g.toNat (EK.dflt (EK.sl (.int .i64)))) / vl (aZ d))]).length) (l.take j++List.take 1 [aZ (vl (a.getD g.toNat (EK.dflt (EK.sl (.int .i64)))) / vl (aZ d))])) r):zda (zfU a b d f g j l) r:=Loops.go (LS.at znD 60 [4] [0,1,4,5,6,8,9] [1] [1] (.t h1<|.t h2<|.t h3<|.c h4<|.c h5<|.t h6<|.t h7<|.t h8<|.i h9<|.e) [1,2,3,4,5,6,7,8,9]) k
theorem zqN (a:List (List Int)) (b:List Int) (c d g:Int) (i:Nat) (j:List (List Int)) (h1:¬(g<d)):zda (zfU a b c d g i j) (Ex.exit 2,(zct a b c d g i j)):=Loops.fin (LS.at znD 60 [2] [0,1,4,5,6,8,9] [1] [0] (.f h1<|.e) [1]) (fun h=>nomatch h)
theorem rlw_0 (c:List (List Int)) (d:List Int) (a b f:Int) (h1:pDM d []) (hL1:zeW (zbA c d ((↑(Int.gcd (vl d) 0):Int)) (0) (0)) (Ex.exit 0,(zc9 c d a b f))) (h3:pX d) (h4:(vl d).sign<0) (h5:pX (aZ a)) (hL2:zda (zcO c d (-vl (aZ a)) b) (Ex.exit 2,(zfV c d (-vl (aZ a)) b))) (h7:pDM1 d (aZ (-vl (aZ a)))):FC Tryz.prog 89 [.lst (.sl (.int .i64)) c,.sq d] (.agg [aN,.ni (vl d / vl (aZ (-vl (aZ a))))]):=eZ znD 60 [1] (.c h1<|.v [0,1,4,5,6,7] [] hL1<|.c h3<|.t h4<|.c h5<|.v [0,1,4,5,6,8,9] [1] hL2<|.c h7<|.e) [1,0,2,3,4,5,0,6,7]
theorem rlw_1 (c:List (List Int)) (d:List Int) (a b f g:Int) (i:Nat) (j:List (List Int)) (h1:pDM d []) (hL1:zeW (zbA c d ((↑(Int.gcd (vl d) 0):Int)) (0) (0)) (Ex.exit 0,(zc9 c d a b f))) (h3:pX d) (h4:(vl d).sign<0) (h5:pX (aZ a)) (hL2:zda (zcO c d (-vl (aZ a)) b) (Ex.exit 2,(zct c d (-vl (aZ a)) b g i j))) (h7:pDM1 d (aZ (-vl (aZ a)))) (h8:i≤j.length):FC Tryz.prog 89 [.lst (.sl (.int .i64)) c,.sq d] (.agg [.lst (EK.sl (.int .i64)) (j.take i),.ni (vl d / vl (aZ (-vl (aZ a))))]):=eZ znD 60 [1] (.c h1<|.v [0,1,4,5,6,7] [] hL1<|.c h3<|.t h4<|.c h5<|.v [0,1,4,5,6,8,9] [1] hL2<|.c h7<|.c h8<|.e) [1,0,2,3,4,5,0,6,7,8]
theorem rlw_2 (c:List (List Int)) (d:List Int) (a b g:Int) (h1:pDM d []) (hL1:zeW (zbA c d ((↑(Int.gcd (vl d) 0):Int)) (0) (0)) (Ex.exit 0,(zc9 c d a b g))) (h3:pX d) (h4:¬((vl d).sign<0)) (hL2:zda (zcO c d a b) (Ex.exit 2,(zfV c d a b))) (h6:pDM1 d (aZ a)):FC Tryz.prog 89 [.lst (.sl (.int .i64)) c,.sq d] (.agg [aN,.ni (vl d / vl (aZ a))]):=eZ znD 60 [0] (.c h1<|.v [0,1,4,5,6,7] [] hL1<|.c h3<|.f h4<|.v [0,1,4,5,6,8,9] [1] hL2<|.c h6<|.e) [1,0,2,3,4,0,5,6]
theorem rlw_3 (c:List (List Int)) (d:List Int) (a b g i:Int) (j:Nat) (l:List (List Int)) (h1:pDM d []) (hL1:zeW (zbA c d ((↑(Int.gcd (vl d) 0):Int)) (0) (0)) (Ex.exit 0,(zc9 c d a b g))) (h3:pX d) (h4:¬((vl d).sign<0)) (hL2:zda (zcO c d a b) (Ex.exit 2,(zct c d a b i j l))) (h6:pDM1 d (aZ a)) (h7:j≤l.length):FC Tryz.prog 89 [.lst (.sl (.int .i64)) c,.sq d] (.agg [.lst (EK.sl (.int .i64)) (l.take j),.ni (vl d / vl (aZ a))]):=eZ znD 60 [0] (.c h1<|.v [0,1,4,5,6,7] [] hL1<|.c h3<|.f h4<|.v [0,1,4,5,6,8,9] [1] hL2<|.c h6<|.c h7<|.e) [1,0,2,3,4,0,5,6,7]
end
open Go.Kf
def pC (c:List (List Int)):Prop:=c.length≤100∧∀l∈c,pQ 20000 l
def zas (d:List Int):Int:=if vl d=0 then 1 else vl d
theorem below_fc (x:zbp) (h:pQ 20000 x.2):FC Tryz.prog 91 [numK.val x] (.ni (zas x.2)):=by
 have hx:pX x.2:=h.mono (by decide)
 unfold zas
 by_cases hz:vl x.2=0
 ·rw [if_pos hz]
  exact(rbl_0 x hx (by rw [hz];rfl) (Nat.le_refl _)).res fun E v hv=>hv.toNi (l:=[1]) rfl rfl
 ·rw [if_neg hz]
  exact rbl_1 x hx (fun h0=>hz (Int.sign_eq_zero_iff_zero.1 h0)) (h.mono (by decide))
theorem coef_fc (c:List (List Int)) (i:Int) (h:0≤i):FC Tryz.prog 95 [.lst (.sl (.int .i64)) c,.lit (.int .i64 i)] (.sq (c.getD i.toNat [])):=by
 by_cases hi:i<(c.length:Int)
 ·exact rcf_0 c i hi h
 ·have e:c.getD i.toNat []=[]:=by rw [List.getD_eq_getElem?_getD,List.getElem?_eq_none (by omega)];rfl
  rw [e]
  exact(rcf_1 c i hi).res fun E v hv=>hv.toSq (l:=[]) rfl
def gcF (g:Int):List (List Int)→Int
 | []=>g
 | l :: r=>gcF (Int.gcd g (vl l):Int) r
def lsF (n i:Nat):List (List Int)→Nat
 | []=>n
 | l :: r=>lsF (if vl l=0 then n else i+1) (i+1) r
theorem gcF_ok {k:Nat}:∀ {c:List (List Int)} {g:Int},g≠0→Sz k g→gcF g c≠0∧Sz k (gcF g c)
 | [],_,h,s=>⟨h,s⟩
 | l :: c,g,h,s=>gcF_ok (c:=c) (zjH h) (zrV s h)
theorem lsF_le:∀(c:List (List Int)) (n i:Nat),n≤i→lsF n i c≤i+c.length
 | [],n,i,h=>h
 | l :: c,n,i,h=>by
  have:=lsF_le c (if vl l=0 then n else i+1) (i+1) (by split<;>omega)
  simp only [lsF,List.length_cons]
  omega
theorem lw_l0 {c:List (List Int)} {d:List Int} (hc:pC c):∀(suf pre:List (List Int)) (g:Int) (n:Nat),c=pre++suf→g≠0→Sz 20003 g →
 zeW (zbA c d g n pre.length) (Ex.exit 0,zc9 c d (gcF g suf) (lsF n pre.length suf) c.length)
 | [],pre,g,n,he,_,_=>by
  have:c.length=pre.length:=by rw [he];simp
  rw [this]
  exact zqJ c d g n pre.length (by omega)
 | l :: suf,pre,g,n,he,h0,hs=>by
  have hlen:pre.length<c.length:=by rw [he];simp
  have hl:=hc.1
  have hg:c.getD (Int.toNat (pre.length:Int)) (EK.dflt (EK.sl (EK.int IntKind.i64)))=l:=by rw [Int.toNat_natCast,he,List.getD_eq_getElem?_getD];simp
  have hx:pQ 20000 l:=hc.2 l (by rw [he];simp)
  have ih:=lw_l0 (d:=d) hc suf (pre++[l]) (Int.gcd g (vl l):Int) (if vl l=0 then n else pre.length+1) (by rw [he];simp) (zjH h0) (zrV hs h0)
  rw [show(pre++[l]).length=pre.length+1 by simp] at ih
  have pd:pDM (aZ g) l:=⟨hZ hs (by decide),hx.mono (by decide)⟩
  have px:pX l:=hx.mono (by decide)
  by_cases hz:vl l=0
  ·rw [show lsF n pre.length (l :: suf)=lsF n (pre.length+1) suf by simp [lsF,hz]]
   rw [if_pos hz] at ih
   refine zqI c d g n pre.length (by omega) (by omega) (by rw [hg];exact pd) (by rw [hg];exact px) (by rw [hg,hz];rfl) (by unfold r64;omega) ?_
   rw [hg,bZ]
   exact ih
  ·rw [show lsF n pre.length (l :: suf)=lsF (pre.length+1) (pre.length+1) suf by simp [lsF,hz]]
   rw [if_neg hz] at ih
   refine zqH c d g n pre.length (by omega) (by omega) (by rw [hg];exact pd) (by rw [hg];exact px) (by rw [hg];exact fun h=>hz (Int.sign_eq_zero_iff_zero.1 h)) (by unfold r64;omega) ?_
   rw [hg,bZ]
   exact ih
def qsR (g:Int) (c:List (List Int)) (i:Nat):List (List Int):=(c.take i).map fun l=>aZ (vl l / g)
theorem ziG {g:Int} {c:List (List Int)} {i:Nat} (h:i≤c.length):(qsR g c i).length=i:=by simp [qsR];omega
theorem zoD {g:Int} {c:List (List Int)} {i:Nat} (h:i<c.length):qsR g c (i+1)=(qsR g c i).take i++List.take 1 [aZ (vl (c.getD i []) / g)]:=by
 rw [List.take_of_length_le (by rw [ziG (by omega)];exact Nat.le_refl _)]
 unfold qsR
 rw [List.take_succ_eq_append_getElem h,List.getD_eq_getElem?_getD,List.getElem?_eq_getElem h,List.map_append]
 rfl
theorem pC_get {c:List (List Int)} (hc:pC c) {i:Nat} (h:i<c.length):pQ 20000 (c.getD i []):=by
 rw [List.getD_eq_getElem?_getD,List.getElem?_eq_getElem h];exact hc.2 _ (List.getElem_mem h)
theorem pdm1 {l:List Int} {g:Int} (hl:pQ 20000 l) (h0:g≠0) (hs:Sz 20003 g):pDM1 l (aZ g):=⟨⟨hl.mono (by decide),hZ hs (by decide)⟩,by rw [bZ];exact h0⟩
theorem lw_l1 {c:List (List Int)} {d:List Int} (hc:pC c) {g:Int} (h0:g≠0) (hs:Sz 20003 g) {n:Nat} (hn:n≤c.length):∀(m i:Nat),i+m=n →
 zda (zfU c d g n i i (qsR g c i)) (Ex.exit 2,zct c d g n n n (qsR g c n))
 | 0,i,hi=>by
  obtain rfl:i=n:=by omega
  exact zqN c d g i i i _ (by omega)
 | m+1,i,hi=>by
  have hl:=hc.1
  have e1:Int.toNat (i:Int)=i:=rfl
  have ih:=lw_l1 (d:=d) hc h0 hs hn m (i+1) (by omega)
  rw [zoD (by omega),← bZ g] at ih
  rw [bZ g] at ih
  have go:=@zqM c d g n i i (qsR g c i) (by omega) (by omega) (by omega) (by rw [e1];exact pdm1 (pC_get hc (by omega)) h0 hs) (Nat.le_refl 1) (show(i+1)*24≤_ by omega) (show i+1≤_ by omega) (by rw [ziG (by omega)];exact Nat.le_refl _) (by unfold r64;omega) (Ex.exit 2,zct c d g n n n (qsR g c n))
  rw [e1,bZ] at go
  exact go ih
def zho (c:List (List Int)) (d:List Int):zbp:=
 let g:=(vl d).sign*gcF ((vl d).natAbs:Int) c
 (qsR g c (lsF 0 0 c),aZ (vl d / g))
theorem zpD (c:List (List Int)) (d:List Int) (hc:pC c) (hd:pQ 20000 d) (h0:vl d≠0):FC Tryz.prog 89 [.lst (.sl (.int .i64)) c,.sq d] (numK.val (zho c d)):=by
 have e0:(Int.gcd (vl d) 0:Int)=((vl d).natAbs:Int):=by simp
 have s0:Sz 20003 ((vl d).natAbs:Int):=Sz.abs hd.sz
 have n0:((vl d).natAbs:Int)≠0:=by omega
 have L0:=lw_l0 (d:=d) hc c [] ((vl d).natAbs:Int) 0 rfl n0 s0
 have ⟨g0,gs⟩:=gcF_ok (c:=c) n0 s0
 have hls:=lsF_le c 0 0 (Nat.le_refl 0)
 have pd0:pDM d []:=⟨hd.mono (by decide),⟨by simp,fun d hd=>by cases hd⟩⟩
 have px:pX d:=hd.mono (by decide)
 generalize hg:gcF ((vl d).natAbs:Int) c=g at *
 generalize hn:lsF 0 0 c=n at *
 have main:∀(z:Int),z≠0→Sz 20003 z→(n=0→zda (zcO c d z n) (Ex.exit 2,zfV c d z n))∧(n≠0→zda (zcO c d z n) (Ex.exit 2,zct c d z n n n (qsR z c n))):=by
  intro z hz sz
  refine ⟨fun h=>?_,fun h=>?_⟩
  ·subst h;exact zqL c d z 0 (by omega)
  ·have hl:=hc.1
   have L1:=lw_l1 (d:=d) hc hz sz (n:=n) (by omega) (n-1) 1 (by omega)
   have e:qsR z c 1=[aZ (vl (c.getD 0 []) / z)]:=by rw [zoD (i:=0) (by omega)];rfl
   rw [e] at L1
   have go:=@zqK c d z n (by omega) (by omega) (pdm1 (pC_get hc (by omega)) hz sz) (Nat.le_refl 1) (by decide:(0:Nat)<1) (by decide:(1:Nat)*24≤_) (by decide:(1:Nat)≤_) (Ex.exit 2,zct c d z n n n (qsR z c n))
   rw [bZ] at go
   exact go L1
 have tk:∀z,(qsR z c n).take n=qsR z c n:=fun z=>List.take_of_length_le (by rw [ziG (by omega)];exact Nat.le_refl _)
 have q0:∀z,n=0→qsR z c n=[]:=fun z h=>by subst h;rfl
 by_cases hneg:vl d<0
 ·have sg:(vl d).sign = -1:=Int.sign_eq_neg_one_of_neg hneg
  have hz:-g≠0:=by omega
  have ⟨m1,m2⟩:=main (-g) hz gs.neg
  have e:zho c d=(qsR (-g) c n,aZ (vl d / -g)):=by simp only [zho,hg,hn,sg];rw [show(-1:Int)*g = -g by omega]
  rw [e]
  by_cases h:n=0
  ·have:=rlw_0 c d g n c.length pd0 (by rw [e0];exact L0) px (by rw [sg];decide) (hZ gs (by decide)) (by rw [bZ];exact m1 h) (by rw [bZ];exact pdm1 hd hz gs.neg)
   rw [bZ,bZ] at this
   rw [q0 _ h]
   exact this.le (LeL.refl _) (Le.agg (.cons (zkB _) (.cons (Le.ni_sq _) .nil)))
  ·have:=rlw_1 c d g n c.length n n (qsR (-g) c n) pd0 (by rw [e0];exact L0) px (by rw [sg];decide) (hZ gs (by decide)) (by rw [bZ];exact m2 h) (by rw [bZ];exact pdm1 hd hz gs.neg) (by rw [ziG (by omega)];exact Nat.le_refl _)
   rw [bZ,bZ,tk] at this
   exact this.le (LeL.refl _) (Le.agg (.cons (Le.refl _) (.cons (Le.ni_sq _) .nil)))
 ·have sg:(vl d).sign=1:=Int.sign_eq_one_of_pos (by omega)
  have ⟨m1,m2⟩:=main g g0 gs
  have e:zho c d=(qsR g c n,aZ (vl d / g)):=by simp only [zho,hg,hn,sg];rw [Int.one_mul]
  rw [e]
  by_cases h:n=0
  ·have:=rlw_2 c d g n c.length pd0 (by rw [e0];exact L0) px (by rw [sg];decide) (m1 h) (pdm1 hd g0 gs)
   rw [bZ] at this
   rw [q0 _ h]
   exact this.le (LeL.refl _) (Le.agg (.cons (zkB _) (.cons (Le.ni_sq _) .nil)))
  ·have:=rlw_3 c d g n c.length n n (qsR g c n) pd0 (by rw [e0];exact L0) px (by rw [sg];decide) (m2 h) (pdm1 hd g0 gs) (by rw [ziG (by omega)];exact Nat.le_refl _)
   rw [bZ,tk] at this
   exact this.le (LeL.refl _) (Le.agg (.cons (Le.refl _) (.cons (Le.ni_sq _) .nil)))
open Go.Kf
def pLw (c:List (List Int)) (d:List Int):Prop:=pC c∧pQ 20000 d∧vl d≠0
def ctrB1:Ctr:=(91,cD1 numK (fun x=>pQ 20000 x.2) (fun x=>.ni (zas x.2))) :: (95,cD2 (.sl (.sl (.int .i64))) (.int .i64) (fun _ i=>0≤i) (fun c i=>.sq (c.getD i.toNat []))) ::
 (89,cD2 (.sl (.sl (.int .i64))) (.sl (.int .i64)) pLw (fun c d=>.agg [.lst (.sl (.int .i64)) (zho c d).1,.sq (zho c d).2])) :: ctrB0
theorem zls:∀p∈ctrB1,kZ Tryz.prog p.1 p.2:=CAll.cons (zhR below_fc)<|CAll.cons (zeS fun c i h=>coef_fc c i h)<|CAll.cons (zeS fun c d h=>zpD c d h.1 h.2.1 h.2.2) zlr
theorem okB1:(dZ Tryz.prog ctrB1 bw [] kdV2).OK:=DZ zbQ mixed zls zbM
noncomputable section
abbrev zf8 (s:St) (r:Ex × St):Prop:=Loops 4 Tryz.prog (lZ Tryz.prog 90 0) s r
abbrev zhx (a:Int) (b:Nat) (c:List Int) (d e f:Int) (g:List (List Int)):St:=⟨sp 66 [(2,.ref 0 0),(5,aI a),(6,.own 3 0 b 1)],[.flat [.sq c,aI d,aI e,aI f] true,.flat [.sq c,aI d,aI e,aI f] true,.dead,.lst (EK.sl (.int .i64)) g true],[3,2]⟩
abbrev zf9 (a:Int) (b:Nat) (c:List Int) (d e f:Int) (g:List (List Int)) (i:Nat) (j:List (List Int)):St:=⟨sp 66 [(2,.ref 0 0),(5,aI a),(6,.own 4 0 i 1)],[.flat [.sq c,aI d,aI e,aI f] true,.flat [.sq c,aI d,aI e,aI f] true,.dead,.dead,.lst (EK.sl (.int .i64)) j true],[3,2]⟩
abbrev zmE (a:Int) (b:Nat) (c:List Int) (d e f:Int) (g:List (List Int)):St:=⟨sp 66 [(2,.ref 0 0),(5,aI a),(6,.own 3 0 b 1)],[.flat [.sq c,aI d,aI e,aI f] true,.flat [.sq c,aI d,aI e,aI f] true,.dead,.lst (EK.sl (.int .i64)) g true],[3,2]⟩
abbrev ziY (a:Int) (b:Nat) (c:List Int) (d e f:Int) (g:List (List Int)) (i:Nat) (j:List (List Int)):St:=⟨sp 66 [(2,.ref 0 0),(5,aI a),(6,.own 4 0 i 1)],[.flat [.sq c,aI d,aI e,aI f] true,.flat [.sq c,aI d,aI e,aI f] true,.dead,.dead,.lst (EK.sl (.int .i64)) j true],[3,2]⟩
theorem zq3 (a:Int) (b:Nat) (d:List Int) (f g i:Int) (j:List (List Int)) (h1:(b:Int)<a) (h2:1≤1) (h3:(b+1)*24≤140737488355328) (h4:b+1≤4611686018427387904) (h5:b≤j.length) {r:Ex × St} (k:zf8 (zf9 a b d f g i j (b+1) (j.take b++List.take 1 [[]])) r):zf8 (zhx a b d f g i j) r:=Loops.go (LS.at okB1 60 [5] [2,5,6] [3,2] [1] (.t h1<|.c h2<|.t h3<|.t h4<|.t h5<|.e) [1,2,3,4,5]) k
theorem zq4 (a:Int) (b:Nat) (c:List Int) (d g i:Int) (j:List (List Int)) (h1:¬((b:Int)<a)):zf8 (zhx a b c d g i j) (Ex.exit 0,(zmE a b c d g i j)):=Loops.fin (LS.at okB1 60 [] [2,5,6] [3,2] [0] (.f h1<|.e) [1]) (fun h=>nomatch h)
theorem zq5 (a:Int) (b:Nat) (d:List Int) (f g i:Int) (j:List (List Int)) (l:Nat) (m:List (List Int)) (h1:(l:Int)<a) (h2:1≤1) (h3:(l+1)*24≤140737488355328) (h4:l+1≤4611686018427387904) (h5:l≤m.length) {r:Ex × St} (k:zf8 (zf9 a b d f g i j (l+1) (m.take l++List.take 1 [[]])) r):zf8 (zf9 a b d f g i j l m) r:=Loops.go (LS.at okB1 60 [6] [2,5,6] [3,2] [1] (.t h1<|.c h2<|.t h3<|.t h4<|.t h5<|.e) [1,2,3,4,5]) k
theorem zq6 (a:Int) (b:Nat) (c:List Int) (d g i:Int) (j:List (List Int)) (l:Nat) (m:List (List Int)) (h1:¬((l:Int)<a)):zf8 (zf9 a b c d g i j l m) (Ex.exit 0,(ziY a b c d g i j l m)):=Loops.fin (LS.at okB1 60 [4] [2,5,6] [3,2] [0] (.f h1<|.e) [1]) (fun h=>nomatch h)
abbrev zmG (s:St) (r:Ex × St):Prop:=Loops 4 Tryz.prog (lZ Tryz.prog 90 1) s r
abbrev zgd (a:Int) (b:List Int) (c d e:Int) (f:Nat) (g:List (List Int)):St:=⟨sp 66 [(2,.ref 0 0),(5,aI a),(6,.own 3 0 f 1)],[.flat [.sq b,aI c,aI d,aI e] true,.flat [.sq b,aI c,aI d,aI e] true,.dead,.lst (EK.sl (.int .i64)) g true],[3,2]⟩
abbrev ziZ (a:Int) (b:List Int) (c d e:Int) (f:Nat) (g:List (List Int)):St:=⟨sp 66 [(2,.ref 0 0),(5,aI a),(6,.own 3 0 f 1)],[.flat [.sq b,aI c,aI d,aI e] true,.flat [.sq b,aI c,aI d,aI e] true,.dead,.lst (EK.sl (.int .i64)) g true],[3,2]⟩
abbrev zmF (s:St) (r:Ex × St):Prop:=Loops 4 Tryz.prog (lZ Tryz.prog 90 2) s r
abbrev zga (a:Int) (b:Nat) (c d:List Int) (e f g i:Int) (j:List (List Int)):St:=⟨sp 66 [(2,.ref 0 0),(5,aI a),(6,.own 3 0 b 1),(7,.sq c),(8,aI i)],[.flat [.sq d,aI e,aI f,aI g] true,.flat [.sq d,aI e,aI f,aI g] true,.dead,.lst (EK.sl (.int .i64)) j true],[3,2]⟩
abbrev zgc (a:Int) (b:Nat) (c d:List Int) (e f g i:Int) (j:List (List Int)):St:=⟨sp 66 [(2,.ref 0 0),(5,aI a),(6,.own 3 0 b 1),(7,.sq c),(8,aI i)],[.flat [.sq d,aI e,aI f,aI g] true,.flat [.sq d,aI e,aI f,aI g] true,.dead,.lst (EK.sl (.int .i64)) j true],[3,2]⟩
abbrev zgb (a:Int) (b:Nat) (c:List Int) (d:List Int) (i:Int) (j:List (List Int)):Row:=.lst (EK.sl (.int .i64)) (j.set ((b:Int)-a+i).toNat (aZ (vl (j.getD ((b:Int)-a+i).toNat (EK.dflt (EK.sl (.int .i64))))-vl (aZ (vl c*vl (List.take 1 [d.getD i.toNat 0])))))) true
abbrev zkY (a:Int) (b:Nat) (c d:List Int) (e f g i:Int) (j:List (List Int)):St:=⟨sp 66 [(2,.ref 0 0),(5,aI a),(6,.own 3 0 b 1),(7,.sq c),(8,aI i),(9,aI ((b:Int)-a+i)),(37,aI i),(38,aI a),(39,.lit (.bool (decide (i<a)))),(42,.own 3 0 b 1),(43,aI (b:Int)),(44,aI a),(45,aI ((b:Int)-a)),(46,aI i),(47,aI ((b:Int)-a+i)),(48,.own 3 0 b 1),(49,aI ((b:Int)-a+i)),(50,.own 3 0 b 1),(51,aI ((b:Int)-a+i)),(52,.rel 3 ((b:Int)-a+i).toNat 1 0),(53,.sq (j.getD ((b:Int)-a+i).toNat (EK.dflt (EK.sl (.int .i64))))),(54,.sq c),(55,.ref 0 0),(56,.ref 0 0),(57,.sq d),(58,aI i),(59,.qel d i.toNat),(60,aI (d.getD i.toNat 0)),(61,.own 4 0 1 1),(62,.ni (vl c*vl (List.take 1 [d.getD i.toNat 0]))),(63,.ni (vl (j.getD ((b:Int)-a+i).toNat (EK.dflt (EK.sl (.int .i64))))-vl (aZ (vl c*vl (List.take 1 [d.getD i.toNat 0]))))),(64,.rel 3 ((b:Int)-a+i).toNat 1 0)],[.flat [.sq d,aI e,aI f,aI g] true,.flat [.sq d,aI e,aI f,aI g] true,.dead,(zgb a b c d i j),.ints [d.getD i.toNat 0] false],[3,3,2]⟩
abbrev zkZ (a:Int) (b:Nat) (c d:List Int) (e f g i:Int) (j:List (List Int)):St:=⟨sp 66 [(2,.ref 0 0),(5,aI a),(6,.own 3 0 b 1),(7,.sq c),(8,aI i),(9,aI ((b:Int)-a+i)),(37,aI i),(38,aI a),(39,.lit (.bool (decide (i<a)))),(42,.own 3 0 b 1),(43,aI (b:Int)),(44,aI a),(45,aI ((b:Int)-a)),(46,aI i),(47,aI ((b:Int)-a+i)),(48,.own 3 0 b 1),(49,aI ((b:Int)-a+i)),(50,.own 3 0 b 1),(51,aI ((b:Int)-a+i)),(52,.rel 3 ((b:Int)-a+i).toNat 1 0),(53,.sq (j.getD ((b:Int)-a+i).toNat (EK.dflt (EK.sl (.int .i64))))),(54,.sq c),(55,.ref 0 0),(56,.ref 0 0),(57,.sq d),(58,aI i),(59,.qel d i.toNat),(60,aI (d.getD i.toNat 0)),(61,.own 4 0 1 1),(62,.ni (vl c*vl (List.take 1 [d.getD i.toNat 0]))),(63,.ni (vl (j.getD ((b:Int)-a+i).toNat (EK.dflt (EK.sl (.int .i64))))-vl (aZ (vl c*vl (List.take 1 [d.getD i.toNat 0]))))),(64,.rel 3 ((b:Int)-a+i).toNat 1 0)],[.flat [.sq d,aI e,aI f,aI g] true,.flat [.sq d,aI e,aI f,aI g] true,.dead,(zgb a b c d i j),.ints [d.getD i.toNat 0] false],[2,3]⟩
theorem zq7 (a:Int) (b:Nat) (d f:List Int) (g j l m:Int) (n:List (List Int)) (h1:m<a) (h2:r64 ((b:Int)-a)) (h3:r64 ((b:Int)-a+m)) (h4:0≤(b:Int)-a+m) (h5:(b:Int)-a+m<(b:Int)) (h6:0≤m) (h7:m<(f.length:Int)) (h8:m.toNat<f.length) (h9:((b:Int)-a+m).toNat<n.length) (h10:1≤List.length [f.getD m.toNat 0]) (h11:pMu d (List.take 1 [f.getD m.toNat 0])) (h12:pSu (n.getD ((b:Int)-a+m).toNat (EK.dflt (EK.sl (.int .i64)))) (aZ (vl d*vl (List.take 1 [f.getD m.toNat 0])))) (h13:r64 (m+1)) {r:Ex × St} (k:zmF (zga a b d f g j l (m+1) (n.set ((b:Int)-a+m).toNat (aZ (vl (n.getD ((b:Int)-a+m).toNat (EK.dflt (EK.sl (.int .i64))))-vl (aZ (vl d*vl (List.take 1 [f.getD m.toNat 0]))))))) r):zmF (zga a b d f g j l m n) r:=Loops.go (LS.at okB1 60 [] [2,5,6,7,8] [3,2] [1] (.t h1<|.i h2<|.i h3<|.t h4<|.t h5<|.t h6<|.t h7<|.t h8<|.t h9<|.c h10<|.c h11<|.c h12<|.s (zkY a b d f g j l m n)<|.s (zkZ a b d f g j l m n)<|.i h13<|.e) [1,2,3,4,5,6,7,8,9,10,11,12,4,5,9,9,10,11,12,4,5,9,10,11,9,12,4,5,9,13,14,15]) k
theorem zq8 (a:Int) (b:Nat) (c d:List Int) (g i j l:Int) (m:List (List Int)) (h1:¬(l<a)):zmF (zga a b c d g i j l m) (Ex.exit 4,(zgc a b c d g i j l m)):=Loops.fin (LS.at okB1 60 [] [2,5,6,7,8] [3,2] [0] (.f h1<|.e) [1]) (fun h=>nomatch h)
theorem zq9 (a:Int) (b:List Int) (c d f:Int) (g:Nat) (j:List (List Int)) (l:Int) (m:List (List Int)) (h1:(g:Int) > a) (h2:r64 ((g:Int)-1)) (h3:0≤(g:Int)-1) (h4:(g:Int)-1<(g:Int)) (h5:((g:Int)-1).toNat<j.length) (h6:(g:Int)-1≤(g:Int)) (hL1:zmF (zga a ((g:Int)-1).toNat (j.getD ((g:Int)-1).toNat (EK.dflt (EK.sl (.int .i64)))) b c d f (0) j) (Ex.exit 4,(zgc a ((g:Int)-1).toNat (j.getD ((g:Int)-1).toNat (EK.dflt (EK.sl (.int .i64)))) b c d f l m))) {r:Ex × St} (k:zmG (zgd a b c d f ((g:Int)-1).toNat m) r):zmG (zgd a b c d f g j) r:=Loops.go (LS.at okB1 60 [] [2,5,6] [3,2] [1] (.t h1<|.i h2<|.t h3<|.t h4<|.t h5<|.t h6<|.v [2,5,6,7,8] [3,2] hL1<|.e) [1,2,3,4,5,2,3,6,0,7]) k
theorem zra (a:Int) (b:List Int) (c d g:Int) (i:Nat) (j:List (List Int)) (h1:¬((i:Int) > a)):zmG (zgd a b c d g i j) (Ex.exit 2,(ziZ a b c d g i j)):=Loops.fin (LS.at okB1 60 [] [2,5,6] [3,2] [0] (.f h1<|.e) [1]) (fun h=>nomatch h)
theorem rrd_0 (p:List Int) (a b d:Int) (c:List (List Int)) (f:Nat) (g:List (List Int)) (h1:r64 ((p.length:Int)-1)) (h2:(0+c.length)*24≤140737488355328) (h3:0+c.length≤4611686018427387904) (hL1:zf8 (zhx ((p.length:Int)-1) (0+c.length) p a b d (List.take 0 []++c)) (Ex.exit 0,(zmE ((p.length:Int)-1) (0+c.length) p a b d (List.take 0 []++c)))) (hL2:zmG (zgd ((p.length:Int)-1) p a b d (0+c.length) (List.take 0 []++c)) (Ex.exit 2,(ziZ ((p.length:Int)-1) p a b d f g))) (h6:f≤g.length):FC Tryz.prog 90 [.agg [.sq p,.lit (.int .i64 a),.lit (.int .i64 b),.lit (.int .i64 d)],.lst (.sl (.int .i64)) c] (.lst (EK.sl (.int .i64)) (g.take f)):=eZ okB1 60 [] (.i h1<|.t h2<|.t h3<|.v [2,5,6] [3,2] hL1<|.v [2,5,6] [3,2] hL2<|.c h6<|.e) [1,2,3,0,0,4,0,5,6]
abbrev rrd_L4 (s:St) (r:Ex × St):Prop:=Loops 5 Tryz.prog (lZ Tryz.prog 90 1) s r
abbrev zoM (a:Int) (b:List Int) (c d e:Int) (f:Nat) (g:List (List Int)):St:=⟨sp 66 [(2,.ref 0 0),(5,aI a),(6,.own 4 0 f 1)],[.flat [.sq b,aI c,aI d,aI e] true,.flat [.sq b,aI c,aI d,aI e] true,.dead,.dead,.lst (EK.sl (.int .i64)) g true],[3,2,4]⟩
abbrev zmH (a:Int) (b:List Int) (c d e:Int) (f:Nat) (g:List (List Int)):St:=⟨sp 66 [(2,.ref 0 0),(5,aI a),(6,.own 4 0 f 1)],[.flat [.sq b,aI c,aI d,aI e] true,.flat [.sq b,aI c,aI d,aI e] true,.dead,.dead,.lst (EK.sl (.int .i64)) g true],[3,2,4]⟩
theorem zrb (a:Int) (b:List Int) (c d g:Int) (i:Nat) (j:List (List Int)) (h1:¬((i:Int) > a)):rrd_L4 (zoM a b c d g i j) (Ex.exit 2,(zmH a b c d g i j)):=Loops.fin (LS.at okB1 60 [] [2,5,6] [3,2,4] [0] (.f h1<|.e) [1]) (fun h=>nomatch h)
theorem rrd_1 (p:List Int) (a b d:Int) (c:List (List Int)) (f:Nat) (g:List (List Int)) (j:Nat) (l:List (List Int)) (h1:r64 ((p.length:Int)-1)) (h2:(0+c.length)*24≤140737488355328) (h3:0+c.length≤4611686018427387904) (hL1:zf8 (zhx ((p.length:Int)-1) (0+c.length) p a b d (List.take 0 []++c)) (Ex.exit 0,(ziY ((p.length:Int)-1) (0+c.length) p a b d (List.take 0 []++c) f g))) (hL2:rrd_L4 (zoM ((p.length:Int)-1) p a b d f g) (Ex.exit 2,(zmH ((p.length:Int)-1) p a b d j l))) (h6:j≤l.length):FC Tryz.prog 90 [.agg [.sq p,.lit (.int .i64 a),.lit (.int .i64 b),.lit (.int .i64 d)],.lst (.sl (.int .i64)) c] (.lst (EK.sl (.int .i64)) (l.take j)):=eZ okB1 60 [] (.i h1<|.t h2<|.t h3<|.v [2,5,6] [3,2] hL1<|.v [2,5,6] [3,2,4] hL2<|.c h6<|.e) [1,2,3,0,0,4,0,5,6]
end
open Go.Kf
theorem vl_one (x:Int):vl (List.take 1 [x])=x:=Int.add_zero x
theorem zoC {N:Nat} {lr:List (List Int)} (h:∀l∈lr,pQ N l) (i:Nat):pQ N (lr.getD i []):=by
 rw [List.getD_eq_getElem?_getD]
 by_cases hi:i<lr.length
 ·rw [List.getElem?_eq_getElem hi];exact h _ (List.getElem_mem hi)
 ·rw [List.getElem?_eq_none (by omega)];exact ⟨by simp,fun d hd=>by cases hd⟩
theorem gSetNe {l:List (List Int)} {i j:Nat} {x:List Int} (h:j≠i):(l.set i x).getD j []=l.getD j []:=by
 rw [List.getD_eq_getElem?_getD,List.getElem?_set_ne (Ne.symm h),← List.getD_eq_getElem?_getD]
def inG (p:List Int) (n m:Nat) (top:Int) (out:List (List Int)):Nat→List (List Int)
 | 0=>out
 | k+1=>(inG p n m top out k).set (m-n+k) (aZ (vl ((inG p n m top out k).getD (m-n+k) [])-top*p.getD k 0))
theorem zfc (p:List Int) (n m:Nat) (top:Int) (out:List (List Int)):∀k,(inG p n m top out k).length=out.length
 | 0=>rfl
 | k+1=>by simp [inG,zfc p n m top out k]
theorem znu (p:List Int) (n m:Nat) (top:Int) (out:List (List Int)):∀k j,m-n+k≤j→(inG p n m top out k).getD j []=out.getD j []
 | 0,_,_=>rfl
 | k+1,j,h=>by unfold inG;rw [gSetNe (by omega),znu p n m top out k j (by omega)]
theorem in_sz {N:Nat} {l:List Int} {top x:Int} (hl:pQ N l) (ht:Sz (N+3) top) (hx:x.natAbs≤1000) (hN:N≤90000):pQ (N+5) (aZ (vl l-top*x)):=
 hZ (k:=N+5) (by rw [Int.sub_eq_add_neg];exact Sz.add (hl.sz) (ht.mul (Sz.lit (z:=x) (k:=1) (by omega) (by decide))).neg (by omega) (by omega)) (Nat.le_refl _)
theorem inG_q {p:List Int} {n m N:Nat} {top:Int} {out:List (List Int)} (hp:∀x∈p,x.natAbs≤1000) (ho:∀l∈out,pQ N l) (ht:Sz (N+3) top) (hN:N≤90000):∀k,∀l∈inG p n m top out k,pQ (N+5) l
 | 0,l,h=>(ho l h).mono (by omega)
 | k + 1,l,h=>by
  unfold inG at h
  rcases List.mem_or_eq_of_mem_set h with h | rfl
  ·exact inG_q hp ho ht hN k l h
  ·rw [znu p n m top out k _ (Nat.le_refl _)]
   exact in_sz (zoC ho _) ht (zfb hp k) hN
theorem rd_l1 {p:List Int} {a b d:Int} {n m N:Nat} {q:List Int} {out:List (List Int)} (hn:p.length=n+1) (hp:∀x∈p,x.natAbs≤1000) (hm:n≤m) (hl:m≤out.length) (h5:out.length≤1000) (h5':n≤100) (ho:∀l∈out,pQ N l) (hq:pQ N q) (hN:N≤90000) :
 ∀(k i:Nat),i+k=n→zmF (zga ((p.length:Int)-1) m q p a b d i (inG p n m (vl q) out i)) (Ex.exit 4,zgc ((p.length:Int)-1) m q p a b d n (inG p n m (vl q) out n))
 | 0,i,hi=>by
  obtain rfl:i=n:=by omega
  exact zq8 _ m q p a b d i _ (by omega)
 | k + 1,i,hi=>by
  have ih:=rd_l1 (a:=a) (b:=b) (d:=d) hn hp hm hl h5 h5' ho hq hN k (i+1) (by omega)
  have e1:Int.toNat (i:Int)=i:=rfl
  have e2:Int.toNat ((m:Int)-((p.length:Int)-1)+(i:Int))=m-n+i:=by omega
  have hg:=zfb hp i
  have pl:pQ 1 (List.take 1 [p.getD i 0]):=⟨by simp,fun x hx=>by rw [List.mem_singleton.1 hx];unfold cZ;omega⟩
  have go:=@zq7 ((p.length:Int)-1) m q p a b d i (inG p n m (vl q) out i) (by omega) (by unfold r64;omega) (by unfold r64;omega) (by omega) (by omega) (by omega) (by omega) (by omega)
   (by rw [e2,zfc];omega) (Nat.le_refl 1) (by rw [e1];exact ⟨hq.mono (by omega),pl.mono (by decide)⟩)
   (by rw [e1,e2,vl_one];exact ⟨(by show pQ 390000 ((inG p n m (vl q) out i).getD (m-n+i) []);rw [znu _ _ _ _ _ _ _ (Nat.le_refl _)];exact(zoC ho _).mono (by omega)),hZ (hq.sz.mul (Sz.lit (z:=p.getD i 0) (k:=1) (by omega) (by decide))) (by omega)⟩)
   (by unfold r64;omega) (Ex.exit 4,zgc ((p.length:Int)-1) m q p a b d n (inG p n m (vl q) out n))
  rw [e1,e2,vl_one,bZ] at go
  exact go ih
def oG (p:List Int) (n:Nat):Nat→List (List Int)→List (List Int)
 | 0,out=>out
 | s+1,out=>oG p n s (inG p n (n+s) (vl (out.getD (n+s) [])) out n)
theorem oG_len (p:List Int) (n:Nat):∀s out,(oG p n s out).length=out.length
 | 0,_=>rfl
 | s+1,out=>by unfold oG;rw [oG_len p n s,zfc]
theorem oG_q {p:List Int} {n:Nat} (hp:∀x∈p,x.natAbs≤1000):∀(s N:Nat) (out:List (List Int)),(∀l∈out,pQ N l)→N+5*s≤90000→∀l∈oG p n s out,pQ (N+5*s) l
 | 0,N,out,ho,_=>ho
 | s+1,N,out,ho,hN=>by
  unfold oG
  have:=oG_q (n:=n) hp s (N+5) _ (inG_q (n:=n) (m:=n+s) (k:=n) hp ho (zoC ho (n+s)).sz (by omega)) (by omega)
  intro l hl
  exact(this l hl).mono (by omega)
theorem rd_l2 {p:List Int} {a b d:Int} {n:Nat} (hn:p.length=n+1) (hp:∀x∈p,x.natAbs≤1000) (h5':n≤100):∀(s N:Nat) (out:List (List Int)),out.length≤1000→n+s≤out.length→(∀l∈out,pQ N l)→N+5*s≤90000 →
 zmG (zgd ((p.length:Int)-1) p a b d (n+s) out) (Ex.exit 2,ziZ ((p.length:Int)-1) p a b d n (oG p n s out))
 | 0,N,out,_,_,_,_=>zra _ p a b d n out (by omega)
 | s+1,N,out,h5,hl,ho,hN=>by
  have e1:Int.toNat (((n+(s+1):Nat):Int)-1)=n+s:=by omega
  have hq:=zoC ho (n+s)
  have L1:=rd_l1 (a:=a) (b:=b) (d:=d) (m:=n+s) (q:=out.getD (n+s) []) (out:=out) hn hp (by omega) (by omega) h5 h5' ho hq (by omega) n 0 (by omega)
  have ih:=rd_l2 (a:=a) (b:=b) (d:=d) hn hp h5' s (N+5) (inG p n (n+s) (vl (out.getD (n+s) [])) out n) (by rw [zfc];exact h5) (by rw [zfc];omega) (inG_q hp ho hq.sz (by omega) n) (by omega)
  have go:=@zq9 ((p.length:Int)-1) p a b d (n+(s+1)) out n (inG p n (n+s) (vl (out.getD (n+s) [])) out n) (by omega) (by unfold r64;omega) (by omega) (by omega) (by omega) (by omega) (by rw [e1];exact L1)
  rw [e1] at go
  exact go ih
def rdR (p:List Int) (c:List (List Int)):List (List Int):=(oG p (p.length-1) (c.length-(p.length-1)) (c++List.replicate (p.length-1-c.length) [])).take (p.length-1)
theorem rd_l0 {p:List Int} {a b d:Int} {n:Nat} {c:List (List Int)} (hn:p.length=n+1) (h5:n≤100):∀(k:Nat) (c':List (List Int)),c'.length+k=n →
 zf8 (zf9 ((p.length:Int)-1) (0+c.length) p a b d (List.take 0 []++c) c'.length c') (Ex.exit 0,ziY ((p.length:Int)-1) (0+c.length) p a b d (List.take 0 []++c) n (c'++List.replicate k []))
 | 0,c',h=>by
  rw [← h]
  simp only [Nat.add_zero,List.replicate_zero,List.append_nil]
  exact zq6 _ _ p a b d _ _ c' (by omega)
 | k+1,c',h=>by
  have ih:=rd_l0 (a:=a) (b:=b) (d:=d) (c:=c) hn h5 k (c'++[[]]) (by simp;omega)
  rw [List.length_append,List.append_assoc] at ih
  refine zq5 _ _ p a b d _ _ c' (by omega) (Nat.le_refl 1) (by omega) (by omega) (Nat.le_refl _) ?_
  rw [List.take_of_length_le (Nat.le_refl _)]
  exact ih
theorem znJ (p:List Int) (a b d:Int) (c:List (List Int)) (h2:2≤p.length) (h5:p.length≤5) (hp:∀x∈p,x.natAbs≤1000) (hc:pC c) :
 FC Tryz.prog 90 [.agg [.sq p,.lit (.int .i64 a),.lit (.int .i64 b),.lit (.int .i64 d)],.lst (.sl (.int .i64)) c] (.lst (.sl (.int .i64)) (rdR p c)):=by
 obtain ⟨n,hn⟩:∃n,p.length=n+1:=⟨p.length-1,by omega⟩
 have hl:=hc.1
 have e0:0+c.length=c.length:=by omega
 have e1:List.take 0 []++c=c:=rfl
 unfold rdR
 rw [show p.length-1=n by omega]
 by_cases h:n≤c.length
 ·rw [show n-c.length=0 by omega,List.replicate_zero,List.append_nil]
  have L2:=rd_l2 (a:=a) (b:=b) (d:=d) hn hp (by omega) (c.length-n) 20000 c (by omega) (by omega) hc.2 (by omega)
  rw [show n+(c.length-n)=c.length by omega] at L2
  refine rrd_0 p a b d c n (oG p n (c.length-n) c) (by unfold r64;omega) (by omega) (by omega) ?_ ?_ (by rw [oG_len];exact h)
  ·exact zq4 _ _ p a b d _ (by omega)
  ·rw [e0];exact L2
 ·rw [show c.length-n=0 by omega]
  have L0:=rd_l0 (a:=a) (b:=b) (d:=d) (c:=c) hn (by omega) (n-c.length-1) (c++[[]]) (by simp;omega)
  have e2:c++[[]]++List.replicate (n-c.length-1) []=c++List.replicate (n-c.length) ([]:List Int):=by
   rw [List.append_assoc]
   congr 1
   rw [show n-c.length=(n-c.length-1)+1 by omega,List.replicate_succ]
   simp
  rw [e2] at L0
  refine rrd_1 p a b d c n (c++List.replicate (n-c.length) []) n (c++List.replicate (n-c.length) []) (by unfold r64;omega) (by omega) (by omega) ?_ (zrb _ p a b d n _ (by omega)) (by simp;omega)
  refine zq3 _ _ p a b d _ (by omega) (Nat.le_refl 1) (by omega) (by omega) (by rw [e0];exact Nat.le_refl _) ?_
  rw [e1,e0,List.take_of_length_le (Nat.le_refl _)]
  have e3:(c++[[]]).length=c.length+1:=by simp
  rw [e3,e0,e1] at L0
  exact L0
def pPF (f:fieldK.ty):Prop:=2≤f.1.length∧f.1.length≤5∧∀x∈f.1,x.natAbs≤1000
def ctrB2:Ctr:=(90,cD2 fieldK (.sl (.sl (.int .i64))) (fun f c=>pPF f∧pC c) (fun f c=>.lst (.sl (.int .i64)) (rdR f.1 c))) :: ctrB1
theorem zhX:∀p∈ctrB2,kZ Tryz.prog p.1 p.2:=CAll.cons (zeS fun f c h=>znJ f.1 f.2.1 f.2.2.1 f.2.2.2 c h.1.1 h.1.2.1 h.1.2.2 h.2) zls
theorem zjM:(dZ Tryz.prog ctrB2 bw [] kdV2).OK:=DZ zbQ mixed zhX zbM
noncomputable section
abbrev zcD (s:St) (r:Ex × St):Prop:=Loops 4 Tryz.prog (lZ Tryz.prog 25 0) s r
abbrev zeB (a b:Int) (c:List Int) (d e f:Int) (g:List (List Int)) (i:List Int) (j:List (List Int)) (l:List Int):St:=⟨sp 52 [(3,.ref 0 0),(4,.ref 1 0),(5,.ref 2 0),(6,.ref 3 0),(7,.ni a),(8,.ni b),(9,aN),(10,aI 0)],[.flat [.sq c,aI d,aI e,aI f] true,.flat [.lst (EK.sl (.int .i64)) g,.sq i] true,.flat [.lst (EK.sl (.int .i64)) j,.sq l] true,.flat [aN,aN] true],[]⟩
abbrev zcE (a b:Int) (c:List Int) (d e f:Int) (g:List (List Int)) (i:List Int) (j:List (List Int)) (l:List Int) (m:Nat) (n:Int) (o:List (List Int)):St:=⟨sp 52 [(3,.ref 0 0),(4,.ref 1 0),(5,.ref 2 0),(6,.ref 3 0),(7,.ni a),(8,.ni b),(9,.own 4 0 m 1),(10,aI n)],[.flat [.sq c,aI d,aI e,aI f] true,.flat [.lst (EK.sl (.int .i64)) g,.sq i] true,.flat [.lst (EK.sl (.int .i64)) j,.sq l] true,.flat [aN,aN] true,.lst (EK.sl (.int .i64)) o true],[]⟩
abbrev zl5 (a b:Int) (c:List Int) (d e f:Int) (g:List (List Int)) (i:List Int) (j:List (List Int)) (l:List Int):St:=⟨sp 52 [(3,.ref 0 0),(4,.ref 1 0),(5,.ref 2 0),(6,.ref 3 0),(7,.ni a),(8,.ni b),(9,aN),(10,aI 0)],[.flat [.sq c,aI d,aI e,aI f] true,.flat [.lst (EK.sl (.int .i64)) g,.sq i] true,.flat [.lst (EK.sl (.int .i64)) j,.sq l] true,.flat [aN,aN] true],[]⟩
abbrev zfw (a b:Int) (c:List Int) (d e f:Int) (g:List (List Int)) (i:List Int) (j:List (List Int)) (l:List Int) (m:Nat) (n:Int) (o:List (List Int)):St:=⟨sp 52 [(3,.ref 0 0),(4,.ref 1 0),(5,.ref 2 0),(6,.ref 3 0),(7,.ni a),(8,.ni b),(9,.own 4 0 m 1),(10,aI n)],[.flat [.sq c,aI d,aI e,aI f] true,.flat [.lst (EK.sl (.int .i64)) g,.sq i] true,.flat [.lst (EK.sl (.int .i64)) j,.sq l] true,.flat [aN,aN] true,.lst (EK.sl (.int .i64)) o true],[]⟩
theorem zpI (a b:Int) (d:List Int) (f g i:Int) (j:List (List Int)) (l:List Int) (m:List (List Int)) (n:List Int) (h1:0<(j.length:Int)) (h2:(0:Int)≤ 0) (h3:pMu (j.getD 0 []) (aZ b)) (h4:pMu (m.getD 0 []) (aZ a)) (h5:pAd (aZ (vl (j.getD 0 [])*vl (aZ b))) (aZ (vl (m.getD 0 [])*vl (aZ a)))) (h6:1≤List.length [aZ (vl (aZ (vl (j.getD 0 [])*vl (aZ b)))+vl (aZ (vl (m.getD 0 [])*vl (aZ a))))]) (h7:0<(List.take 1 [aZ (vl (aZ (vl (j.getD 0 [])*vl (aZ b)))+vl (aZ (vl (m.getD 0 [])*vl (aZ a))))]).length) (h8:(List.take 1 [aZ (vl (aZ (vl (j.getD 0 [])*vl (aZ b)))+vl (aZ (vl (m.getD 0 [])*vl (aZ a))))]).length*24≤140737488355328) (h9:(List.take 1 [aZ (vl (aZ (vl (j.getD 0 [])*vl (aZ b)))+vl (aZ (vl (m.getD 0 [])*vl (aZ a))))]).length≤4611686018427387904) {r:Ex × St} (k:zcD (zcE a b d f g i j l m n (1) (1) ([aZ (vl (aZ (vl (j.getD 0 [])*vl (aZ b)))+vl (aZ (vl (m.getD 0 [])*vl (aZ a))))])) r):zcD (zeB a b d f g i j l m n) r:=Loops.go (LS.at zjM 60 [5] [3,4,5,6,7,8,9,10] [] [1] (.t h1<|.c h2<|.c h3<|.c h4<|.c h5<|.c h6<|.t h7<|.t h8<|.t h9<|.e) [1,2,3,2,4,5,6,7,8,9,0]) k
theorem zpJ (a b:Int) (d:List Int) (g i j:Int) (l:List (List Int)) (m:List Int) (n:List (List Int)) (o:List Int) (h1:¬(0<(l.length:Int))) (h2:0<(n.length:Int)) (h3:(0:Int)≤ 0) (h4:pMu (l.getD 0 []) (aZ b)) (h5:pMu (n.getD 0 []) (aZ a)) (h6:pAd (aZ (vl (l.getD 0 [])*vl (aZ b))) (aZ (vl (n.getD 0 [])*vl (aZ a)))) (h7:1≤List.length [aZ (vl (aZ (vl (l.getD 0 [])*vl (aZ b)))+vl (aZ (vl (n.getD 0 [])*vl (aZ a))))]) (h8:0<(List.take 1 [aZ (vl (aZ (vl (l.getD 0 [])*vl (aZ b)))+vl (aZ (vl (n.getD 0 [])*vl (aZ a))))]).length) (h9:(List.take 1 [aZ (vl (aZ (vl (l.getD 0 [])*vl (aZ b)))+vl (aZ (vl (n.getD 0 [])*vl (aZ a))))]).length*24≤140737488355328) (h10:(List.take 1 [aZ (vl (aZ (vl (l.getD 0 [])*vl (aZ b)))+vl (aZ (vl (n.getD 0 [])*vl (aZ a))))]).length≤4611686018427387904) {r:Ex × St} (k:zcD (zcE a b d g i j l m n o (1) (1) ([aZ (vl (aZ (vl (l.getD 0 [])*vl (aZ b)))+vl (aZ (vl (n.getD 0 [])*vl (aZ a))))])) r):zcD (zeB a b d g i j l m n o) r:=Loops.go (LS.at zjM 60 [5] [3,4,5,6,7,8,9,10] [] [0,1] (.f h1<|.t h2<|.c h3<|.c h4<|.c h5<|.c h6<|.c h7<|.t h8<|.t h9<|.t h10<|.e) [1,2,3,4,3,5,6,7,8,9,10,0]) k
theorem zpK (a b:Int) (c:List Int) (d g i:Int) (j:List (List Int)) (l:List Int) (m:List (List Int)) (n:List Int) (h1:¬(0<(j.length:Int))) (h2:¬(0<(m.length:Int))):zcD (zeB a b c d g i j l m n) (Ex.exit 0,(zl5 a b c d g i j l m n)):=Loops.fin (LS.at zjM 60 [] [3,4,5,6,7,8,9,10] [] [0,0] (.f h1<|.f h2<|.e) [1,2]) (fun h=>nomatch h)
theorem zpL (a b:Int) (d:List Int) (f g j:Int) (l:List (List Int)) (m:List Int) (n:List (List Int)) (o:List Int) (p:Nat) (q:Int) (s:List (List Int)) (h1:q<(l.length:Int)) (h2:(0:Int)≤ q) (h3:pMu (l.getD q.toNat []) (aZ b)) (h4:pMu (n.getD q.toNat []) (aZ a)) (h5:pAd (aZ (vl (l.getD q.toNat [])*vl (aZ b))) (aZ (vl (n.getD q.toNat [])*vl (aZ a)))) (h6:1≤List.length [aZ (vl (aZ (vl (l.getD q.toNat [])*vl (aZ b)))+vl (aZ (vl (n.getD q.toNat [])*vl (aZ a))))]) (h7:(p+(List.take 1 [aZ (vl (aZ (vl (l.getD q.toNat [])*vl (aZ b)))+vl (aZ (vl (n.getD q.toNat [])*vl (aZ a))))]).length)*24≤140737488355328) (h8:p+(List.take 1 [aZ (vl (aZ (vl (l.getD q.toNat [])*vl (aZ b)))+vl (aZ (vl (n.getD q.toNat [])*vl (aZ a))))]).length≤4611686018427387904) (h9:p≤s.length) (h10:r64 (q+1)) {r:Ex × St} (k:zcD (zcE a b d f g j l m n o (p+(List.take 1 [aZ (vl (aZ (vl (l.getD q.toNat [])*vl (aZ b)))+vl (aZ (vl (n.getD q.toNat [])*vl (aZ a))))]).length) (q+1) (s.take p++List.take 1 [aZ (vl (aZ (vl (l.getD q.toNat [])*vl (aZ b)))+vl (aZ (vl (n.getD q.toNat [])*vl (aZ a))))])) r):zcD (zcE a b d f g j l m n o p q s) r:=Loops.go (LS.at zjM 60 [6] [3,4,5,6,7,8,9,10] [] [1] (.t h1<|.c h2<|.c h3<|.c h4<|.c h5<|.c h6<|.t h7<|.t h8<|.t h9<|.i h10<|.e) [1,2,3,2,4,5,6,7,8,9,10]) k
theorem zpM (a b:Int) (d:List Int) (g j l:Int) (m:List (List Int)) (n:List Int) (o:List (List Int)) (p:List Int) (q:Nat) (s:Int) (u:List (List Int)) (h1:¬(s<(m.length:Int))) (h2:s<(o.length:Int)) (h3:(0:Int)≤ s) (h4:pMu (m.getD s.toNat []) (aZ b)) (h5:pMu (o.getD s.toNat []) (aZ a)) (h6:pAd (aZ (vl (m.getD s.toNat [])*vl (aZ b))) (aZ (vl (o.getD s.toNat [])*vl (aZ a)))) (h7:1≤List.length [aZ (vl (aZ (vl (m.getD s.toNat [])*vl (aZ b)))+vl (aZ (vl (o.getD s.toNat [])*vl (aZ a))))]) (h8:(q+(List.take 1 [aZ (vl (aZ (vl (m.getD s.toNat [])*vl (aZ b)))+vl (aZ (vl (o.getD s.toNat [])*vl (aZ a))))]).length)*24≤140737488355328) (h9:q+(List.take 1 [aZ (vl (aZ (vl (m.getD s.toNat [])*vl (aZ b)))+vl (aZ (vl (o.getD s.toNat [])*vl (aZ a))))]).length≤4611686018427387904) (h10:q≤u.length) (h11:r64 (s+1)) {r:Ex × St} (k:zcD (zcE a b d g j l m n o p (q+(List.take 1 [aZ (vl (aZ (vl (m.getD s.toNat [])*vl (aZ b)))+vl (aZ (vl (o.getD s.toNat [])*vl (aZ a))))]).length) (s+1) (u.take q++List.take 1 [aZ (vl (aZ (vl (m.getD s.toNat [])*vl (aZ b)))+vl (aZ (vl (o.getD s.toNat [])*vl (aZ a))))])) r):zcD (zcE a b d g j l m n o p q s u) r:=Loops.go (LS.at zjM 60 [6] [3,4,5,6,7,8,9,10] [] [0,1] (.f h1<|.t h2<|.c h3<|.c h4<|.c h5<|.c h6<|.c h7<|.t h8<|.t h9<|.t h10<|.i h11<|.e) [1,2,3,4,3,5,6,7,8,9,10,11]) k
theorem zpN (a b:Int) (c:List Int) (d g i:Int) (j:List (List Int)) (l:List Int) (m:List (List Int)) (n:List Int) (o:Nat) (p:Int) (q:List (List Int)) (h1:¬(p<(j.length:Int))) (h2:¬(p<(m.length:Int))):zcD (zcE a b c d g i j l m n o p q) (Ex.exit 0,(zfw a b c d g i j l m n o p q)):=Loops.fin (LS.at zjM 60 [4] [3,4,5,6,7,8,9,10] [] [0,0] (.f h1<|.f h2<|.e) [1,2]) (fun h=>nomatch h)
theorem nAd_0 (f:fieldK.ty) (x y:zbp) (h1:pQ 20000 x.snd) (h2:pQ 20000 y.snd) (hL1:zcD (zeB (zas x.snd) (zas y.snd) f.fst f.snd.fst f.snd.snd.fst f.snd.snd.snd x.fst x.snd y.fst y.snd) (Ex.exit 0,(zl5 (zas x.snd) (zas y.snd) f.fst f.snd.fst f.snd.snd.fst f.snd.snd.snd x.fst x.snd y.fst y.snd))) (h4:pPF f∧pC []) (h5:pMu (aZ (zas x.snd)) (aZ (zas y.snd))) (h6:pLw (rdR f.fst []) (aZ (vl (aZ (zas x.snd))*vl (aZ (zas y.snd))))):FC Tryz.prog 25 [fieldK.val f,numK.val x,numK.val y] (.agg [.lst (EK.sl (.int .i64)) (zho (rdR f.fst []) (aZ (vl (aZ (zas x.snd))*vl (aZ (zas y.snd))))).fst,.sq (zho (rdR f.fst []) (aZ (vl (aZ (zas x.snd))*vl (aZ (zas y.snd))))).snd]):=eZ zjM 60 [] (.c h1<|.c h2<|.v [3,4,5,6,7,8,9,10] [] hL1<|.c h4<|.c h5<|.c h6<|.e) [1,2,0,3,4,5,6]
theorem nAd_1 (f:fieldK.ty) (x y:zbp) (a:Nat) (b:Int) (d:List (List Int)) (h1:pQ 20000 x.snd) (h2:pQ 20000 y.snd) (hL1:zcD (zeB (zas x.snd) (zas y.snd) f.fst f.snd.fst f.snd.snd.fst f.snd.snd.snd x.fst x.snd y.fst y.snd) (Ex.exit 0,(zfw (zas x.snd) (zas y.snd) f.fst f.snd.fst f.snd.snd.fst f.snd.snd.snd x.fst x.snd y.fst y.snd a b d))) (h4:a≤d.length) (h5:pPF f∧pC (d.take a)) (h6:pMu (aZ (zas x.snd)) (aZ (zas y.snd))) (h7:pLw (rdR f.fst (d.take a)) (aZ (vl (aZ (zas x.snd))*vl (aZ (zas y.snd))))):FC Tryz.prog 25 [fieldK.val f,numK.val x,numK.val y] (.agg [.lst (EK.sl (.int .i64)) (zho (rdR f.fst (d.take a)) (aZ (vl (aZ (zas x.snd))*vl (aZ (zas y.snd))))).fst,.sq (zho (rdR f.fst (d.take a)) (aZ (vl (aZ (zas x.snd))*vl (aZ (zas y.snd))))).snd]):=eZ zjM 60 [] (.c h1<|.c h2<|.v [3,4,5,6,7,8,9,10] [] hL1<|.c h4<|.c h5<|.c h6<|.c h7<|.e) [1,2,0,3,4,5,6,7]
abbrev zfy (s:St) (r:Ex × St):Prop:=Loops 4 Tryz.prog (lZ Tryz.prog 29 0) s r
abbrev zhp (a:List Int) (b c d:Int) (e:List (List Int)) (f:List Int) (g:List (List Int)) (i:List Int):St:=⟨sp 54 [(3,.ref 0 0),(4,.ref 1 0),(5,.ref 2 0),(6,.ref 3 0),(7,aN),(8,aI 0)],[.flat [.sq a,aI b,aI c,aI d] true,.flat [.lst (EK.sl (.int .i64)) e,.sq f] true,.flat [.lst (EK.sl (.int .i64)) g,.sq i] true,.flat [aN,aN] true],[]⟩
abbrev zfz (a:List Int) (b c d:Int) (e:List (List Int)) (f:List Int) (g:List (List Int)) (i:List Int) (j:Nat) (l:Int) (m:List (List Int)):St:=⟨sp 54 [(3,.ref 0 0),(4,.ref 1 0),(5,.ref 2 0),(6,.ref 3 0),(7,.own 4 0 j 1),(8,aI l)],[.flat [.sq a,aI b,aI c,aI d] true,.flat [.lst (EK.sl (.int .i64)) e,.sq f] true,.flat [.lst (EK.sl (.int .i64)) g,.sq i] true,.flat [aN,aN] true,.lst (EK.sl (.int .i64)) m true],[]⟩
abbrev zl6 (a:List Int) (b c d:Int) (e:List (List Int)) (f:List Int) (g:List (List Int)) (i:List Int):St:=⟨sp 54 [(3,.ref 0 0),(4,.ref 1 0),(5,.ref 2 0),(6,.ref 3 0),(7,aN),(8,aI 0)],[.flat [.sq a,aI b,aI c,aI d] true,.flat [.lst (EK.sl (.int .i64)) e,.sq f] true,.flat [.lst (EK.sl (.int .i64)) g,.sq i] true,.flat [aN,aN] true],[]⟩
abbrev ziw (a:List Int) (b c d:Int) (e:List (List Int)) (f:List Int) (g:List (List Int)) (i:List Int) (j:Nat) (l:Int) (m:List (List Int)):St:=⟨sp 54 [(3,.ref 0 0),(4,.ref 1 0),(5,.ref 2 0),(6,.ref 3 0),(7,.own 4 0 j 1),(8,aI l)],[.flat [.sq a,aI b,aI c,aI d] true,.flat [.lst (EK.sl (.int .i64)) e,.sq f] true,.flat [.lst (EK.sl (.int .i64)) g,.sq i] true,.flat [aN,aN] true,.lst (EK.sl (.int .i64)) m true],[]⟩
abbrev zom (s:St) (r:Ex × St):Prop:=Loops 4 Tryz.prog (lZ Tryz.prog 29 1) s r
abbrev zon (a:List Int) (b c d:Int) (e:List (List Int)) (f:List Int) (g:List (List Int)) (i:List Int):St:=⟨sp 54 [(3,.ref 0 0),(4,.ref 1 0),(5,.ref 2 0),(6,.ref 3 0),(7,aN),(8,aI 0),(9,aN),(10,aI 0)],[.flat [.sq a,aI b,aI c,aI d] true,.flat [.lst (EK.sl (.int .i64)) e,.sq f] true,.flat [.lst (EK.sl (.int .i64)) g,.sq i] true,.flat [aN,aN] true],[]⟩
abbrev zoo (a:List Int) (b c d:Int) (e:List (List Int)) (f:List Int) (g:List (List Int)) (i:List Int) (j:Int):St:=⟨sp 54 [(3,.ref 0 0),(4,.ref 1 0),(5,.ref 2 0),(6,.ref 3 0),(7,aN),(8,aI 0),(9,.ni j),(10,aI 1)],[.flat [.sq a,aI b,aI c,aI d] true,.flat [.lst (EK.sl (.int .i64)) e,.sq f] true,.flat [.lst (EK.sl (.int .i64)) g,.sq i] true,.flat [aN,aN] true],[]⟩
abbrev ziu (a:List Int) (b c d:Int) (e:List (List Int)) (f:List Int) (g:List (List Int)) (i:List Int) (j:Int):St:=⟨sp 54 [(3,.ref 0 0),(4,.ref 1 0),(5,.ref 2 0),(6,.ref 3 0),(7,aN),(8,aI 0),(9,.ni j),(10,aI 1)],[.flat [.sq a,aI b,aI c,aI d] true,.flat [.lst (EK.sl (.int .i64)) e,.sq f] true,.flat [.lst (EK.sl (.int .i64)) g,.sq i] true,.flat [aN,aN] true],[]⟩
theorem zpO (a:List Int) (b d f:Int) (g:List (List Int)) (i:List Int) (j:List (List Int)) (l:List Int) (h1:(0:Int)≤ 0) (h2:pMu (g.getD 0 []) (j.getD 0 [])) (h3:pAd [] (aZ (vl (g.getD 0 [])*vl (j.getD 0 [])))) {r:Ex × St} (k:zom (zoo a b d f g i j l (0+vl (aZ (vl (g.getD 0 [])*vl (j.getD 0 []))))) r):zom (zon a b d f g i j l) r:=Loops.go (LS.at zjM 60 [] [3,4,5,6,7,8,9,10] [] [] (.c h1<|.c h2<|.c h3<|.e) [0,1,1,2,3,0]) k
theorem zpP (a:List Int) (b c d:Int) (f:List (List Int)) (g:List Int) (i:List (List Int)) (j:List Int) (l:Int):zom (zoo a b c d f g i j l) (Ex.exit 2,(ziu a b c d f g i j l)):=Loops.fin (LS.at zjM 60 [] [3,4,5,6,7,8,9,10] [] [] (.e) []) (fun h=>nomatch h)
theorem zpT (a:List Int) (b d f:Int) (g:List (List Int)) (j:List Int) (l:List (List Int)) (m:List Int) (n:Int) (h1:r64 ((g.length:Int)+(l.length:Int))) (h2:1<(g.length:Int)+(l.length:Int)) (hL1:zom (zon a b d f g j l m) (Ex.exit 2,(ziu a b d f g j l m n))) (h4:1≤List.length [aZ n]) (h5:0<(List.take 1 [aZ n]).length) (h6:(List.take 1 [aZ n]).length*24≤140737488355328) (h7:(List.take 1 [aZ n]).length≤4611686018427387904) {r:Ex × St} (k:zfy (zfz a b d f g j l m (1) (1) ([aZ n])) r):zfy (zhp a b d f g j l m) r:=Loops.go (LS.at zjM 60 [5] [3,4,5,6,7,8] [] [1] (.i h1<|.t h2<|.v [3,4,5,6,7,8,9,10] [] hL1<|.c h4<|.t h5<|.t h6<|.t h7<|.e) [0,1,2,0,3,4,5,6,7,0]) k
theorem zpU (a:List Int) (b c d:Int) (g:List (List Int)) (j:List Int) (l:List (List Int)) (m:List Int) (h1:r64 ((g.length:Int)+(l.length:Int))) (h2:¬(1<(g.length:Int)+(l.length:Int))):zfy (zhp a b c d g j l m) (Ex.exit 0,(zl6 a b c d g j l m)):=Loops.fin (LS.at zjM 60 [] [3,4,5,6,7,8] [] [0] (.i h1<|.f h2<|.e) [0,1,2]) (fun h=>nomatch h)
abbrev ziv (s:St) (r:Ex × St):Prop:=Loops 5 Tryz.prog (lZ Tryz.prog 29 1) s r
abbrev zop (a:Nat) (b:Int) (c:List Int) (d e f:Int) (g:List (List Int)) (i:List Int) (j:List (List Int)) (l:List Int) (m:List (List Int)):St:=⟨sp 54 [(3,.ref 0 0),(4,.ref 1 0),(5,.ref 2 0),(6,.ref 3 0),(7,.own 4 0 a 1),(8,aI b),(9,aN),(10,aI 0)],[.flat [.sq c,aI d,aI e,aI f] true,.flat [.lst (EK.sl (.int .i64)) g,.sq i] true,.flat [.lst (EK.sl (.int .i64)) j,.sq l] true,.flat [aN,aN] true,.lst (EK.sl (.int .i64)) m true],[]⟩
abbrev zfx (a:Nat) (b:Int) (c:List Int) (d e f:Int) (g:List (List Int)) (i:List Int) (j:List (List Int)) (l:List Int) (m:List (List Int)) (n o:Int):St:=⟨sp 54 [(3,.ref 0 0),(4,.ref 1 0),(5,.ref 2 0),(6,.ref 3 0),(7,.own 4 0 a 1),(8,aI b),(9,.ni n),(10,aI o)],[.flat [.sq c,aI d,aI e,aI f] true,.flat [.lst (EK.sl (.int .i64)) g,.sq i] true,.flat [.lst (EK.sl (.int .i64)) j,.sq l] true,.flat [aN,aN] true,.lst (EK.sl (.int .i64)) m true],[]⟩
abbrev zd9 (a:Nat) (b:Int) (c:List Int) (d e f:Int) (g:List (List Int)) (i:List Int) (j:List (List Int)) (l:List Int) (m:List (List Int)) (n o:Int):St:=⟨sp 54 [(3,.ref 0 0),(4,.ref 1 0),(5,.ref 2 0),(6,.ref 3 0),(7,.own 4 0 a 1),(8,aI b),(9,.ni n),(10,aI o)],[.flat [.sq c,aI d,aI e,aI f] true,.flat [.lst (EK.sl (.int .i64)) g,.sq i] true,.flat [.lst (EK.sl (.int .i64)) j,.sq l] true,.flat [aN,aN] true,.lst (EK.sl (.int .i64)) m true],[]⟩
theorem zpQ (a:Nat) (b:Int) (d:List Int) (f g j:Int) (l:List (List Int)) (m:List Int) (n:List (List Int)) (o:List Int) (p:List (List Int)) (h1:0≤b) (h2:r64 (b-0)) (h3:(0:Int)≤ 0) (h4:(0:Int)≤ b-0) (h5:pMu (l.getD 0 []) (n.getD (b-0).toNat [])) (h6:pAd [] (aZ (vl (l.getD 0 [])*vl (n.getD (b-0).toNat [])))) {r:Ex × St} (k:ziv (zfx a b d f g j l m n o p (0+vl (aZ (vl (l.getD 0 [])*vl (n.getD (b-0).toNat [])))) (1)) r):ziv (zop a b d f g j l m n o p) r:=Loops.go (LS.at zjM 60 [] [3,4,5,6,7,8,9,10] [] [1] (.t h1<|.i h2<|.c h3<|.c h4<|.c h5<|.c h6<|.e) [1,2,3,4,5,6,0]) k
theorem zpR (a:Nat) (b:Int) (d:List Int) (f g j:Int) (l:List (List Int)) (m:List Int) (n:List (List Int)) (o:List Int) (p:List (List Int)) (q s:Int) (h1:s≤b) (h2:r64 (b-s)) (h3:(0:Int)≤ s) (h4:(0:Int)≤ b-s) (h5:pMu (l.getD s.toNat []) (n.getD (b-s).toNat [])) (h6:pAd (aZ q) (aZ (vl (l.getD s.toNat [])*vl (n.getD (b-s).toNat [])))) (h7:r64 (s+1)) {r:Ex × St} (k:ziv (zfx a b d f g j l m n o p (vl (aZ q)+vl (aZ (vl (l.getD s.toNat [])*vl (n.getD (b-s).toNat [])))) (s+1)) r):ziv (zfx a b d f g j l m n o p q s) r:=Loops.go (LS.at zjM 60 [] [3,4,5,6,7,8,9,10] [] [1] (.t h1<|.i h2<|.c h3<|.c h4<|.c h5<|.c h6<|.i h7<|.e) [1,2,3,4,5,6,7]) k
theorem zpS (a:Nat) (b:Int) (c:List Int) (d g i:Int) (j:List (List Int)) (l:List Int) (m:List (List Int)) (n:List Int) (o:List (List Int)) (p q:Int) (h1:¬(q≤b)):ziv (zfx a b c d g i j l m n o p q) (Ex.exit 2,(zd9 a b c d g i j l m n o p q)):=Loops.fin (LS.at zjM 60 [] [3,4,5,6,7,8,9,10] [] [0] (.f h1<|.e) [1]) (fun h=>nomatch h)
theorem zpV (a:List Int) (b d f:Int) (g:List (List Int)) (j:List Int) (l:List (List Int)) (m:List Int) (n:Nat) (o:Int) (p:List (List Int)) (q s:Int) (h1:r64 (o+1)) (h2:r64 ((g.length:Int)+(l.length:Int))) (h3:o+1<(g.length:Int)+(l.length:Int)) (hL1:ziv (zop n o a b d f g j l m p) (Ex.exit 2,(zd9 n o a b d f g j l m p q s))) (h5:1≤List.length [aZ q]) (h6:(n+(List.take 1 [aZ q]).length)*24≤140737488355328) (h7:n+(List.take 1 [aZ q]).length≤4611686018427387904) (h8:n≤p.length) {r:Ex × St} (k:zfy (zfz a b d f g j l m (n+(List.take 1 [aZ q]).length) (o+1) (p.take n++List.take 1 [aZ q])) r):zfy (zfz a b d f g j l m n o p) r:=Loops.go (LS.at zjM 60 [6] [3,4,5,6,7,8] [] [1] (.i h1<|.i h2<|.t h3<|.v [3,4,5,6,7,8,9,10] [] hL1<|.c h5<|.t h6<|.t h7<|.t h8<|.e) [1,2,3,0,4,5,6,7,8,1]) k
theorem zpW (a:List Int) (b c d:Int) (g:List (List Int)) (j:List Int) (l:List (List Int)) (m:List Int) (n:Nat) (o:Int) (p:List (List Int)) (h1:r64 (o+1)) (h2:r64 ((g.length:Int)+(l.length:Int))) (h3:¬(o+1<(g.length:Int)+(l.length:Int))):zfy (zfz a b c d g j l m n o p) (Ex.exit 0,(ziw a b c d g j l m n o p)):=Loops.fin (LS.at zjM 60 [4] [3,4,5,6,7,8] [] [0] (.i h1<|.i h2<|.f h3<|.e) [1,2,3]) (fun h=>nomatch h)
theorem nMl_0 (f:fieldK.ty) (x y:zbp) (hL1:zfy (zhp f.fst f.snd.fst f.snd.snd.fst f.snd.snd.snd x.fst x.snd y.fst y.snd) (Ex.exit 0,(zl6 f.fst f.snd.fst f.snd.snd.fst f.snd.snd.snd x.fst x.snd y.fst y.snd))) (h2:pPF f∧pC []) (h3:pQ 20000 x.snd) (h4:pQ 20000 y.snd) (h5:pMu (aZ (zas x.snd)) (aZ (zas y.snd))) (h6:pLw (rdR f.fst []) (aZ (vl (aZ (zas x.snd))*vl (aZ (zas y.snd))))):FC Tryz.prog 29 [fieldK.val f,numK.val x,numK.val y] (.agg [.lst (EK.sl (.int .i64)) (zho (rdR f.fst []) (aZ (vl (aZ (zas x.snd))*vl (aZ (zas y.snd))))).fst,.sq (zho (rdR f.fst []) (aZ (vl (aZ (zas x.snd))*vl (aZ (zas y.snd))))).snd]):=eZ zjM 60 [] (.v [3,4,5,6,7,8] [] hL1<|.c h2<|.c h3<|.c h4<|.c h5<|.c h6<|.e) [0,1,2,3,4,5,6]
theorem nMl_1 (f:fieldK.ty) (x y:zbp) (a:Nat) (b:Int) (d:List (List Int)) (hL1:zfy (zhp f.fst f.snd.fst f.snd.snd.fst f.snd.snd.snd x.fst x.snd y.fst y.snd) (Ex.exit 0,(ziw f.fst f.snd.fst f.snd.snd.fst f.snd.snd.snd x.fst x.snd y.fst y.snd a b d))) (h2:a≤d.length) (h3:pPF f∧pC (d.take a)) (h4:pQ 20000 x.snd) (h5:pQ 20000 y.snd) (h6:pMu (aZ (zas x.snd)) (aZ (zas y.snd))) (h7:pLw (rdR f.fst (d.take a)) (aZ (vl (aZ (zas x.snd))*vl (aZ (zas y.snd))))):FC Tryz.prog 29 [fieldK.val f,numK.val x,numK.val y] (.agg [.lst (EK.sl (.int .i64)) (zho (rdR f.fst (d.take a)) (aZ (vl (aZ (zas x.snd))*vl (aZ (zas y.snd))))).fst,.sq (zho (rdR f.fst (d.take a)) (aZ (vl (aZ (zas x.snd))*vl (aZ (zas y.snd))))).snd]):=eZ zjM 60 [] (.v [3,4,5,6,7,8] [] hL1<|.c h2<|.c h3<|.c h4<|.c h5<|.c h6<|.c h7<|.e) [0,1,2,3,4,5,6,7]
theorem nWh_0 (n:Int) (h1:1≤List.length [n]) (h2:1≤List.length [List.take 1 [n]]) (h3:1≤1) (h4:pLw (List.take 1 [List.take 1 [n]]) (List.take 1 [1])):FC Tryz.prog 62 [.lit (.int .i64 n)] (.agg [.lst (EK.sl (.int .i64)) (zho (List.take 1 [List.take 1 [n]]) (List.take 1 [1])).fst,.sq (zho (List.take 1 [List.take 1 [n]]) (List.take 1 [1])).snd]):=eZ zjM 60 [] (.c h1<|.c h2<|.c h3<|.c h4<|.e) [1,2,3,4]
end
open Go.Kf
def pB (x:zbp):Prop:=x.1.length≤40∧(∀l∈x.1,pQ 3000 l)∧pQ 3000 x.2
theorem zdS (d:List Int):zas d≠0:=by unfold zas;split<;>omega
theorem zjw {N:Nat} {d:List Int} (h:pQ N d) (hN:1≤N):Sz (N+3) (zas d):=by
 unfold zas
 split
 ·exact Sz.lit (by decide) (by omega)
 ·exact h.sz
theorem rdR_len {p:List Int} {c:List (List Int)}:(rdR p c).length=p.length-1:=by
 unfold rdR;rw [List.length_take,oG_len];simp;omega
theorem rdR_pC {p:List Int} {c:List (List Int)} (h2:2≤p.length) (h5:p.length≤5) (hp:∀x∈p,x.natAbs≤1000) (hl:c.length≤100) (hc:∀l∈c,pQ 8000 l):pC (rdR p c):=by
 refine ⟨by rw [rdR_len];omega,fun l h=>?_⟩
 have:=oG_q (n:=p.length-1) hp (c.length-(p.length-1)) 8000 (c++List.replicate (p.length-1-c.length) []) (fun l h=>by
  rcases List.mem_append.1 h with h | h
  ·exact hc l h
  ·rw [List.eq_of_mem_replicate h];exact ⟨by simp,fun d hd=>by cases hd⟩) (by omega) l (List.mem_of_mem_take h)
 exact this.mono (by omega)
theorem pLw_of {p:List Int} {c:List (List Int)} {z:Int} (h2:2≤p.length) (h5:p.length≤5) (hp:∀x∈p,x.natAbs≤1000) (hl:c.length≤100) (hc:∀l∈c,pQ 8000 l) (hz:z≠0) (hs:Sz 8000 z):pLw (rdR p c) (aZ z):=
 ⟨rdR_pC h2 h5 hp hl hc,hZ hs (by decide),by rw [bZ];exact hz⟩
def adF (x y:zbp) (i:Nat):List Int:=aZ (vl (x.1.getD i [])*zas y.2+vl (y.1.getD i [])*zas x.2)
def adR (x y:zbp) (n:Nat):List (List Int):=(List.range n).map (adF x y)
theorem zoK {F:Nat→List Int} (i:Nat):(List.range (i+1)).map F=((List.range i).map F).take i++List.take 1 [F i]:=by
 rw [List.take_of_length_le (by simp),List.range_succ,List.map_append];rfl
theorem ad_sz {x y:zbp} (hx:pB x) (hy:pB y) (i:Nat):Sz 6007 (vl (x.1.getD i [])*zas y.2+vl (y.1.getD i [])*zas x.2):=
 Sz.add ((zoC hx.2.1 i).sz.mul (zjw hy.2.2 (by decide))) ((zoC hy.2.1 i).sz.mul (zjw hx.2.2 (by decide))) (by decide) (by decide)
theorem ad_c {x y:zbp} (hx:pB x) (hy:pB y) (i:Nat):pMu (x.1.getD i []) (aZ (zas y.2))∧pMu (y.1.getD i []) (aZ (zas x.2))∧pAd (aZ (vl (x.1.getD i [])*vl (aZ (zas y.2)))) (aZ (vl (y.1.getD i [])*vl (aZ (zas x.2)))):=by
 have sx:=zjw hx.2.2 (by decide)
 have sy:=zjw hy.2.2 (by decide)
 have qx:=zoC hx.2.1 i
 have qy:=zoC hy.2.1 i
 refine ⟨⟨qx.mono (by decide),hZ sy (by decide)⟩,⟨qy.mono (by decide),hZ sx (by decide)⟩,?_,?_⟩
 ·rw [bZ];exact hZ (qx.sz.mul sy) (by decide)
 ·rw [bZ];exact hZ (qy.sz.mul sx) (by decide)
theorem ad_l0 {x y:zbp} {p:List Int} {a b d:Int} (hx:pB x) (hy:pB y) {n:Nat} (hn:n=max x.1.length y.1.length):∀(k i:Nat),i+k=n →
 zcD (zcE (zas x.2) (zas y.2) p a b d x.1 x.2 y.1 y.2 i i (adR x y i)) (Ex.exit 0,zfw (zas x.2) (zas y.2) p a b d x.1 x.2 y.1 y.2 n n (adR x y n))
 | 0,i,hi=>by
  obtain rfl:i=n:=by omega
  exact zpN _ _ p a b d _ _ _ _ i i _ (by omega) (by omega)
 | k + 1,i,hi=>by
  have ih:=ad_l0 (p:=p) (a:=a) (b:=b) (d:=d) hx hy hn k (i+1) (by omega)
  have hx1:=hx.1
  have hy1:=hy.1
  have e1:Int.toNat (i:Int)=i:=rfl
  obtain ⟨c1,c2,c3⟩:=ad_c hx hy i
  have key:adR x y (i+1)=(adR x y i).take i++List.take 1 [aZ (vl (aZ (vl (x.1.getD i [])*vl (aZ (zas y.2))))+vl (aZ (vl (y.1.getD i [])*vl (aZ (zas x.2)))))]:=by
   rw [bZ,bZ,bZ,bZ];exact zoK i
  rw [key] at ih
  have hl:(adR x y i).length=i:=by simp [adR]
  by_cases h:i<x.1.length
  ·exact zpL _ _ p a b d _ _ _ _ i i (adR x y i) (by omega) (by omega) (by rw [e1];exact c1) (by rw [e1];exact c2) (by rw [e1];exact c3) (Nat.le_refl 1) (show(i+1)*24≤_ by omega) (show i+1≤_ by omega) (by rw [hl];exact Nat.le_refl _) (by unfold r64;omega) (by rw [e1];exact ih)
  ·exact zpM _ _ p a b d _ _ _ _ i i (adR x y i) (by omega) (by omega) (by omega) (by rw [e1];exact c1) (by rw [e1];exact c2) (by rw [e1];exact c3) (Nat.le_refl 1) (show(i+1)*24≤_ by omega) (show i+1≤_ by omega) (by rw [hl];exact Nat.le_refl _) (by unfold r64;omega) (by rw [e1];exact ih)
def adO (p:List Int) (x y:zbp):zbp:=zho (rdR p (adR x y (max x.1.length y.1.length))) (aZ (zas x.2*zas y.2))
theorem bb_ok {x y:zbp} (hx:pB x) (hy:pB y):pMu (aZ (zas x.2)) (aZ (zas y.2))∧zas x.2*zas y.2≠0∧Sz 8000 (zas x.2*zas y.2):=by
 have sx:=zjw hx.2.2 (by decide)
 have sy:=zjw hy.2.2 (by decide)
 exact ⟨⟨hZ sx (by decide),hZ sy (by decide)⟩,Int.mul_ne_zero (zdS _) (zdS _),(sx.mul sy).mono (by decide)⟩
theorem adR_q {x y:zbp} (hx:pB x) (hy:pB y) (n:Nat):∀l∈adR x y n,pQ 8000 l:=fun l h=>by
 obtain ⟨i,_,rfl⟩:=List.mem_map.1 h
 exact hZ (ad_sz hx hy i) (by decide)
theorem add_fc2 (f:fieldK.ty) (x y:zbp) (hf:pPF f) (hx:pB x) (hy:pB y):FC Tryz.prog 25 [fieldK.val f,numK.val x,numK.val y] (numK.val (adO f.1 x y)):=by
 have hx1:=hx.1
 have hy1:=hy.1
 obtain ⟨b1,b2,b3⟩:=bb_ok hx hy
 generalize hn:max x.1.length y.1.length=n
 have hlen:(adR x y n).length=n:=by simp [adR]
 have hpl:=pLw_of (c:=adR x y n) hf.1 hf.2.1 hf.2.2 (by omega) (adR_q hx hy n) b2 b3
 have hpc:pPF f∧pC (adR x y n):=⟨hf,by omega,fun l h=>(adR_q hx hy n l h).mono (by decide)⟩
 unfold adO
 rw [hn]
 by_cases h0:n=0
 ·subst h0
  have:=nAd_0 f x y (hx.2.2.mono (by decide)) (hy.2.2.mono (by decide)) (zpK _ _ _ _ _ _ _ _ _ _ (by omega) (by omega)) hpc b1 (by rw [bZ,bZ];exact hpl)
  rw [bZ,bZ] at this
  exact this
 ·have L1:=ad_l0 (p:=f.1) (a:=f.2.1) (b:=f.2.2.1) (d:=f.2.2.2) hx hy hn.symm (n-1) 1 (by omega)
  obtain ⟨c1,c2,c3⟩:=ad_c hx hy 0
  have key:adR x y 1=[aZ (vl (aZ (vl (x.1.getD 0 [])*vl (aZ (zas y.2))))+vl (aZ (vl (y.1.getD 0 [])*vl (aZ (zas x.2)))))]:=by
   rw [bZ,bZ,bZ,bZ];rfl
  rw [key] at L1
  have L0:zcD (zeB (zas x.2) (zas y.2) f.1 f.2.1 f.2.2.1 f.2.2.2 x.1 x.2 y.1 y.2) (Ex.exit 0,zfw (zas x.2) (zas y.2) f.1 f.2.1 f.2.2.1 f.2.2.2 x.1 x.2 y.1 y.2 n n (adR x y n)):=by
   by_cases h:0<x.1.length
   ·exact zpI _ _ _ _ _ _ _ _ _ _ (by omega) (by decide) c1 c2 c3 (Nat.le_refl 1) (by decide:(0:Nat)<1) (by decide:(1:Nat)*24≤_) (by decide:(1:Nat)≤_) L1
   ·exact zpJ _ _ _ _ _ _ _ _ _ _ (by omega) (by omega) (by decide) c1 c2 c3 (Nat.le_refl 1) (by decide:(0:Nat)<1) (by decide:(1:Nat)*24≤_) (by decide:(1:Nat)≤_) L1
  have tk:(adR x y n).take n=adR x y n:=List.take_of_length_le (by omega)
  have:=nAd_1 f x y n n (adR x y n) (hx.2.2.mono (by decide)) (hy.2.2.mono (by decide)) L0 (by omega) (by rw [tk];exact hpc) b1 (by rw [bZ,bZ,tk];exact hpl)
  rw [bZ,bZ,tk] at this
  exact this
def cvS (x y:List (List Int)) (i:Nat):Nat→Int
 | 0=>0
 | k+1=>cvS x y i k+vl (x.getD k [])*vl (y.getD (i-k) [])
def mlR (x y:List (List Int)) (n:Nat):List (List Int):=(List.range n).map fun i=>aZ (cvS x y i (i+1))
theorem cvS_sz {x y:List (List Int)} (hx:∀l∈x,pQ 3000 l) (hy:∀l∈y,pQ 3000 l) (i:Nat):∀k,Sz (6007+k) (cvS x y i k)
 | 0=>Sz.zero
 | k+1=>Sz.add (cvS_sz hx hy i k) ((zoC hx k).sz.mul (zoC hy (i-k)).sz) (by omega) (by omega)
theorem ml_c {x y:List (List Int)} (hx:∀l∈x,pQ 3000 l) (hy:∀l∈y,pQ 3000 l) (i k:Nat) (hk:k≤100):pMu (x.getD k []) (y.getD (i-k) [])∧pAd (aZ (cvS x y i k)) (aZ (vl (x.getD k [])*vl (y.getD (i-k) []))):=
 ⟨⟨(zoC hx k).mono (by decide),(zoC hy _).mono (by decide)⟩,hZ (cvS_sz hx hy i k) (by omega),hZ ((zoC hx k).sz.mul (zoC hy (i-k)).sz) (by decide)⟩
theorem ml_l2 {x y:zbp} {p:List Int} {a b d:Int} {m i:Nat} {lr:List (List Int)} (hx:pB x) (hy:pB y) (hi:i≤90):∀(n k:Nat),k+n=i+1 →
 ziv (zfx m i p a b d x.1 x.2 y.1 y.2 lr (cvS x.1 y.1 i k) k) (Ex.exit 2,zd9 m i p a b d x.1 x.2 y.1 y.2 lr (cvS x.1 y.1 i (i+1)) ((i+1:Nat):Int))
 | 0,k,h=>by
  obtain rfl:k=i+1:=by omega
  exact zpS m i p a b d _ _ _ _ lr _ _ (by omega)
 | n+1,k,h=>by
  have ih:=ml_l2 (p:=p) (a:=a) (b:=b) (d:=d) (m:=m) (lr:=lr) hx hy hi n (k+1) (by omega)
  have e1:Int.toNat (k:Int)=k:=rfl
  have e2:Int.toNat ((i:Int)-(k:Int))=i-k:=by omega
  obtain ⟨c1,c2⟩:=ml_c hx.2.1 hy.2.1 i k (by omega)
  have go:=@zpR m i p a b d x.1 x.2 y.1 y.2 lr (cvS x.1 y.1 i k) k (by omega) (by unfold r64;omega) (by omega) (by omega) (by rw [e1,e2];exact c1) (by rw [e1,e2];exact c2) (by unfold r64;omega) (Ex.exit 2,zd9 m i p a b d x.1 x.2 y.1 y.2 lr (cvS x.1 y.1 i (i+1)) ((i+1:Nat):Int))
  rw [e1,e2,bZ,bZ] at go
  exact go ih
theorem ml_l3 {x y:zbp} {p:List Int} {a b d:Int} (hx:pB x) (hy:pB y) {n:Nat} (hn:n+1=x.1.length+y.1.length):∀(k i:Nat),i+k=n →
 zfy (zfz p a b d x.1 x.2 y.1 y.2 i i (mlR x.1 y.1 i)) (Ex.exit 0,ziw p a b d x.1 x.2 y.1 y.2 n n (mlR x.1 y.1 n))
 | 0,i,h=>by
  obtain rfl:i=n:=by omega
  have hx1:=hx.1
  have hy1:=hy.1
  exact zpW p a b d _ _ _ _ i i _ (by unfold r64;omega) (by unfold r64;omega) (by omega)
 | k+1,i,h=>by
  have hx1:=hx.1
  have hy1:=hy.1
  have ih:=ml_l3 (p:=p) (a:=a) (b:=b) (d:=d) hx hy hn k (i+1) (by omega)
  have e2:Int.toNat ((i:Int)-0)=i-0:=by omega
  obtain ⟨c1,c2⟩:=ml_c hx.2.1 hy.2.1 i 0 (by omega)
  have L2:=ml_l2 (p:=p) (a:=a) (b:=b) (d:=d) (m:=i) (i:=i) (lr:=mlR x.1 y.1 i) hx hy (by omega) i 1 (by omega)
  have go:=@zpQ i i p a b d x.1 x.2 y.1 y.2 (mlR x.1 y.1 i) (by omega) (by unfold r64;omega) (by decide) (by omega) (by rw [e2];exact c1) (by rw [e2];exact c2) (Ex.exit 2,zd9 i i p a b d x.1 x.2 y.1 y.2 (mlR x.1 y.1 i) (cvS x.1 y.1 i (i+1)) ((i+1:Nat):Int))
  rw [e2,bZ] at go
  have L0:=go L2
  have hl:(mlR x.1 y.1 i).length=i:=by simp [mlR]
  rw [show mlR x.1 y.1 (i+1)=(mlR x.1 y.1 i).take i++List.take 1 [aZ (cvS x.1 y.1 i (i+1))] from zoK i] at ih
  exact zpV p a b d _ _ _ _ i i _ (cvS x.1 y.1 i (i+1)) _ (by unfold r64;omega) (by unfold r64;omega) (by omega) L0 (Nat.le_refl 1) (show(i+1)*24≤_ by omega) (show i+1≤_ by omega) (by omega) ih
def muO (p:List Int) (x y:zbp):zbp:=zho (rdR p (mlR x.1 y.1 (x.1.length+y.1.length-1))) (aZ (zas x.2*zas y.2))
theorem mlR_q {x y:zbp} (hx:pB x) (hy:pB y) {n:Nat} (hn:n≤80):∀l∈mlR x.1 y.1 n,pQ 8000 l:=fun l h=>by
 obtain ⟨i,hi,rfl⟩:=List.mem_map.1 h
 have:=List.mem_range.1 hi
 exact hZ (cvS_sz hx.2.1 hy.2.1 i (i+1)) (by omega)
theorem mul_fc2 (f:fieldK.ty) (x y:zbp) (hf:pPF f) (hx:pB x) (hy:pB y):FC Tryz.prog 29 [fieldK.val f,numK.val x,numK.val y] (numK.val (muO f.1 x y)):=by
 have hx1:=hx.1
 have hy1:=hy.1
 obtain ⟨b1,b2,b3⟩:=bb_ok hx hy
 unfold muO
 generalize hn:x.1.length+y.1.length-1=n
 have hlen:(mlR x.1 y.1 n).length=n:=by simp [mlR]
 have hpl:=pLw_of (c:=mlR x.1 y.1 n) hf.1 hf.2.1 hf.2.2 (by omega) (mlR_q hx hy (by omega)) b2 b3
 have hpc:pPF f∧pC (mlR x.1 y.1 n):=⟨hf,by omega,fun l h=>(mlR_q hx hy (by omega) l h).mono (by decide)⟩
 by_cases h0:n=0
 ·subst h0
  have:=nMl_0 f x y (zpU _ _ _ _ _ _ _ _ (by unfold r64;omega) (by omega)) hpc (hx.2.2.mono (by decide)) (hy.2.2.mono (by decide)) b1 (by rw [bZ,bZ];exact hpl)
  rw [bZ,bZ] at this
  exact this
 ·have L1:=ml_l3 (p:=f.1) (a:=f.2.1) (b:=f.2.2.1) (d:=f.2.2.2) hx hy (n:=n) (by omega) (n-1) 1 (by omega)
  obtain ⟨c1,c2⟩:=ml_c hx.2.1 hy.2.1 0 0 (by decide)
  have go:=@zpO f.1 f.2.1 f.2.2.1 f.2.2.2 x.1 x.2 y.1 y.2 (by decide) c1 c2 (Ex.exit 2,ziu f.1 f.2.1 f.2.2.1 f.2.2.2 x.1 x.2 y.1 y.2 (cvS x.1 y.1 0 1))
  rw [bZ] at go
  have L0:=zpT f.1 f.2.1 f.2.2.1 f.2.2.2 x.1 x.2 y.1 y.2 (cvS x.1 y.1 0 1) (by unfold r64;omega) (by omega) (go (zpP _ _ _ _ _ _ _ _ _)) (Nat.le_refl 1) (by decide:(0:Nat)<1) (by decide:(1:Nat)*24≤_) (by decide:(1:Nat)≤_) L1
  have tk:(mlR x.1 y.1 n).take n=mlR x.1 y.1 n:=List.take_of_length_le (by omega)
  have:=nMl_1 f x y n n (mlR x.1 y.1 n) L0 (by omega) (by rw [tk];exact hpc) (hx.2.2.mono (by decide)) (hy.2.2.mono (by decide)) b1 (by rw [bZ,bZ,tk];exact hpl)
  rw [bZ,bZ,tk] at this
  exact this
end Go.Proofs.YtloaeinogiplbaaGreatDoor
end
section
open Go Go.Ev Go.RowKit
namespace Go.Proofs.YtloaeinogiplbaaGreatDoor
open Go.Proofs
set_option maxRecDepth 100000
set_option maxHeartbeats 1000000
set_option linter.unusedVariables false
set_option linter.unusedSimpArgs false
noncomputable section
end
open Go.Kf
theorem gcF_gL:∀(c:List (List Int)) (g:Nat),gcF (g:Int) c=(gL g (vlL c):Int)
 | [],_=>rfl
 | l :: c,g=>by
  show gcF ((Int.gcd (g:Int) (vl l):Nat):Int) c=_
  rw [gcF_gL c];rfl
theorem dvs_sign {c:List (List Int)} {d:Int} (h:d≠0):d.sign*gcF (d.natAbs:Int) c=dvs (vlL c) d:=by
 rw [gcF_gL]
 unfold dvs
 by_cases hd:d<0
 ·rw [if_pos hd,Int.sign_eq_neg_one_of_neg hd];omega
 ·rw [if_neg hd,Int.sign_eq_one_of_pos (by omega),Int.one_mul]
theorem lsF_ok {c:List (List Int)}:∀(suf pre:List (List Int)) (n:Nat),c=pre++suf→(∀i,n≤i→i<pre.length→vl (c.getD i [])=0)→(n=0∨vl (c.getD (n-1) [])≠0)→n≤pre.length →
 (∀i,lsF n pre.length suf≤i→vl (c.getD i [])=0)∧(lsF n pre.length suf=0∨vl (c.getD (lsF n pre.length suf-1) [])≠0)∧lsF n pre.length suf≤c.length
 | [],pre,n,he,h1,h2,h3=>by
  have hl:c.length=pre.length:=by rw [he];simp
  refine ⟨fun i hi=>?_,h2,by rw [hl];exact h3⟩
  by_cases hc:i<pre.length
  ·exact h1 i hi hc
  ·rw [List.getD_eq_getElem?_getD,List.getElem?_eq_none (by omega)];rfl
 | l :: suf,pre,n,he,h1,h2,h3=>by
  have hg:c.getD pre.length []=l:=by rw [he,List.getD_eq_getElem?_getD];simp
  have hp:(pre++[l]).length=pre.length+1:=by simp
  have:=lsF_ok (c:=c) suf (pre++[l]) (if vl l=0 then n else pre.length+1) (by rw [he];simp) (fun i hi hc=>by
   rw [hp] at hc
   by_cases hz:vl l=0
   ·rw [if_pos hz] at hi
    by_cases e:i=pre.length
    ·subst e;rw [hg];exact hz
    ·exact h1 i hi (by omega)
   ·rw [if_neg hz] at hi;omega) (by
   by_cases hz:vl l=0
   ·rw [if_pos hz];exact h2
   ·rw [if_neg hz];right;rw [Nat.add_sub_cancel,hg];exact hz) (by rw [hp];split<;>omega)
  rw [hp] at this
  exact this
theorem zaQ (c:List (List Int)) (i:Nat):(vlL c).getD i 0=vl (c.getD i []):=zk9
theorem lowR_eq {c:List (List Int)} {d:List Int} (h4:c.length≤4) (hd:vl d≠0):zho c d=gvN (zdU (vlL c) (vl d)):=by
 have hz:=zh7 (c:=vlL c) hd
 obtain ⟨_,hdv⟩:=zfa (vlL c) (vl d)
 obtain ⟨l1,l2,l3⟩:=lsF_ok (c:=c) c [] 0 rfl (fun i _ h=>by simp at h) (.inl rfl) (Nat.le_refl _)
 unfold zho gvN
 simp only [dvs_sign hd]
 generalize hg:dvs (vlL c) (vl d)=g at *
 simp only [List.length_nil] at l1 l2 l3
 generalize hn:lsF 0 0 c=n at *
 refine Prod.ext ?_ ?_
 ·show (c.take n).map (fun l=>aZ (vl l / g))=(za4 (zdU (vlL c) (vl d)).1).map aZ
  have e:(c.take n).map (fun l=>aZ (vl l / g))=((c.take n).map fun l=>vl l / g).map aZ:=by rw [List.map_map];rfl
  rw [e]
  congr 1
  have hget:∀i,((c.take n).map fun l=>vl l / g).getD i 0=if i<n then vl (c.getD i []) / g else 0:=fun i=>by
   rw [List.getD_eq_getElem?_getD,List.getElem?_map,List.getElem?_take]
   by_cases hi:i<n
   ·rw [if_pos hi,if_pos hi,List.getElem?_eq_getElem (by omega),List.getD_eq_getElem?_getD,List.getElem?_eq_getElem (by omega)];rfl
   ·rw [if_neg hi,if_neg hi];rfl
  refine trim_ext ?_ (zeL _) fun i=>?_
  ·rcases l2 with h0 | h0
   ·left;subst h0;simp
   ·by_cases hn0:n=0
    ·left;subst hn0;simp
    ·right
     have hl:((c.take n).map fun l=>vl l / g).length=n:=by simp;omega
     rw [List.getLastD_eq_getLast?,List.getLast?_eq_getElem?,hl,← List.getD_eq_getElem?_getD,hget,if_pos (by omega)]
     intro h
     have hdvd:g∣vl (c.getD (n-1) []):=by have:=hdv (n-1);rwa [zaQ] at this
     have:=Int.ediv_mul_cancel hdvd
     rw [h] at this
     exact h0 (by omega)
  ·rw [zbv,zkr (fun i hi=>by rw [zaQ,List.getD_eq_getElem?_getD,List.getElem?_eq_none (by omega)];rfl),hget]
   unfold loC
   rw [hg,zaQ]
   by_cases hi:i<n
   ·rw [if_pos hi]
   ·rw [if_neg hi,l1 i (by omega),Int.zero_ediv]
 ·show aZ (vl d / g)=aZ (vl d / dvs (vlL c) (vl d))
  rw [hg]
theorem vlL_set (l:List (List Int)) (i:Nat) (x:List Int):vlL (l.set i x)=(vlL l).set i (vl x):=by simp [vlL,List.map_set]
theorem inG_vl {p:List Int} {n m:Nat} {out:List (List Int)} (hn:n≤m) (hm:m<out.length):∀k,k≤n→vlL (inG p n m (vl (out.getD m [])) out k)=zim p (vlL out) m n k
 | 0,_=>rfl
 | k + 1,hk=>by
  have ih:=inG_vl (p:=p) hn hm k (by omega)
  unfold inG zim
  rw [vlL_set,bZ,← zaQ (inG p n m (vl (out.getD m [])) out k) (m-n+k),ih]
  have e:(zim p (vlL out) m n k).getD m 0=vl (out.getD m []):=by
   rw [zft hn (by rw [zc2];exact hm) k (by omega),if_neg (by omega),zaQ]
  rw [e,Int.sub_eq_add_neg]
theorem oG_vl {p:List Int} {n:Nat} {C:List Int}:∀(s:Nat) (out:List (List Int)),n+s≤out.length→out.length=C.length→(∀S,C.length=n+S→s≤S→vlL out=ouR p n C (S-s)→vlL (oG p n s out)=ouR p n C S)
 | 0,out,_,_,S,hS,_,h=>h
 | s+1,out,hl,hc,S,hS,hs,h=>by
  unfold oG
  refine oG_vl s _ (by rw [zfc];omega) (by rw [zfc];exact hc) S hS (by omega) ?_
  rw [inG_vl (by omega) (by omega) n (Nat.le_refl n),h]
  obtain ⟨t,ht⟩:∃t,S-s=t+1:=⟨S-s-1,by omega⟩
  rw [ht,show S-(s+1)=t by omega]
  show _=zim p (ouR p n C t) (C.length-1-t) n n
  rw [show C.length-1-t=n+s by omega]
theorem rdR_vl (p:List Int) (c:List (List Int)) (i:Nat):(vlL (rdR p c)).getD i 0=(zat p (p.length-1) (vlL c)).getD i 0:=by
 unfold rdR zat
 generalize p.length-1=n
 have tk:∀(l:List (List Int)),vlL (l.take n)=(vlL l).take n:=fun l=>by simp [vlL,List.map_take]
 rw [tk,zc2]
 by_cases h:n≤c.length
 ·rw [show n-c.length=0 by omega,List.replicate_zero,List.append_nil]
  rw [oG_vl (p:=p) (C:=vlL c) (c.length-n) c (by omega) (by rw [zc2]) (c.length-n) (by rw [zc2];omega) (Nat.le_refl _) (by rw [Nat.sub_self];rfl)]
 ·rw [show c.length-n=0 by omega]
  show((vlL (c++List.replicate (n-c.length) [])).take n).getD i 0=((vlL c).take n).getD i 0
  rw [List.take_of_length_le (by rw [zc2];simp;omega),List.take_of_length_le (by rw [zc2];omega),zaQ,zaQ]
  rw [List.getD_eq_getElem?_getD,List.getD_eq_getElem?_getD]
  by_cases hi:i<c.length
  ·rw [List.getElem?_append_left hi]
  ·rw [List.getElem?_append_right (by omega),List.getElem?_eq_none (l:=c) (by omega)]
   by_cases hj:i-c.length<n-c.length
   ·rw [List.getElem?_replicate,if_pos hj];rfl
   ·rw [List.getElem?_replicate,if_neg hj]
theorem low_rd {p:List Int} (h:zjr p) (c:List (List Int)) {z:Int} (hz:z≠0):zho (rdR p c) (aZ z)=gvN (zdU (zat p (p.length-1) (vlL c)) z):=by
 rw [lowR_eq (by rw [rdR_len];have:=h.2.1;omega) (by rw [bZ];exact hz),bZ]
 rw [low_get hz (rdR_vl p c)]
theorem low_eq {p:List Int} (h:zjr p) {c:List (List Int)} {z:Int} (hz:z≠0) {u:NZ} (hu:Nrm (qO p) u) (hv:val (qO p) (vlL c) z=nv (qO p) u):zho (rdR p c) (aZ z)=gvN u:=by
 rw [low_rd h c hz]
 congr 1
 refine nv_inj (ziq (zm3 h) hz (zgI h)) hu ?_
 rw [zir (zm3 h) hz (zgI h),zkT h,hv]
theorem zmV {p:List Int} {x:zbp} (hx:Gd p x):nv (qO p) (tkN p x)=val (qO p) (vlL x.1) (zas x.2):=(tk_ok (A:=20000) hx.1 (by decide) (fun l hl=>(hx.1.2.2.1 l hl).2) hx.1.2.2.2.2).2.1
theorem map_rng {F:Nat→List Int} {n i:Nat}:((List.range n).map F).getD i []=if i<n then F i else []:=by
 rw [List.getD_eq_getElem?_getD,List.getElem?_map]
 by_cases h:i<n
 ·rw [if_pos h,List.getElem?_range h];rfl
 ·rw [if_neg h,List.getElem?_eq_none (by simp;omega)];rfl
theorem zhm {c:List (List Int)} {i:Nat} (h:c.length≤i):vl (c.getD i [])=0:=by
 rw [List.getD_eq_getElem?_getD,List.getElem?_eq_none h];rfl
theorem ad_eq {p:List Int} {x y:zbp} (hx:Gd p x) (hy:Gd p y):adO p x y=adN p x y:=by
 have h:=hx.1.1
 have ⟨n3,v3⟩:=pl_ok (zm3 h) (zaw hx) (zaw hy)
 refine low_eq h (Int.mul_ne_zero (zdS _) (zdS _)) n3 ?_
 rw [v3,zmV hx,zmV hy]
 refine Eq.trans ?_ (val_add (q:=qO p) (c:=vlL x.1) (c':=vlL y.1) (zdS x.2) (zdS y.2))
 refine zfi fun i=>?_
 rw [zew,zbi,zbi,zaQ,zaQ,zaQ]
 unfold adR
 rw [map_rng]
 by_cases hi:i<max x.1.length y.1.length
 ·rw [if_pos hi];unfold adF;rw [bZ,Int.mul_comm (vl (x.1.getD i [])),Int.mul_comm (vl (y.1.getD i []))]
 ·rw [if_neg hi,zhm (c:=x.1) (by omega),zhm (c:=y.1) (by omega),Int.mul_zero,Int.mul_zero];rfl
def smS (x y:List Int) (i:Nat):Nat→Int
 | 0=>0
 | k+1=>smS x y i k+x.getD k 0*y.getD (i-k) 0
theorem zoS (a:Int) (x y:List Int) (i:Nat):∀k,smS (a :: x) y (i+1) (k+1)=a*y.getD (i+1) 0+smS x y i k
 | 0=>by simp [smS]
 | k+1=>by
  have ih:=zoS a x y i k
  show smS (a :: x) y (i+1) (k+1)+x.getD k 0*y.getD (i+1-(k+1)) 0=_
  rw [ih,show i+1-(k+1)=i-k by omega,Int.add_assoc];rfl
theorem smS_nil (y:List Int) (i:Nat):∀k,smS [] y i k=0
 | 0=>rfl
 | k+1=>by unfold smS;rw [smS_nil y i k];simp
theorem znj:∀(x y:List Int) (i:Nat),(cvZ x y).getD i 0=smS x y i (i+1)
 | [],y,i=>by rw [smS_nil];rfl
 | a :: x,y,0=>by
  show(zmZ (smZ a y) (0 :: cvZ x y)).getD 0 0=_
  rw [zew,zbi];simp [smS]
 | a :: x,y,i+1=>by
  show(zmZ (smZ a y) (0 :: cvZ x y)).getD (i+1) 0=_
  rw [zew,zbi,zoS,← znj x y i];rfl
theorem cvS_sm (x y:List (List Int)) (i:Nat):∀k,cvS x y i k=smS (vlL x) (vlL y) i k
 | 0=>rfl
 | k+1=>by unfold cvS smS;rw [cvS_sm x y i k,zaQ,zaQ]
theorem cvS_out {x y:List (List Int)} {i:Nat} (h:x.length+y.length≤i+1):∀k,k≤i+1→cvS x y i k=0
 | 0,_=>rfl
 | k+1,hk=>by
  unfold cvS
  rw [cvS_out h k (by omega)]
  by_cases hx:x.length≤k
  ·rw [zhm hx];simp
  ·rw [zhm (c:=y) (i:=i-k) (by omega)];simp
theorem ml_val {x y:List (List Int)} (i:Nat):(vlL (mlR x y (x.length+y.length-1))).getD i 0=(cvZ (vlL x) (vlL y)).getD i 0:=by
 rw [znj,← cvS_sm,zaQ]
 unfold mlR
 rw [map_rng]
 by_cases hi:i<x.length+y.length-1
 ·rw [if_pos hi,bZ]
 ·rw [if_neg hi,cvS_out (by omega) _ (Nat.le_refl _)];rfl
theorem mu_eq {p:List Int} {x y:zbp} (hx:Gd p x) (hy:Gd p y):muO p x y=muN p x y:=by
 have h:=hx.1.1
 have ⟨n3,v3,_⟩:=tm_ok h (zaw hx) (zaw hy) hx.2 hy.2
 refine low_eq h (Int.mul_ne_zero (zdS _) (zdS _)) n3 ?_
 rw [v3,zmV hx,zmV hy]
 refine Eq.trans ?_ (val_mul (q:=qO p) (qO_1 h) (c:=vlL x.1) (c':=vlL y.1) (zdS x.2) (zdS y.2))
 exact zfi ml_val
def wN:zbp:=([[-1]],[1])
theorem ng_eq {p:List Int} {y:zbp} (hy:Gd p y):muO p y wN=gvN (ngN (tkN p y)):=by
 have h:=hy.1.1
 have ⟨n3,v3⟩:=ng_ok (zm3 h) (zaw hy)
 refine low_eq h (Int.mul_ne_zero (zdS _) (zdS _)) n3 ?_
 rw [v3,zmV hy]
 refine Eq.trans ?_ (val_neg (q:=qO p) (c:=vlL y.1) (d:=zas y.2))
 have e:zas wN.2=1:=rfl
 rw [e,Int.mul_one]
 refine zfi fun i=>?_
 rw [zbi,ml_val,znj]
 have hs:∀k,k≤i→smS (vlL y.1) (vlL wN.1) i k=0:=by
  intro k hk
  induction k with
  | zero=>rfl
  | succ k ih=>
   unfold smS
   rw [ih (by omega),show(vlL wN.1).getD (i-k) 0=0 from by
    obtain ⟨t,ht⟩:∃t,i-k=t+1:=⟨i-k-1,by omega⟩
    rw [ht];rfl]
   simp
 unfold smS
 rw [hs i (Nat.le_refl _),Nat.sub_self]
 show 0+(vlL y.1).getD i 0 * -1 = -1*(vlL y.1).getD i 0
 omega
open Go.Kf
def pRR (f:fieldK.ty) (x y:NT):Prop:=pPF f∧pB x∧pB y
def cRR (p:fieldK.ty→NT→NT→Prop) (g:List Int→NT→NT→NT) (args:List AV):M AV:=match args with
 | [r,y,z]=>do
  let f ← asK fieldK r
  let x ← asK numK y
  let x2 ← asK numK z
  tell (p f x x2)
  M.pure (.agg [.lst (.sl (.int .i64)) (g f.1 x x2).1,.sq (g f.1 x x2).2])
 | _=>fail 331
def ctrB3:Ctr:=(25,cRR pRR adO) :: (29,cRR pRR muO) :: (62,cK [.lit (.int .i64 (-1))] (.agg [.lst (.sl (.int .i64)) [[-1]],.sq [1]])) :: ctrB2
theorem zlm {p:fieldK.ty→NT→NT→Prop} {g:List Int→NT→NT→NT} {k:FuncId} (h:∀f x y,p f x y→FC Tryz.prog k [fieldK.val f,numK.val x,numK.val y] (numK.val (g f.1 x y))):kZ Tryz.prog k (cRR p g):=by
 intro args _
 unfold cRR
 split
 ·exact Spec.bind (asK_spec.mono fun f hr=>Spec.bind (asK_spec.mono fun x hx=>Spec.bind (asK_spec.mono fun y hy=>Spec.bind (Spec.tell fun hp=>Spec.pure' ((h f x y hp).le (.cons hr (.cons hx (.cons hy .nil))) (Le.refl _))))))
 ·exact Spec.fail
theorem whole_m1:FC Tryz.prog 62 [.lit (.int .i64 (-1))] (.agg [.lst (.sl (.int .i64)) [[-1]],.sq [1]]):=by
 have h1:pQ 20000 [(-1:Int)]:=⟨by simp,fun d hd=>by rw [List.mem_singleton.1 hd];unfold cZ;omega⟩
 have h2:pQ 20000 [(1:Int)]:=⟨by simp,fun d hd=>by rw [List.mem_singleton.1 hd];unfold cZ;omega⟩
 have e:zho [[-1]] [1]=([[-1]],[1]):=by kernel_rfl
 have:=nWh_0 (-1) (Nat.le_refl 1) (Nat.le_refl 1) (Nat.le_refl 1) ⟨⟨by simp,fun l hl=>by rw [List.mem_singleton.1 hl];exact h1⟩,h2,by decide⟩
 rw [show List.take 1 [List.take 1 [(-1:Int)]]=[[-1]] from rfl,show List.take 1 [(1:Int)]=[1] from rfl,e] at this
 exact this
theorem ctrB3_all:∀p∈ctrB3,kZ Tryz.prog p.1 p.2:=CAll.cons (zlm fun f x y h=>add_fc2 f x y h.1 h.2.1 h.2.2)<|CAll.cons (zlm fun f x y h=>mul_fc2 f x y h.1 h.2.1 h.2.2)<|CAll.cons (ze3 whole_m1) zhX
theorem okB3:(dZ Tryz.prog ctrB3 bw [] kdV2).OK:=DZ zbQ mixed ctrB3_all zbM
noncomputable section
theorem nSu_0 (f:fieldK.ty) (x y:zbp) (h1:pRR f y ([[-OfNat.ofNat 1]],[1])) (h2:pRR f x (muO f.fst y ([[-OfNat.ofNat 1]],[1]))):FC Tryz.prog 27 [fieldK.val f,numK.val x,numK.val y] (.agg [.lst (EK.sl (.int .i64)) (adO f.fst x (muO f.fst y ([[-OfNat.ofNat 1]],[1]))).fst,.sq (adO f.fst x (muO f.fst y ([[-OfNat.ofNat 1]],[1]))).snd]):=eZ okB3 60 [] (.c h1<|.c h2<|.e) [1,2]
end
open Go.Kf
theorem pB_gv {p:List Int} (h:zjr p) {u:NZ} (hu:Nrm (qO p) u) {m:Nat} (hb:Bd m u) (hm:m≤3000):pB (gvN u):=by
 refine ⟨?_,?_,hZ hb.1 hm⟩
 ·show((za4 u.1).map aZ).length≤40
  rw [List.length_map]
  have:=zo3 hu.sh
  have:=zm3 h
  omega
 ·intro l hl
  obtain ⟨z,hz,rfl⟩:=List.mem_map.1 hl
  obtain ⟨i,hi,rfl⟩:=List.getElem_of_mem hz
  have e:=zbv u.1 i
  rw [List.getD_eq_getElem?_getD,List.getElem?_eq_getElem hi,Option.getD_some] at e
  exact hZ (by rw [e];exact hb.2 i) hm
theorem pB_w:pB wN:=by
 have h:∀x:Int,x.natAbs≤1→pQ 3000 [x]:=fun x hx=>⟨by simp,fun d hd=>by rw [List.mem_singleton.1 hd];unfold cZ;omega⟩
 exact ⟨by decide,fun l hl=>by rw [List.mem_singleton.1 hl];exact h _ (by decide),h _ (by decide)⟩
def pOR (f:fieldK.ty) (x y:NT):Prop:=pPF f∧pOp f.1 x y∧pB x∧pB y
theorem ad_fc3 (f:fieldK.ty) (x y:NT) (h:pOR f x y):FC Tryz.prog 25 [fieldK.val f,numK.val x,numK.val y] (numK.val (adN f.1 x y)):=by
 rw [← ad_eq h.2.1.1 h.2.1.2]
 exact add_fc2 f x y h.1 h.2.2.1 h.2.2.2
theorem mu_fc3 (f:fieldK.ty) (x y:NT) (h:pOR f x y):FC Tryz.prog 29 [fieldK.val f,numK.val x,numK.val y] (numK.val (muN f.1 x y)):=by
 rw [← mu_eq h.2.1.1 h.2.1.2]
 exact mul_fc2 f x y h.1 h.2.2.1 h.2.2.2
theorem su_fc3 (f:fieldK.ty) (x y:NT) (h:pOR f x y):FC Tryz.prog 27 [fieldK.val f,numK.val x,numK.val y] (numK.val (suN f.1 x y)):=by
 obtain ⟨hf,⟨gx,gy⟩,bx,by'⟩:=h
 have hp:=gx.1.1
 have ⟨n2,_⟩:=ng_ok (zm3 hp) (zaw gy)
 have b2:=ng_bd gy.2
 have g2:=(gv_nb hp n2 b2 (by decide)).gd (by decide)
 have b3:=pB_gv hp n2 b2 (by decide)
 have e:=ng_eq gy
 have e2:adO f.1 x (muO f.1 y wN)=suN f.1 x y:=by
  rw [e,ad_eq gx g2]
  unfold adN suN
  rw [tk_gv hp n2]
 rw [← e2]
 exact nSu_0 f x y ⟨hf,by',pB_w⟩ ⟨hf,bx,by show pB (muO f.1 y wN);rw [e];exact b3⟩
def ctrB4:Ctr:=(25,cRR pOR adN) :: (27,cRR pOR suN) :: (29,cRR pOR muN) :: ctrB2
theorem ctrB4_all:∀p∈ctrB4,kZ Tryz.prog p.1 p.2:=CAll.cons (zlm ad_fc3)<|CAll.cons (zlm su_fc3)<|CAll.cons (zlm mu_fc3) zhX
theorem okB4:(dZ Tryz.prog ctrB4 bw [] kdV2).OK:=DZ zbQ mixed ctrB4_all zbM
end Go.Proofs.YtloaeinogiplbaaGreatDoor
end
section
open Go Go.Ev Go.RowKit
namespace Go.Proofs.YtloaeinogiplbaaGreatDoor
open Go.Proofs
set_option maxRecDepth 100000
set_option maxHeartbeats 1000000
set_option linter.unusedVariables false
set_option linter.unusedSimpArgs false
noncomputable section
end
open Go.Kf
noncomputable section
theorem sv_0 (a b c d:zbp) (h1:pNl (a,b).fst∧pNl (c,d).fst) (h2:(a,b).fst=(c,d).fst) (h3:pNl (a,b).snd∧pNl (c,d).snd):FC Tryz.prog 41 [vecK.val (a,b),vecK.val (c,d)] (.lit (.bool (decide ((a,b).snd=(c,d).snd)))):=eZ okD 60 [1] (.c h1<|.t h2<|.c h3<|.e) [1,2,3]
theorem sv_1 (a b c d:zbp) (h1:pNl (a,b).fst∧pNl (c,d).fst) (h2:¬((a,b).fst=(c,d).fst)):FC Tryz.prog 41 [vecK.val (a,b),vecK.val (c,d)] (.ff):=eZ okD 60 [0] (.c h1<|.f h2<|.e) [1,2]
theorem sm_0 (a b c d f g i j:zbp) (h1:pNl (a,b,c,d).fst∧pNl (f,g,i,j).fst) (h2:(a,b,c,d).fst=(f,g,i,j).fst) (h3:pNl (a,b,c,d).snd.fst∧pNl (f,g,i,j).snd.fst) (h4:(a,b,c,d).snd.fst=(f,g,i,j).snd.fst) (h5:pNl (a,b,c,d).snd.snd.fst∧pNl (f,g,i,j).snd.snd.fst) (h6:(a,b,c,d).snd.snd.fst=(f,g,i,j).snd.snd.fst) (h7:pNl (a,b,c,d).snd.snd.snd∧pNl (f,g,i,j).snd.snd.snd):FC Tryz.prog 51 [matK.val (a,b,c,d),matK.val (f,g,i,j)] (.lit (.bool (decide ((a,b,c,d).snd.snd.snd=(f,g,i,j).snd.snd.snd)))):=eZ okD 60 [1,1,1] (.c h1<|.t h2<|.c h3<|.t h4<|.c h5<|.t h6<|.c h7<|.e) [1,2,3,4,5,6,7]
theorem sm_1 (a b c d g i j l:zbp) (h1:pNl (a,b,c,d).fst∧pNl (g,i,j,l).fst) (h2:(a,b,c,d).fst=(g,i,j,l).fst) (h3:pNl (a,b,c,d).snd.fst∧pNl (g,i,j,l).snd.fst) (h4:(a,b,c,d).snd.fst=(g,i,j,l).snd.fst) (h5:pNl (a,b,c,d).snd.snd.fst∧pNl (g,i,j,l).snd.snd.fst) (h6:¬((a,b,c,d).snd.snd.fst=(g,i,j,l).snd.snd.fst)):FC Tryz.prog 51 [matK.val (a,b,c,d),matK.val (g,i,j,l)] (.ff):=eZ okD 60 [1,1,0] (.c h1<|.t h2<|.c h3<|.t h4<|.c h5<|.f h6<|.e) [1,2,3,4,5,6]
theorem sm_2 (a b c d g i j l:zbp) (h1:pNl (a,b,c,d).fst∧pNl (g,i,j,l).fst) (h2:(a,b,c,d).fst=(g,i,j,l).fst) (h3:pNl (a,b,c,d).snd.fst∧pNl (g,i,j,l).snd.fst) (h4:¬((a,b,c,d).snd.fst=(g,i,j,l).snd.fst)):FC Tryz.prog 51 [matK.val (a,b,c,d),matK.val (g,i,j,l)] (.ff):=eZ okD 60 [1,0] (.c h1<|.t h2<|.c h3<|.f h4<|.e) [1,2,3,4]
theorem sm_3 (a b c d g i j l:zbp) (h1:pNl (a,b,c,d).fst∧pNl (g,i,j,l).fst) (h2:¬((a,b,c,d).fst=(g,i,j,l).fst)):FC Tryz.prog 51 [matK.val (a,b,c,d),matK.val (g,i,j,l)] (.ff):=eZ okD 60 [0] (.c h1<|.f h2<|.e) [1,2]
end
def pVe (x:zbp × zbp):Prop:=pNl x.1∧pNl x.2
def pMa (x:zbp × zbp × zbp × zbp):Prop:=pNl x.1∧pNl x.2.1∧pNl x.2.2.1∧pNl x.2.2.2
instance tVe {x:zbp × zbp}:Tst (pVe x):=inferInstanceAs (Tst (_∧_))
instance tMa {x:zbp × zbp × zbp × zbp}:Tst (pMa x):=inferInstanceAs (Tst (pNl x.1∧pNl x.2.1∧pNl x.2.2.1∧pNl x.2.2.2))
theorem zrK (x y:zbp × zbp) (h:pVe x∧pVe y):FC Tryz.prog 41 [vecK.val x,vecK.val y] (.lit (.bool (decide (x=y)))):=by
 obtain ⟨a,b⟩:=x
 obtain ⟨c,d⟩:=y
 obtain ⟨⟨h1,h2⟩,h3,h4⟩:=h
 by_cases e:a=c
 ·have:=sv_0 a b c d ⟨h1,h3⟩ e ⟨h2,h4⟩
  rwa [show decide ((a,b)=(c,d))=decide (b=d) from decide_eq_decide.2 ⟨fun h=>(Prod.mk.inj h).2,fun h=>Prod.ext e h⟩]
 ·exact litB (fun h=>absurd (Prod.mk.inj h).1 e) fun _=>sv_1 a b c d ⟨h1,h3⟩ e
theorem zrI (x y:zbp × zbp × zbp × zbp) (h:pMa x∧pMa y):FC Tryz.prog 51 [matK.val x,matK.val y] (.lit (.bool (decide (x=y)))):=by
 obtain ⟨a,b,c,d⟩:=x
 obtain ⟨a',b',c',d'⟩:=y
 obtain ⟨⟨h1,h2,h3,h4⟩,k1,k2,k3,k4⟩:=h
 by_cases e1:a=a'
 case neg=>exact litB (fun h=>absurd (Prod.mk.inj h).1 e1) fun _=>sm_3 a b c d a' b' c' d' ⟨h1,k1⟩ e1
 by_cases e2:b=b'
 case neg=>exact litB (fun h=>absurd (Prod.mk.inj (Prod.mk.inj h).2).1 e2) fun _=>sm_2 a b c d a' b' c' d' ⟨h1,k1⟩ e1 ⟨h2,k2⟩ e2
 by_cases e3:c=c'
 case neg=>exact litB (fun h=>absurd (Prod.mk.inj (Prod.mk.inj (Prod.mk.inj h).2).2).1 e3) fun _=>sm_1 a b c d a' b' c' d' ⟨h1,k1⟩ e1 ⟨h2,k2⟩ e2 ⟨h3,k3⟩ e3
 have:=sm_0 a b c d a' b' c' d' ⟨h1,k1⟩ e1 ⟨h2,k2⟩ e2 ⟨h3,k3⟩ e3 ⟨h4,k4⟩
 rwa [show decide ((a,b,c,d)=(a',b',c',d'))=decide (d=d') from decide_eq_decide.2 ⟨fun h=>(Prod.mk.inj (Prod.mk.inj (Prod.mk.inj h).2).2).2,fun h=>by rw [e1,e2,e3,h]⟩]
def ctrS:Ctr:=(41,cD2 vecK vecK (fun x y=>pVe x∧pVe y) (fun A B=>.lit (.bool (decide (A=B))))) :: (51,cD2 matK matK (fun x y=>pMa x∧pMa y) (fun A B=>.lit (.bool (decide (A=B))))) :: ctrD
theorem zob:∀p∈ctrS,kZ Tryz.prog p.1 p.2:=CAll.cons (zeS zrK)<|CAll.cons (zeS zrI) zn8
open Go.Kf
noncomputable def ctrV1:Ctr:=(35,cOpen) :: (34,cFd (fun _ _ _ _=>True) (fun l a b d=>.lit (.int .i64 (zcw l a b d)))) :: ctrS
abbrev kdV:List (TypeId × EK):=[(27,numK)]
theorem zh0:∀p∈ctrV1,kZ Tryz.prog p.1 p.2:=CAll.cons cOpen_ok<|CAll.cons (zjy fun l a b d _=>rcheck_fc l a b d) zob
theorem okV1:(dZ Tryz.prog ctrV1 bw).OK:=TZ zh0
theorem okV1k:(dZ Tryz.prog ctrV1 bw [] kdV).OK:=DZ zbQ mixed zh0 zbM
noncomputable section
theorem rop_0 (p:List Int) (a b d:Int) (h1:zcw p a b d≠0):FC Tryz.prog 77 [.agg [.sq p,.lit (.int .i64 a),.lit (.int .i64 b),.lit (.int .i64 d)]] (.tup [.agg [aN,aI 0,aI 0,aI 0],aI (zcw p a b d)]):=eZ okV1 60 [1] (.c (bne_iff_ne.2 h1)<|.e) [0,1]
theorem rop_1 (p:List Int) (a b d:Int) (h1:zcw p a b d=0) (h2:(0+p.length)*8≤140737488355328) (h3:0+p.length≤4611686018427387904) (h4:0+p.length≤(List.take 0 []++p).length):FC Tryz.prog 77 [.agg [.sq p,.lit (.int .i64 a),.lit (.int .i64 b),.lit (.int .i64 d)]] (.tup [.agg [.sq ((List.take 0 []++p).take (0+p.length)),aI a,aI b,aI d],aI 0]):=eZ okV1 60 [0] (.c (bne_eq_false_iff_eq.2 h1)<|.t h2<|.t h3<|.c (show decide (p.length=p.length)=true from decide_eq_true rfl)<|.c h4<|.e) [0,1,2,3,0,4,5]
abbrev ze0 (s:St) (r:Ex × St):Prop:=Loops 0 Tryz.prog (lZ Tryz.prog 16 0) s r
abbrev zbB (a:List (List (List Int) × List Int)) (b:Int):St:=⟨sp 16 [(0,.lst (EK.pr (EK.sl (EK.sl (.int .i64))) (EK.sl (.int .i64))) a),(3,aI b)],[],[]⟩
abbrev zi3 (a:List (List (List Int) × List Int)):St:=⟨sp 16 [(2,.ff)],[],[]⟩
abbrev zi4 (a:List (List (List Int) × List Int)) (b:Int):St:=⟨sp 16 [(0,.lst (EK.pr (EK.sl (EK.sl (.int .i64))) (EK.sl (.int .i64))) a),(3,aI b)],[],[]⟩
theorem zrO (a:List (List (List Int) × List Int)) (b:Int) (h1:b<(a.length:Int)) (h2:0≤b) (h3:¬(shN (a.getD b.toNat (EK.dflt (EK.pr (EK.sl (EK.sl (.int .i64))) (EK.sl (.int .i64))))) 2)):ze0 (zbB a b) (Ex.ret,(zi3 a)):=Loops.fin (LS.at okV1k 60 [] [2] [] [1,1] (.t h1<|.t h2<|.y h3<|.e) [1,2,1,0,3]) (fun h=>nomatch h)
theorem zrP (a:List (List (List Int) × List Int)) (b:Int) (h1:b<(a.length:Int)) (h2:0≤b) (h3:shN (a.getD b.toNat (EK.dflt (EK.pr (EK.sl (EK.sl (.int .i64))) (EK.sl (.int .i64))))) 2) (h4:r64 (b+1)) {r:Ex × St} (k:ze0 (zbB a (b+1)) r):ze0 (zbB a b) r:=Loops.go (LS.at okV1k 60 [] [0,3] [] [1,0] (.t h1<|.t h2<|.x h3<|.i h4<|.e) [1,2,1,0,3,4]) k
theorem zrQ (a:List (List (List Int) × List Int)) (b:Int) (h1:¬(b<(a.length:Int))):ze0 (zbB a b) (Ex.exit 0,(zi4 a b)):=Loops.fin (LS.at okV1k 60 [] [0,3] [] [0] (.f h1<|.e) [1]) (fun h=>nomatch h)
theorem sml_0 (l:List numK.ty) (hL1:ze0 (zbB l (0)) (Ex.ret,(zi3 l))):FC Tryz.prog 16 [.lst numK l] (.ff):=eZ okV1k 60 [] (.v [0,3] [] hL1<|.e) [0,1]
theorem sml_1 (l:List numK.ty) (a:Int) (hL1:ze0 (zbB l (0)) (Ex.exit 0,(zi4 l a))):FC Tryz.prog 16 [.lst numK l] (.tt):=eZ okV1k 60 [] (.v [0,3] [] hL1<|.e) [0,1]
end
theorem zk5 (l:List numK.ty) (hl:l.length≤100):∀(n i:Nat),i+n=l.length →
 (∀x∈l.drop i,shN x 2)∧ze0 (zbB l i) (Ex.exit 0,zi4 l l.length)∨(¬ ∀x∈l.drop i,shN x 2)∧ze0 (zbB l i) (Ex.ret,zi3 l)
 | 0,i,hi=>by
  obtain rfl:i=l.length:=by omega
  exact .inl ⟨by simp,zrQ l _ (by omega)⟩
 | n + 1,i,hi=>by
  have hlt:i<l.length:=by omega
  have hg:l.getD (Int.toNat (i:Int)) (EK.dflt numK)=l[i]:=by
   rw [Int.toNat_natCast,List.getD_eq_getElem?_getD,List.getElem?_eq_getElem hlt];rfl
  have hd:l.drop i=l[i] :: l.drop (i+1):=List.drop_eq_getElem_cons hlt
  by_cases h:shN l[i] 2
  ·have go:∀r,ze0 (zbB l ((i:Int)+1)) r→ze0 (zbB l i) r:=fun r hr=>
   zrP l i (by omega) (by omega) (by have h':=h;rw [← hg] at h';exact h') (by unfold r64;omega) hr
   rcases zk5 l hl n (i+1) (by omega) with ⟨h1,h2⟩ | ⟨h1,h2⟩
   ·refine .inl ⟨fun x hx=>?_,go _ h2⟩
    rw [hd] at hx
    rcases List.mem_cons.1 hx with rfl | hx
    ·exact h
    ·exact h1 x hx
   ·exact .inr ⟨fun h3=>h1 fun x hx=>h3 x (by rw [hd];exact List.mem_cons_of_mem _ hx),go _ h2⟩
  ·exact .inr ⟨fun h3=>h (h3 _ (by rw [hd];exact List.mem_cons_self)),zrO l i (by omega) (by omega) (by have h':=h;rw [← hg] at h';exact h')⟩
def zjI (l:List numK.ty):Prop:=∀x∈l,shN x 2
instance decLight {l:List numK.ty}:Decidable (zjI l):=inferInstanceAs (Decidable (∀x∈l,shN x 2))
def pSm (l:List numK.ty):Prop:=l.length≤100
instance tSm {l:List numK.ty}:Tst (pSm l):=⟨decide (l.length≤100),of_decide_eq_true⟩
theorem lsmall_fc (l:List numK.ty) (h:pSm l):FC Tryz.prog 16 [.lst numK l] (.lit (.bool (decide (zjI l)))):=by
 refine litB (fun hs=>?_) fun hs=>?_
 ·rcases zk5 l h l.length 0 (by omega) with ⟨_,k⟩ | ⟨k,_⟩
  ·exact sml_1 l _ k
  ·exact absurd hs k
 ·rcases zk5 l h l.length 0 (by omega) with ⟨k,_⟩ | ⟨_,k⟩
  ·exact absurd k hs
  ·exact sml_0 l k
theorem rOpen_ok (p:List Int) (a b d:Int) (h:zcw p a b d=0):FC Tryz.prog 77 [.agg [.sq p,.lit (.int .i64 a),.lit (.int .i64 b),.lit (.int .i64 d)]] (.tup [.agg [.sq p,.lit (.int .i64 a),.lit (.int .i64 b),.lit (.int .i64 d)],.lit (.int .i64 0)]):=by
 have hr:=chk_ok h
 have hl:p.length≤5:=hr.l5
 have:=rop_1 p a b d h (by omega) (by omega) (by simp)
 rw [show List.take (0+p.length) (List.take 0 []++p)=p by simp] at this
 exact this
noncomputable def cROpen (args:List AV):M AV:=match args with
 | [x]=>do
  let f ← asK fieldK x
  match f with
  | (l,a,b,d)=>do
   let z ← dec (decide (zcw l a b d=0))
   match z with
   | true=>M.pure (.tup [.agg [.sq l,.lit (.int .i64 a),.lit (.int .i64 b),.lit (.int .i64 d)],.lit (.int .i64 0)])
   | false=>M.pure (.tup [.agg [.lit (.slice none 0 0),.lit (.int .i64 0),.lit (.int .i64 0),.lit (.int .i64 0)],.lit (.int .i64 (zcw l a b d))])
 | _=>fail 325
theorem cROpen_ok:kZ Tryz.prog 77 cROpen:=by
 intro args _
 unfold cROpen
 split
 ·refine Spec.bind (asK_spec.mono fun f hf=>?_)
  obtain ⟨l,a,b,d⟩:=f
  refine Spec.bind (Spec.dec ?_)
  by_cases h:zcw l a b d=0
  ·rw [decide_eq_true h]
   exact Spec.pure' ((rOpen_ok l a b d h).le (.cons hf .nil) (Le.refl _))
  ·rw [decide_eq_false h]
   exact Spec.pure' ((rop_0 l a b d h).le (.cons hf .nil) (Le.refl _))
 ·exact Spec.fail
noncomputable def ctrV2:Ctr:=(16,cD1 (.sl numK) pSm (fun l=>.lit (.bool (decide (zjI l))))) :: (77,cROpen) :: ctrV1
theorem ctrV2_all:∀p∈ctrV2,kZ Tryz.prog p.1 p.2:=CAll.cons (zhR lsmall_fc)<|CAll.cons cROpen_ok zh0
theorem okV2:(dZ Tryz.prog ctrV2 bw [] kdV).OK:=DZ zbQ mixed ctrV2_all zbM
abbrev planeK:EK:=.pr matK (.pr matK (.pr vecK vecK))
end Go.Proofs.YtloaeinogiplbaaGreatDoor
end
section
open Go Go.Ev Go.RowKit
namespace Go.Proofs.YtloaeinogiplbaaGreatDoor
open Go.Proofs
set_option maxRecDepth 100000
set_option maxHeartbeats 1000000
set_option linter.unusedVariables false
set_option linter.unusedSimpArgs false
noncomputable section
theorem bot_0 (p:List Int) (a b d:Int) (h1:(p.length:Int) > 5):FC Tryz.prog 15 [.agg [.sq p,.lit (.int .i64 a),.lit (.int .i64 b),.lit (.int .i64 d)]] (.tup [.lit (Value.pointer none),.agg [aN,aI 0,aI 0,aI 0],.ff]):=eZ okV2 60 [1] (.t h1<|.e) [1]
theorem bot_1 (p:List Int) (a b d:Int) (h1:¬((p.length:Int) > 5)) (h2:zcw p a b d=0):FC Tryz.prog 15 [.agg [.sq p,.lit (.int .i64 a),.lit (.int .i64 b),.lit (.int .i64 d)]] (.tup [.pd [.sq p,aI a,aI b,aI d,.lst EK.whole p,.lst EK.whole (trZ p),.lit (.bool (decide ((hvG p (hvC p) a b d).fst<0))),.wd (hvG p (hvC p) a b d).fst,.lit (.bool (decide ((hvG p (hvC p) a b d).snd.fst<0))),.wd (hvG p (hvC p) a b d).snd.fst,.lit (.bool (decide ((hvG p (hvC p) a b d).snd.snd<0))),.wd (hvG p (hvC p) a b d).snd.snd] 0,.agg [.sq p,aI a,aI b,aI d],aT]):=eZ okV2 60 [0,1,3] (.f h1<|.t h2<|.e) [1,2,2]
theorem bot_2 (p:List Int) (a b d:Int) (h1:¬((p.length:Int) > 5)) (h2:¬(zcw p a b d=0)) (h3:zcw p a b d≠0):FC Tryz.prog 15 [.agg [.sq p,.lit (.int .i64 a),.lit (.int .i64 b),.lit (.int .i64 d)]] (.tup [.lit (Value.pointer none),.agg [aN,aI 0,aI 0,aI 0],.ff]):=eZ okV2 60 [0,0,1] (.f h1<|.f h2<|.c (bne_iff_ne.2 h3)<|.e) [1,2,3]
theorem opn_0 (p:List Int) (a b d:Int) (h1:(p.length:Int) > 5):FC Tryz.prog 17 [.agg [.sq p,.lit (.int .i64 a),.lit (.int .i64 b),.lit (.int .i64 d)]] (.tt):=eZ okV2 60 [1] (.t h1<|.e) [1]
theorem opn_1 (p:List Int) (a b d:Int) (h1:¬((p.length:Int) > 5)) (h2:zcw p a b d=0) (h3:true=(zcw p a b d==0)):FC Tryz.prog 17 [.agg [.sq p,.lit (.int .i64 a),.lit (.int .i64 b),.lit (.int .i64 d)]] (aT):=eZ okV2 60 [0,1,1] (.f h1<|.t h2<|.c (beq_iff_eq.2 h3)<|.e) [1,2,0,3]
theorem opn_3 (p:List Int) (a b d:Int) (h1:¬((p.length:Int) > 5)) (h2:¬(zcw p a b d=0)) (h3:false=(zcw p a b d==0)):FC Tryz.prog 17 [.agg [.sq p,.lit (.int .i64 a),.lit (.int .i64 b),.lit (.int .i64 d)]] (.lit (.bool ((zcw p a b d==0)==false))):=eZ okV2 60 [0,0,1] (.f h1<|.f h2<|.c (beq_iff_eq.2 h3)<|.e) [1,2,0,3]
theorem lgt_0 (a b c d e f g h x y z w:numK.ty) (h1:12≤List.length [a,b,c,d,e,f,g,h,x,y,z,w]) (h2:pSm (List.take 12 [a,b,c,d,e,f,g,h,x,y,z,w])):FC Tryz.prog 39 [.agg [.lst (.sl (.int .i64)) a.1,.sq a.2,.lst (.sl (.int .i64)) b.1,.sq b.2,.lst (.sl (.int .i64)) c.1,.sq c.2,.lst (.sl (.int .i64)) d.1,.sq d.2,.lst (.sl (.int .i64)) e.1,.sq e.2,.lst (.sl (.int .i64)) f.1,.sq f.2,.lst (.sl (.int .i64)) g.1,.sq g.2,.lst (.sl (.int .i64)) h.1,.sq h.2,.lst (.sl (.int .i64)) x.1,.sq x.2,.lst (.sl (.int .i64)) y.1,.sq y.2,.lst (.sl (.int .i64)) z.1,.sq z.2,.lst (.sl (.int .i64)) w.1,.sq w.2]] (.lit (.bool (decide (zjI (List.take 12 [a,b,c,d,e,f,g,h,x,y,z,w]))))):=eZ okV2 60 [] (.c h1<|.c h2<|.e) [1,2]
end
open Go.Kf
theorem opened_fc (f:fieldK.ty):FC Tryz.prog 17 [fieldK.val f] (.lit (.bool true)):=by
 obtain ⟨p,a,b,d⟩:=f
 by_cases h5:p.length≤5
 ·by_cases h0:zcw p a b d=0
  ·exact opn_1 p a b d (by omega) h0 (by rw [h0];rfl)
  ·have:=opn_3 p a b d (by omega) h0 (beq_false_of_ne h0).symm
   rw [show(zcw p a b d==0)=false from beq_false_of_ne h0] at this
   exact this
 ·exact(opn_0 p a b d (by omega)).res fun E v hv=>by cases hv;exact .lit _
noncomputable def cBoth (args:List AV):M AV:=match args with
 | [x]=>do
  let f ← asK fieldK x
  match f with
  | (l,a,b,d)=>do
   let z ← dec (decide (l.length≤5∧zcw l a b d=0))
   match z with
   | true=>M.pure (.tup [openA l a b d,.agg [.sq l,.lit (.int .i64 a),.lit (.int .i64 b),.lit (.int .i64 d)],.lit (.bool true)])
   | false=>M.pure (.tup [.lit (.pointer none),.agg [.lit (.slice none 0 0),.lit (.int .i64 0),.lit (.int .i64 0),.lit (.int .i64 0)],.ff])
 | _=>fail 326
theorem cBoth_ok:kZ Tryz.prog 15 cBoth:=by
 intro args _
 unfold cBoth
 split
 ·refine Spec.bind (asK_spec.mono fun f hf=>?_)
  obtain ⟨l,a,b,d⟩:=f
  refine Spec.bind (Spec.dec ?_)
  by_cases h:l.length≤5∧zcw l a b d=0
  ·rw [decide_eq_true h]
   exact Spec.pure' ((bot_1 l a b d (by omega) h.2).le (.cons hf .nil) (Le.refl _))
  ·rw [decide_eq_false h]
   by_cases h5:l.length≤5
   ·exact Spec.pure' ((bot_2 l a b d (by omega) (fun k=>h ⟨h5,k⟩) (fun k=>h ⟨h5,k⟩)).le (.cons hf .nil) (Le.refl _))
   ·exact Spec.pure' ((bot_0 l a b d (by omega)).le (.cons hf .nil) (Le.refl _))
 ·exact Spec.fail
open Go.Kf
noncomputable section
theorem rC_0 (f:fieldK.ty) (u v:vecK.ty) (h1:pOR f u.fst v.snd) (h2:pOR f u.snd v.fst) (h3:pOR f (muN f.fst u.fst v.snd) (muN f.fst u.snd v.fst)):FC Tryz.prog 45 [fieldK.val f,vecK.val u,vecK.val v] (.agg [.lst (EK.sl (.int .i64)) (suN f.fst (muN f.fst u.fst v.snd) (muN f.fst u.snd v.fst)).fst,.sq (suN f.fst (muN f.fst u.fst v.snd) (muN f.fst u.snd v.fst)).snd]):=eZ okB4 60 [] (.c h1<|.c h2<|.c h3<|.e) [1,2,3]
theorem rU_0 (f:fieldK.ty) (u v:vecK.ty) (h1:pOR f u.fst v.fst) (h2:pOR f u.snd v.snd):FC Tryz.prog 47 [fieldK.val f,vecK.val u,vecK.val v] (.agg [.lst (EK.sl (.int .i64)) (adN f.fst u.fst v.fst).fst,.sq (adN f.fst u.fst v.fst).snd,.lst (EK.sl (.int .i64)) (adN f.fst u.snd v.snd).fst,.sq (adN f.fst u.snd v.snd).snd]):=eZ okB4 60 [] (.c h1<|.c h2<|.e) [1,2]
theorem rT_0 (f:fieldK.ty) (x:numK.ty) (v:vecK.ty) (h1:pOR f x v.fst) (h2:pOR f x v.snd):FC Tryz.prog 49 [fieldK.val f,numK.val x,vecK.val v] (.agg [.lst (EK.sl (.int .i64)) (muN f.fst x v.fst).fst,.sq (muN f.fst x v.fst).snd,.lst (EK.sl (.int .i64)) (muN f.fst x v.snd).fst,.sq (muN f.fst x v.snd).snd]):=eZ okB4 60 [] (.c h1<|.c h2<|.e) [1,2]
theorem rY_0 (f:fieldK.ty) (m:matK.ty) (v:vecK.ty) (h1:pOR f m.fst v.fst) (h2:pOR f m.snd.fst v.snd) (h3:pOR f (muN f.fst m.fst v.fst) (muN f.fst m.snd.fst v.snd)) (h4:pOR f m.snd.snd.fst v.fst) (h5:pOR f m.snd.snd.snd v.snd) (h6:pOR f (muN f.fst m.snd.snd.fst v.fst) (muN f.fst m.snd.snd.snd v.snd)):FC Tryz.prog 50 [fieldK.val f,matK.val m,vecK.val v] (.agg [.lst (EK.sl (.int .i64)) (adN f.fst (muN f.fst m.fst v.fst) (muN f.fst m.snd.fst v.snd)).fst,.sq (adN f.fst (muN f.fst m.fst v.fst) (muN f.fst m.snd.fst v.snd)).snd,.lst (EK.sl (.int .i64)) (adN f.fst (muN f.fst m.snd.snd.fst v.fst) (muN f.fst m.snd.snd.snd v.snd)).fst,.sq (adN f.fst (muN f.fst m.snd.snd.fst v.fst) (muN f.fst m.snd.snd.snd v.snd)).snd]):=eZ okB4 60 [] (.c h1<|.c h2<|.c h3<|.c h4<|.c h5<|.c h6<|.e) [1,2,3,4,5,6]
abbrev MZ (m:matK.ty):AV:=.agg [.lst (EK.sl (.int .i64)) m.fst.fst,.sq m.fst.snd,.lst (EK.sl (.int .i64)) m.snd.fst.fst,.sq m.snd.fst.snd,.lst (EK.sl (.int .i64)) m.snd.snd.fst.fst,.sq m.snd.snd.fst.snd,.lst (EK.sl (.int .i64)) m.snd.snd.snd.fst,.sq m.snd.snd.snd.snd]
abbrev za2 (f:fieldK.ty) (m:matK.ty) (n:matK.ty):Row:=.flat [.lst (EK.sl (.int .i64)) (adN f.fst (muN f.fst m.fst n.fst) (muN f.fst m.snd.fst n.snd.snd.fst)).fst,.sq (adN f.fst (muN f.fst m.fst n.fst) (muN f.fst m.snd.fst n.snd.snd.fst)).snd,.lst (EK.sl (.int .i64)) (adN f.fst (muN f.fst m.snd.snd.fst n.fst) (muN f.fst m.snd.snd.snd n.snd.snd.fst)).fst,.sq (adN f.fst (muN f.fst m.snd.snd.fst n.fst) (muN f.fst m.snd.snd.snd n.snd.snd.fst)).snd] true
abbrev zcZ (f:fieldK.ty) (m:matK.ty) (n:matK.ty):Row:=.flat [.lst (EK.sl (.int .i64)) (adN f.fst (muN f.fst m.fst n.snd.fst) (muN f.fst m.snd.fst n.snd.snd.snd)).fst,.sq (adN f.fst (muN f.fst m.fst n.snd.fst) (muN f.fst m.snd.fst n.snd.snd.snd)).snd,.lst (EK.sl (.int .i64)) (adN f.fst (muN f.fst m.snd.snd.fst n.snd.fst) (muN f.fst m.snd.snd.snd n.snd.snd.snd)).fst,.sq (adN f.fst (muN f.fst m.snd.snd.fst n.snd.fst) (muN f.fst m.snd.snd.snd n.snd.snd.snd)).snd] true
abbrev zaS (m:matK.ty):Row:=.flat [.lst (EK.sl (.int .i64)) m.fst.fst,.sq m.fst.snd,.lst (EK.sl (.int .i64)) m.snd.fst.fst,.sq m.snd.fst.snd,.lst (EK.sl (.int .i64)) m.snd.snd.fst.fst,.sq m.snd.snd.fst.snd,.lst (EK.sl (.int .i64)) m.snd.snd.snd.fst,.sq m.snd.snd.snd.snd] true
abbrev zdC (f:fieldK.ty) (m:matK.ty) (n:matK.ty):AV:=.agg [.lst (EK.sl (.int .i64)) (adN f.fst (muN f.fst m.fst n.snd.fst) (muN f.fst m.snd.fst n.snd.snd.snd)).fst,.sq (adN f.fst (muN f.fst m.fst n.snd.fst) (muN f.fst m.snd.fst n.snd.snd.snd)).snd,.lst (EK.sl (.int .i64)) (adN f.fst (muN f.fst m.snd.snd.fst n.snd.fst) (muN f.fst m.snd.snd.snd n.snd.snd.snd)).fst,.sq (adN f.fst (muN f.fst m.snd.snd.fst n.snd.fst) (muN f.fst m.snd.snd.snd n.snd.snd.snd)).snd]
abbrev zdD (f:fieldK.ty) (m:matK.ty) (n:matK.ty):AV:=.agg [.lst (EK.sl (.int .i64)) (adN f.fst (muN f.fst m.fst n.fst) (muN f.fst m.snd.fst n.snd.snd.fst)).fst,.sq (adN f.fst (muN f.fst m.fst n.fst) (muN f.fst m.snd.fst n.snd.snd.fst)).snd,.lst (EK.sl (.int .i64)) (adN f.fst (muN f.fst m.snd.snd.fst n.fst) (muN f.fst m.snd.snd.snd n.snd.snd.fst)).fst,.sq (adN f.fst (muN f.fst m.snd.snd.fst n.fst) (muN f.fst m.snd.snd.snd n.snd.snd.fst)).snd]
abbrev zdE (n:matK.ty):Row:=.flat [.lst (EK.sl (.int .i64)) n.fst.fst,.sq n.fst.snd,.lst (EK.sl (.int .i64)) n.snd.fst.fst,.sq n.snd.fst.snd,.lst (EK.sl (.int .i64)) n.snd.snd.fst.fst,.sq n.snd.snd.fst.snd,.lst (EK.sl (.int .i64)) n.snd.snd.snd.fst,.sq n.snd.snd.snd.snd] true
abbrev zdF (n:matK.ty):AV:=.agg [.lst (EK.sl (.int .i64)) n.fst.fst,.sq n.fst.snd,.lst (EK.sl (.int .i64)) n.snd.fst.fst,.sq n.snd.fst.snd,.lst (EK.sl (.int .i64)) n.snd.snd.fst.fst,.sq n.snd.snd.fst.snd,.lst (EK.sl (.int .i64)) n.snd.snd.snd.fst,.sq n.snd.snd.snd.snd]
abbrev OZ (f:fieldK.ty):AV:=.agg [.sq f.fst,aI f.snd.fst,aI f.snd.snd.fst,aI f.snd.snd.snd]
abbrev zdG (n:matK.ty):AV:=.agg [.lst (EK.sl (.int .i64)) n.snd.fst.fst,.sq n.snd.fst.snd,.lst (EK.sl (.int .i64)) n.snd.snd.snd.fst,.sq n.snd.snd.snd.snd]
abbrev zaj (f:fieldK.ty):Row:=.flat [.sq f.fst,aI f.snd.fst,aI f.snd.snd.fst,aI f.snd.snd.snd] true
abbrev zb4 (n:matK.ty):AV:=.agg [.lst (EK.sl (.int .i64)) n.fst.fst,.sq n.fst.snd,.lst (EK.sl (.int .i64)) n.snd.snd.fst.fst,.sq n.snd.snd.fst.snd]
abbrev zeE (n:matK.ty):Row:=.flat [.lst (EK.sl (.int .i64)) n.fst.fst,.sq n.fst.snd,.lst (EK.sl (.int .i64)) n.snd.snd.fst.fst,.sq n.snd.snd.fst.snd] true
abbrev zb5 (n:matK.ty):AV:=.agg [.lst (EK.sl (.int .i64)) n.snd.snd.fst.fst,.sq n.snd.snd.fst.snd]
abbrev zb6 (n:matK.ty):AV:=.agg [.lst (EK.sl (.int .i64)) n.snd.snd.snd.fst,.sq n.snd.snd.snd.snd]
abbrev zb7 (n:matK.ty):AV:=.agg [.lst (EK.sl (.int .i64)) n.snd.fst.fst,.sq n.snd.fst.snd]
abbrev zb8 (n:matK.ty):AV:=.agg [.lst (EK.sl (.int .i64)) n.fst.fst,.sq n.fst.snd]
abbrev zb9:Row:=.flat [aN,aN,aN,aN,aN,aN,aN,aN] true
abbrev rP_0_s0 (f:fieldK.ty) (m n:matK.ty):St:=⟨sp 34 [(0,(OZ f)),(1,(MZ m)),(2,(zdF n)),(3,.ref 0 0),(4,.ref 1 0),(5,.ref 2 0),(6,.ref 3 0),(7,.ref 12 0),(8,.ref 13 0),(9,(OZ f)),(10,(MZ m)),(11,.ref 2 0),(12,(zb8 n)),(13,.ref 2 4),(14,(zb5 n)),(15,(zb4 n)),(16,(zdD f m n)),(17,(OZ f)),(18,(MZ m)),(19,.ref 2 2),(20,(zb7 n)),(21,.ref 2 6),(22,(zb6 n)),(23,(zdG n)),(24,(zdC f m n))],[(zaj f),(zaS m),(zdE n),zb9,(zaj f),(zaS m),(zeE n),(za2 f m n),(zaj f),(zaS m),.flat [.lst (EK.sl (.int .i64)) n.snd.fst.fst,.sq n.snd.fst.snd,.lst (EK.sl (.int .i64)) n.snd.snd.snd.fst,.sq n.snd.snd.snd.snd] true,(zcZ f m n),(za2 f m n),(zcZ f m n)],[7,11]⟩
abbrev rP_0_s1 (f:fieldK.ty) (m n:matK.ty):St:=⟨sp 34 [(0,(OZ f)),(1,(MZ m)),(2,(zdF n)),(3,.ref 0 0),(4,.ref 1 0),(5,.ref 2 0),(6,.ref 3 0),(7,.ref 8 0),(8,.ref 9 0),(9,(OZ f)),(10,(MZ m)),(11,.ref 2 0),(12,(zb8 n)),(13,.ref 2 4),(14,(zb5 n)),(15,(zb4 n)),(16,(zdD f m n)),(17,(OZ f)),(18,(MZ m)),(19,.ref 2 2),(20,(zb7 n)),(21,.ref 2 6),(22,(zb6 n)),(23,(zdG n)),(24,(zdC f m n))],[(zaj f),(zaS m),(zdE n),zb9,(zaj f),(zaS m),(zeE n),(za2 f m n),(za2 f m n),(zcZ f m n)],[7,8]⟩
abbrev rP_0_s2 (f:fieldK.ty) (m n:matK.ty):St:=⟨sp 34 [(0,(OZ f)),(1,(MZ m)),(2,(zdF n)),(3,.ref 0 0),(4,.ref 1 0),(5,.ref 2 0),(6,.ref 3 0),(7,.ref 9 0),(8,.ref 8 0),(9,(OZ f)),(10,(MZ m)),(11,.ref 2 0),(12,(zb8 n)),(13,.ref 2 4),(14,(zb5 n)),(15,(zb4 n)),(16,(zdD f m n)),(17,(OZ f)),(18,(MZ m)),(19,.ref 2 2),(20,(zb7 n)),(21,.ref 2 6),(22,(zb6 n)),(23,(zdG n)),(24,(zdC f m n))],[(zaj f),(zaS m),(zdE n),zb9,(zaj f),(zaS m),(zeE n),(za2 f m n),(zcZ f m n),(za2 f m n)],[7,8]⟩
abbrev rP_0_s3 (f:fieldK.ty) (m n:matK.ty):St:=⟨sp 34 [(0,(OZ f)),(1,(MZ m)),(2,(zdF n)),(3,.ref 0 0),(4,.ref 1 0),(5,.ref 2 0),(6,.ref 3 0),(7,.ref 8 0),(8,.ref 9 0),(9,(OZ f)),(10,(MZ m)),(11,.ref 2 0),(12,(zb8 n)),(13,.ref 2 4),(14,(zb5 n)),(15,(zb4 n)),(16,(zdD f m n)),(17,(OZ f)),(18,(MZ m)),(19,.ref 2 2),(20,(zb7 n)),(21,.ref 2 6),(22,(zb6 n)),(23,(zdG n)),(24,(zdC f m n))],[(zaj f),(zaS m),(zdE n),zb9,(zaj f),(zaS m),(zeE n),(za2 f m n),(za2 f m n),(zcZ f m n)],[7]⟩
abbrev rP_0_s4 (f:fieldK.ty) (m n:matK.ty):St:=⟨sp 34 [(0,(OZ f)),(1,(MZ m)),(2,(zdF n)),(3,.ref 0 0),(4,.ref 1 0),(5,.ref 2 0),(6,.ref 3 0),(7,.ref 4 0),(8,.ref 9 0),(9,(OZ f)),(10,(MZ m)),(11,.ref 2 0),(12,(zb8 n)),(13,.ref 2 4),(14,(zb5 n)),(15,(zb4 n)),(16,(zdD f m n)),(17,(OZ f)),(18,(MZ m)),(19,.ref 2 2),(20,(zb7 n)),(21,.ref 2 6),(22,(zb6 n)),(23,(zdG n)),(24,(zdC f m n))],[(zaj f),(zaS m),(zdE n),zb9,(za2 f m n),(zaj f),(zaS m),(zeE n),(za2 f m n),(zcZ f m n)],[4,8]⟩
abbrev rP_0_s5 (f:fieldK.ty) (m n:matK.ty):St:=⟨sp 34 [(0,(OZ f)),(1,(MZ m)),(2,(zdF n)),(3,.ref 0 0),(4,.ref 1 0),(5,.ref 2 0),(6,.ref 3 0),(7,.ref 4 0),(8,.ref 5 0),(9,(OZ f)),(10,(MZ m)),(11,.ref 2 0),(12,(zb8 n)),(13,.ref 2 4),(14,(zb5 n)),(15,(zb4 n)),(16,(zdD f m n)),(17,(OZ f)),(18,(MZ m)),(19,.ref 2 2),(20,(zb7 n)),(21,.ref 2 6),(22,(zb6 n)),(23,(zdG n)),(24,(zdC f m n))],[(zaj f),(zaS m),(zdE n),zb9,(za2 f m n),(zcZ f m n)],[4]⟩
abbrev rP_0_s6 (f:fieldK.ty) (m n:matK.ty):St:=⟨sp 34 [(0,(OZ f)),(1,(MZ m)),(2,(zdF n)),(3,.ref 0 0),(4,.ref 1 0),(5,.ref 2 0),(6,.ref 3 0),(7,.ref 9 0),(8,.ref 4 0),(9,(OZ f)),(10,(MZ m)),(11,.ref 2 0),(12,(zb8 n)),(13,.ref 2 4),(14,(zb5 n)),(15,(zb4 n)),(16,(zdD f m n)),(17,(OZ f)),(18,(MZ m)),(19,.ref 2 2),(20,(zb7 n)),(21,.ref 2 6),(22,(zb6 n)),(23,(zdG n)),(24,(zdC f m n))],[(zaj f),(zaS m),(zdE n),zb9,(zcZ f m n),(zaj f),(zaS m),(zeE n),(za2 f m n),(za2 f m n)],[4,8]⟩
abbrev rP_0_s7 (f:fieldK.ty) (m n:matK.ty):St:=⟨sp 34 [(0,(OZ f)),(1,(MZ m)),(2,(zdF n)),(3,.ref 0 0),(4,.ref 1 0),(5,.ref 2 0),(6,.ref 3 0),(7,.ref 5 0),(8,.ref 4 0),(9,(OZ f)),(10,(MZ m)),(11,.ref 2 0),(12,(zb8 n)),(13,.ref 2 4),(14,(zb5 n)),(15,(zb4 n)),(16,(zdD f m n)),(17,(OZ f)),(18,(MZ m)),(19,.ref 2 2),(20,(zb7 n)),(21,.ref 2 6),(22,(zb6 n)),(23,(zdG n)),(24,(zdC f m n))],[(zaj f),(zaS m),(zdE n),zb9,(zcZ f m n),(za2 f m n)],[4]⟩
abbrev rP_0_s8 (f:fieldK.ty) (m n:matK.ty):St:=⟨sp 34 [(0,(OZ f)),(1,(MZ m)),(2,(zdF n)),(3,.ref 0 0),(4,.ref 1 0),(5,.ref 2 0),(6,.ref 3 0),(7,.ref 4 0),(8,.ref 5 0),(9,(OZ f)),(10,(MZ m)),(11,.ref 2 0),(12,(zb8 n)),(13,.ref 2 4),(14,(zb5 n)),(15,(zb4 n)),(16,(zdD f m n)),(17,(OZ f)),(18,(MZ m)),(19,.ref 2 2),(20,(zb7 n)),(21,.ref 2 6),(22,(zb6 n)),(23,(zdG n)),(24,(zdC f m n))],[(zaj f),(zaS m),(zdE n),zb9,(za2 f m n),(zcZ f m n)],[]⟩
theorem rP_0 (f:fieldK.ty) (m n:matK.ty) (h1:pOR f m.fst n.fst) (h2:pOR f m.snd.fst n.snd.snd.fst) (h3:pOR f (muN f.fst m.fst n.fst) (muN f.fst m.snd.fst n.snd.snd.fst)) (h4:pOR f m.snd.snd.fst n.fst) (h5:pOR f m.snd.snd.snd n.snd.snd.fst) (h6:pOR f (muN f.fst m.snd.snd.fst n.fst) (muN f.fst m.snd.snd.snd n.snd.snd.fst)) (h7:pOR f m.fst n.snd.fst) (h8:pOR f m.snd.fst n.snd.snd.snd) (h9:pOR f (muN f.fst m.fst n.snd.fst) (muN f.fst m.snd.fst n.snd.snd.snd)) (h10:pOR f m.snd.snd.fst n.snd.fst) (h11:pOR f m.snd.snd.snd n.snd.snd.snd) (h12:pOR f (muN f.fst m.snd.snd.fst n.snd.fst) (muN f.fst m.snd.snd.snd n.snd.snd.snd)):FC Tryz.prog 52 [fieldK.val f,matK.val m,matK.val n] (.agg [.lst (EK.sl (.int .i64)) (adN f.fst (muN f.fst m.fst n.fst) (muN f.fst m.snd.fst n.snd.snd.fst)).fst,.sq (adN f.fst (muN f.fst m.fst n.fst) (muN f.fst m.snd.fst n.snd.snd.fst)).snd,.lst (EK.sl (.int .i64)) (adN f.fst (muN f.fst m.fst n.snd.fst) (muN f.fst m.snd.fst n.snd.snd.snd)).fst,.sq (adN f.fst (muN f.fst m.fst n.snd.fst) (muN f.fst m.snd.fst n.snd.snd.snd)).snd,.lst (EK.sl (.int .i64)) (adN f.fst (muN f.fst m.snd.snd.fst n.fst) (muN f.fst m.snd.snd.snd n.snd.snd.fst)).fst,.sq (adN f.fst (muN f.fst m.snd.snd.fst n.fst) (muN f.fst m.snd.snd.snd n.snd.snd.fst)).snd,.lst (EK.sl (.int .i64)) (adN f.fst (muN f.fst m.snd.snd.fst n.snd.fst) (muN f.fst m.snd.snd.snd n.snd.snd.snd)).fst,.sq (adN f.fst (muN f.fst m.snd.snd.fst n.snd.fst) (muN f.fst m.snd.snd.snd n.snd.snd.snd)).snd]):=eZ okB4 60 [] (.c h1<|.c h2<|.c h3<|.c h4<|.c h5<|.c h6<|.c h7<|.c h8<|.c h9<|.c h10<|.c h11<|.c h12<|.s (rP_0_s0 f m n)<|.s (rP_0_s1 f m n)<|.s (rP_0_s2 f m n)<|.s (rP_0_s3 f m n)<|.s (rP_0_s4 f m n)<|.s (rP_0_s5 f m n)<|.s (rP_0_s6 f m n)<|.s (rP_0_s7 f m n)<|.s (rP_0_s8 f m n)<|.e) [1,2,3,4,5,6,7,8,9,10,11,12,13,7,8,9,10,11,12,7,8,9,10,11,12,14,7,8,9,10,11,12,7,8,9,10,11,12,15,16,16,1,2,3,4,5,6,7,8,9,10,11,12,7,8,9,10,11,12,17,1,2,3,4,5,6,7,8,9,10,11,12,18,1,2,3,4,5,6,7,8,9,10,11,12,7,8,9,10,11,12,19,1,2,3,4,5,6,7,8,9,10,11,12,20,21,21]
end
def zjJ (P:planeK.ty):Prop:=zjI [P.1.1,P.1.2.1,P.1.2.2.1,P.1.2.2.2,P.2.1.1,P.2.1.2.1,P.2.1.2.2.1,P.2.1.2.2.2,P.2.2.1.1,P.2.2.1.2,P.2.2.2.1,P.2.2.2.2]
instance decLightP {P:planeK.ty}:Decidable (zjJ P):=inferInstanceAs (Decidable (zjI _))
def cR3 (k1 k2:EK) (p:fieldK.ty→k1.ty→k2.ty→Prop) (g:List Int→k1.ty→k2.ty→AV) (args:List AV):M AV:=match args with
 | [r,y,z]=>do
  let f ← asK fieldK r
  let x ← asK k1 y
  let x2 ← asK k2 z
  tell (p f x x2)
  M.pure (g f.1 x x2)
 | _=>fail 332
def cP3 (k1 k2:EK) (p:List Int→k1.ty→k2.ty→Prop) (g:List Int→k1.ty→k2.ty→AV) (args:List AV):M AV:=match args with
 | [r,y,z]=>do
  let f ← asRL r
  let x ← asK k1 y
  let x2 ← asK k2 z
  tell (p f x x2)
  M.pure (g f x x2)
 | _=>fail 333
def pDR (f:fieldK.ty) (a b c d:NT):Prop:=pOR f a b∧pOR f c d∧pOR f (muN f.1 a b) (muN f.1 c d)
def rCr (p:List Int) (u v:vecK.ty):AV:=.agg [.lst (.sl (.int .i64)) (crN p u v).1,.sq (crN p u v).2]
def rSu (p:List Int) (u v:vecK.ty):AV:=.agg [.lst (.sl (.int .i64)) (adN p u.1 v.1).1,.sq (adN p u.1 v.1).2,.lst (.sl (.int .i64)) (adN p u.2 v.2).1,.sq (adN p u.2 v.2).2]
def rTi (p:List Int) (x:numK.ty) (v:vecK.ty):AV:=.agg [.lst (.sl (.int .i64)) (muN p x v.1).1,.sq (muN p x v.1).2,.lst (.sl (.int .i64)) (muN p x v.2).1,.sq (muN p x v.2).2]
def rAp (p:List Int) (m:matK.ty) (v:vecK.ty):AV:=.agg [.lst (.sl (.int .i64)) ((apN p m v).1).1,.sq ((apN p m v).1).2,.lst (.sl (.int .i64)) ((apN p m v).2).1,.sq ((apN p m v).2).2]
def rPr (p:List Int) (m n:matK.ty):AV:=.agg [.lst (.sl (.int .i64)) ((prN p m n).1).1,.sq ((prN p m n).1).2,.lst (.sl (.int .i64)) ((prN p m n).2.1).1,.sq ((prN p m n).2.1).2,.lst (.sl (.int .i64)) ((prN p m n).2.2.1).1,.sq ((prN p m n).2.2.1).2,.lst (.sl (.int .i64)) ((prN p m n).2.2.2).1,.sq ((prN p m n).2.2.2).2]
noncomputable def ctrV3:Ctr:=(39,cD1 planeK (fun _=>True) (fun P=>.lit (.bool (decide (zjJ P))))) :: (17,cFd (fun _ _ _ _=>True) (fun _ _ _ _=>.lit (.bool true))) :: (15,cBoth) :: ctrS
def pMv (Q:NT→NT→NT→NT→Prop) (m:matK.ty) (v:vecK.ty):Prop:=Q m.1 v.1 m.2.1 v.2∧Q m.2.2.1 v.1 m.2.2.2 v.2
def pMm (Q:NT→NT→NT→NT→Prop) (m n:matK.ty):Prop:=Q m.1 n.1 m.2.1 n.2.2.1∧Q m.1 n.2.1 m.2.1 n.2.2.2∧Q m.2.2.1 n.1 m.2.2.2 n.2.2.1∧Q m.2.2.1 n.2.1 m.2.2.2 n.2.2.2
noncomputable def ctrV5:Ctr:=(43,cP3 vecK vecK (fun p u v=>pDt p u.1 v.2 u.2 v.1) rCr) :: (45,cR3 vecK vecK (fun f u v=>pDR f u.1 v.2 u.2 v.1) rCr) ::
 (46,cP3 vecK vecK (fun p u v=>pOp p u.1 v.1∧pOp p u.2 v.2) rSu) :: (47,cR3 vecK vecK (fun f u v=>pOR f u.1 v.1∧pOR f u.2 v.2) rSu) ::
 (48,cP3 numK vecK (fun p x v=>pOp p x v.1∧pOp p x v.2) rTi) :: (49,cR3 numK vecK (fun f x v=>pOR f x v.1∧pOR f x v.2) rTi) ::
 (42,cP3 matK vecK (fun p m v=>pMv (pDt p) m v) rAp) :: (50,cR3 matK vecK (fun f m v=>pMv (pDR f) m v) rAp) ::
 (40,cP3 matK matK (fun p m n=>pMm (pDt p) m n) rPr) :: (52,cR3 matK matK (fun f m n=>pMm (pDR f) m n) rPr) :: ctrV3
theorem light_fc (P:planeK.ty) (_:True):FC Tryz.prog 39 [planeK.val P] (.lit (.bool (decide (zjJ P)))):=lgt_0 P.1.1 P.1.2.1 P.1.2.2.1 P.1.2.2.2 P.2.1.1 P.2.1.2.1 P.2.1.2.2.1 P.2.1.2.2.2 P.2.2.1.1 P.2.2.1.2 P.2.2.2.1 P.2.2.2.2 (Nat.le_refl 12) (show(12:Nat)≤100 by decide)
theorem ctrV3_all:∀p∈ctrV3,kZ Tryz.prog p.1 p.2:=CAll.cons (zhR light_fc)<|CAll.cons (zjy fun l a b d _=>opened_fc (l,a,b,d))<|CAll.cons cBoth_ok zob
theorem zll {k1 k2:EK} {p:fieldK.ty→k1.ty→k2.ty→Prop} {g:List Int→k1.ty→k2.ty→AV} {k:FuncId} (h:∀f x y,p f x y→FC Tryz.prog k [fieldK.val f,k1.val x,k2.val y] (g f.1 x y)):kZ Tryz.prog k (cR3 k1 k2 p g):=by
 intro args _
 unfold cR3
 split
 ·exact Spec.bind (asK_spec.mono fun f hr=>Spec.bind (asK_spec.mono fun x hx=>Spec.bind (asK_spec.mono fun y hy=>Spec.bind (Spec.tell fun hp=>Spec.pure' ((h f x y hp).le (.cons hr (.cons hx (.cons hy .nil))) (Le.refl _))))))
 ·exact Spec.fail
theorem zlk {k1 k2:EK} {p:List Int→k1.ty→k2.ty→Prop} {g:List Int→k1.ty→k2.ty→AV} {k:FuncId} (h:∀f x y,p f x y→FC Tryz.prog k [reA (.lst .whole f),k1.val x,k2.val y] (g f x y)):kZ Tryz.prog k (cP3 k1 k2 p g):=by
 intro args _
 unfold cP3
 split
 ·exact Spec.bind (asRL_spec.mono fun f hr=>Spec.bind (asK_spec.mono fun x hx=>Spec.bind (asK_spec.mono fun y hy=>Spec.bind (Spec.tell fun hp=>Spec.pure' ((h f x y hp).le (.cons hr (.cons hx (.cons hy .nil))) (Le.refl _))))))
 ·exact Spec.fail
theorem ctrV5_all:∀p∈ctrV5,kZ Tryz.prog p.1 p.2:=
 CAll.cons (zlk fun _ _ _ h=>cr_fc h)<|CAll.cons (zll fun f u v h=>rC_0 f u v h.1 h.2.1 h.2.2) <|
 CAll.cons (zlk fun _ _ _ h=>sum_fc h)<|CAll.cons (zll fun f u v h=>rU_0 f u v h.1 h.2) <|
 CAll.cons (zlk fun _ _ _ h=>tim_fc h)<|CAll.cons (zll fun f u v h=>rT_0 f u v h.1 h.2) <|
 CAll.cons (zlk fun _ _ _ h=>ap_fc h)<|CAll.cons (zll fun f m v h=>rY_0 f m v h.1.1 h.1.2.1 h.1.2.2 h.2.1 h.2.2.1 h.2.2.2) <|
 CAll.cons (zlk fun _ _ _ h=>pr_fc h)<|CAll.cons (zll fun f m n h=>rP_0 f m n h.1.1 h.1.2.1 h.1.2.2 h.2.2.1.1 h.2.2.1.2.1 h.2.2.1.2.2 h.2.1.1 h.2.1.2.1 h.2.1.2.2 h.2.2.2.1 h.2.2.2.2.1 h.2.2.2.2.2) ctrV3_all
theorem okV5:(dZ Tryz.prog ctrV5 bw [] kdV).OK:=DZ zbQ mixed ctrV5_all zbM
noncomputable section
theorem fvc_0 (p:List Int) (a b d:Int) (M N:matK.ty) (U W:vecK.ty) (h1:p.length≤5∧zcw p a b d=0) (h2:¬(zjJ (M,N,U,W))):FC Tryz.prog 8 [.agg [.sq p,.lit (.int .i64 a),.lit (.int .i64 b),.lit (.int .i64 d)],.agg [.lst (.sl (.int .i64)) M.1.1,.sq M.1.2,.lst (.sl (.int .i64)) M.2.1.1,.sq M.2.1.2,.lst (.sl (.int .i64)) M.2.2.1.1,.sq M.2.2.1.2,.lst (.sl (.int .i64)) M.2.2.2.1,.sq M.2.2.2.2,.lst (.sl (.int .i64)) N.1.1,.sq N.1.2,.lst (.sl (.int .i64)) N.2.1.1,.sq N.2.1.2,.lst (.sl (.int .i64)) N.2.2.1.1,.sq N.2.2.1.2,.lst (.sl (.int .i64)) N.2.2.2.1,.sq N.2.2.2.2,.lst (.sl (.int .i64)) U.1.1,.sq U.1.2,.lst (.sl (.int .i64)) U.2.1,.sq U.2.2,.lst (.sl (.int .i64)) W.1.1,.sq W.1.2,.lst (.sl (.int .i64)) W.2.1,.sq W.2.2]] (aT):=eZ okV5 60 [1,3] (.t h1<|.y h2<|.e) [1,0,2,0]
theorem fvc_4 (p:List Int) (a b d:Int) (M N:matK.ty) (U W:vecK.ty) (h1:p.length≤5∧zcw p a b d=0) (h2:zjJ (M,N,U,W)) (h3:pDt p U.fst W.snd U.snd W.fst) (h4:pDR (p,a,b,d) U.fst W.snd U.snd W.fst) (h5:pNl (crN p U W)∧pNl (crN (p,a,b,d).fst U W)) (h6:(crN p U W)=(crN (p,a,b,d).fst U W)) (h7:pOp p U.fst W.fst∧pOp p U.snd W.snd) (h8:pOR (p,a,b,d) U.fst W.fst∧pOR (p,a,b,d) U.snd W.snd) (h9:pVe ((adN p U.fst W.fst),(adN p U.snd W.snd))∧pVe ((adN (p,a,b,d).fst U.fst W.fst),(adN (p,a,b,d).fst U.snd W.snd))) (h10:((adN p U.fst W.fst),(adN p U.snd W.snd))=((adN (p,a,b,d).fst U.fst W.fst),(adN (p,a,b,d).fst U.snd W.snd))) (h11:pOp p U.fst W.fst∧pOp p U.fst W.snd) (h12:pOR (p,a,b,d) U.fst W.fst∧pOR (p,a,b,d) U.fst W.snd) (h13:pVe ((muN p U.fst W.fst),(muN p U.fst W.snd))∧pVe ((muN (p,a,b,d).fst U.fst W.fst),(muN (p,a,b,d).fst U.fst W.snd))) (h14:((muN p U.fst W.fst),(muN p U.fst W.snd))=((muN (p,a,b,d).fst U.fst W.fst),(muN (p,a,b,d).fst U.fst W.snd))) (h15:pMv (pDt p) M U) (h16:pMv (pDR (p,a,b,d)) M U) (h17:pVe (apN p M U)∧pVe (apN (p,a,b,d).fst M U)) (h18:pMm (pDt p) M N) (h19:pMm (pDR (p,a,b,d)) M N) (h20:pMa (prN p M N)∧pMa (prN (p,a,b,d).fst M N)):FC Tryz.prog 8 [.agg [.sq p,.lit (.int .i64 a),.lit (.int .i64 b),.lit (.int .i64 d)],.agg [.lst (.sl (.int .i64)) M.1.1,.sq M.1.2,.lst (.sl (.int .i64)) M.2.1.1,.sq M.2.1.2,.lst (.sl (.int .i64)) M.2.2.1.1,.sq M.2.2.1.2,.lst (.sl (.int .i64)) M.2.2.2.1,.sq M.2.2.2.2,.lst (.sl (.int .i64)) N.1.1,.sq N.1.2,.lst (.sl (.int .i64)) N.2.1.1,.sq N.2.1.2,.lst (.sl (.int .i64)) N.2.2.1.1,.sq N.2.2.1.2,.lst (.sl (.int .i64)) N.2.2.2.1,.sq N.2.2.2.2,.lst (.sl (.int .i64)) U.1.1,.sq U.1.2,.lst (.sl (.int .i64)) U.2.1,.sq U.2.2,.lst (.sl (.int .i64)) W.1.1,.sq W.1.2,.lst (.sl (.int .i64)) W.2.1,.sq W.2.2]] (aT):=eZ okV5 60 [1,2,0,0,0,1,1] (.t h1<|.x h2<|.c h3<|.c h4<|.c h5<|.x h6<|.c h7<|.c h8<|.c h9<|.x h10<|.c h11<|.c h12<|.c h13<|.x h14<|.c h15<|.c h16<|.c h17<|.c (show decide ((apN p M U)=(apN (p,a,b,d).fst M U))=true from decide_eq_true rfl)<|.c h18<|.c h19<|.c h20<|.c (show decide ((prN p M N)=(prN (p,a,b,d).fst M N))=true from decide_eq_true rfl)<|.e) [1,0,2,3,4,5,6,7,8,9,10,11,12,13,14,15,16,17,18,19,20,21,22]
theorem fvc_7 (p:List Int) (a b d:Int) (M N:matK.ty) (U W:vecK.ty) (h1:¬(p.length≤5∧zcw p a b d=0)):FC Tryz.prog 8 [.agg [.sq p,.lit (.int .i64 a),.lit (.int .i64 b),.lit (.int .i64 d)],.agg [.lst (.sl (.int .i64)) M.1.1,.sq M.1.2,.lst (.sl (.int .i64)) M.2.1.1,.sq M.2.1.2,.lst (.sl (.int .i64)) M.2.2.1.1,.sq M.2.2.1.2,.lst (.sl (.int .i64)) M.2.2.2.1,.sq M.2.2.2.2,.lst (.sl (.int .i64)) N.1.1,.sq N.1.2,.lst (.sl (.int .i64)) N.2.1.1,.sq N.2.1.2,.lst (.sl (.int .i64)) N.2.2.1.1,.sq N.2.2.1.2,.lst (.sl (.int .i64)) N.2.2.2.1,.sq N.2.2.2.2,.lst (.sl (.int .i64)) U.1.1,.sq U.1.2,.lst (.sl (.int .i64)) U.2.1,.sq U.2.2,.lst (.sl (.int .i64)) W.1.1,.sq W.1.2,.lst (.sl (.int .i64)) W.2.1,.sq W.2.2]] (aT):=eZ okV5 60 [0] (.f h1<|.e) [1,0]
end
open Go.Kf
def NumR (x:NT):Prop:=(∀l∈x.1,∀d∈l,cZ d)∧∀d∈x.2,cZ d
theorem nb17 {p:List Int} {x:NT} (hp:zjr p) (hr:NumR x) (hs:shN x 2):Nb p 17 x:=by
 obtain ⟨h1,h2,h3⟩:=hs
 have sz:∀ {l:List Int},(∀d∈l,cZ d)→(l.length:Int)≤2→Sz 5 (vl l):=fun hd hl=>(vl_sz hd).mono (by omega)
 have s1:∀l∈x.1,Sz 5 (vl l):=fun l hl=>sz (hr.1 l hl) (h3 l hl)
 have s2:=sz hr.2 h2
 have ht:pTk p x.1 x.2:=⟨hp,by omega,fun l hl=>⟨⟨by have:=h3 l hl;omega,hr.1 l hl⟩,(s1 l hl).mono (by decide)⟩,⟨by omega,hr.2⟩,s2.mono (by decide)⟩
 exact ⟨ht,(tk_ok ht (by decide) s1 s2).2.2.mono (by omega)⟩
theorem chk_pol {p:List Int} {a b d:Int} (h:zcw p a b d=0):zjr p:=by
 have hr:=chk_ok h
 exact ⟨hr.l2,hr.l5,bigc_f hr.bg⟩
def zcq (P:planeK.ty):List NT:=[P.1.1,P.1.2.1,P.1.2.2.1,P.1.2.2.2,P.2.1.1,P.2.1.2.1,P.2.1.2.2.1,P.2.1.2.2.2,P.2.2.1.1,P.2.2.1.2,P.2.2.2.1,P.2.2.2.2]
theorem zow {x:NT} (h:pB x):pNl x:=
 ⟨by
  unfold pLi
  rw [Bool.and_eq_true,decide_eq_true_eq,List.all_eq_true]
  exact ⟨by have:=h.1;omega,fun l hl=>decide_eq_true (by have:=(h.2.1 l hl).1;omega)⟩,by have:=h.2.2.1;omega⟩
theorem pB_ad {p:List Int} {x y:NT} (hx:Gd p x) (hy:Gd p y):pB (adN p x y):=
 have n1:=zaw hx
 have n2:=zaw hy
 pB_gv hx.1.1 (pl_ok (zm3 hx.1.1) n1 n2).1 (zp5 hx.2 hy.2 n1.pos n2.pos) (by decide)
theorem pB_su {p:List Int} {x y:NT} (hx:Gd p x) (hy:Gd p y):pB (suN p x y):=
 have n1:=zaw hx
 have n2:=(ng_ok (zm3 hx.1.1) (zaw hy)).1
 pB_gv hx.1.1 (pl_ok (zm3 hx.1.1) n1 n2).1 (zp5 hx.2 (ng_bd hy.2) n1.pos n2.pos) (by decide)
theorem pB_mu {p:List Int} {x y:NT} (hx:Gd p x) (hy:Gd p y):pB (muN p x y):=
 have ⟨n,_,b⟩:=tm_ok hx.1.1 (zaw hx) (zaw hy) hx.2 hy.2
 pB_gv hx.1.1 n b (by decide)
def InN (p:List Int) (x:NT):Prop:=Nb p 17 x∧pB x
theorem in_of {p:List Int} {x:NT} (hp:zjr p) (hr:NumR x) (hs:shN x 2):InN p x:=
 ⟨nb17 hp hr hs,by have:=hs.1;omega,fun l hl=>⟨by have:=hs.2.2 l hl;omega,hr.1 l hl⟩,by have:=hs.2.1;omega,hr.2⟩
theorem inOp {p:List Int} {x y:NT} (hx:InN p x) (hy:InN p y):pOp p x y:=⟨hx.1.gd (by decide),hy.1.gd (by decide)⟩
theorem inA1 {p:List Int} {x y:NT} (hx:InN p x) (hy:InN p y):pNl (adN p x y):=zow (pB_ad (inOp hx hy).1 (inOp hx hy).2)
section
variable {p:List Int} {a b d:Int} (hp:zjr p)
include hp
theorem inOR {x y:NT} (hx:InN p x) (hy:InN p y):pOR (p,a,b,d) x y:=⟨hp,inOp hx hy,hx.2,hy.2⟩
theorem inMu {x y:NT} (hx:InN p x) (hy:InN p y):Gd p (muN p x y)∧pB (muN p x y):=by
 have:Fact' (1≤(qO p).length):=⟨qO_1 hp⟩
 have ⟨g1,g2⟩:=inOp hx hy
 exact ⟨(mu_op (Op.of hx.1) (Op.of hy.1) (by decide) (by decide)).1.gd (by decide),pB_mu g1 g2⟩
theorem inDt {x y z w:NT} (hx:InN p x) (hy:InN p y) (hz:InN p z) (hw:InN p w):pDt p x y z w:=⟨inOp hx hy,inOp hz hw,(inMu hp hx hy).1,(inMu hp hz hw).1⟩
theorem inDR {x y z w:NT} (hx:InN p x) (hy:InN p y) (hz:InN p z) (hw:InN p w):pDR (p,a,b,d) x y z w:=
 ⟨inOR hp hx hy,inOR hp hz hw,hp,⟨(inMu hp hx hy).1,(inMu hp hz hw).1⟩,(inMu hp hx hy).2,(inMu hp hz hw).2⟩
theorem inAd {x y z w:NT} (hx:InN p x) (hy:InN p y) (hz:InN p z) (hw:InN p w):pNl (adN p (muN p x y) (muN p z w)):=zow (pB_ad (inMu hp hx hy).1 (inMu hp hz hw).1)
theorem inSu {x y z w:NT} (hx:InN p x) (hy:InN p y) (hz:InN p z) (hw:InN p w):pNl (suN p (muN p x y) (muN p z w)):=zow (pB_su (inMu hp hx hy).1 (inMu hp hz hw).1)
theorem inM1 {x y:NT} (hx:InN p x) (hy:InN p y):pNl (muN p x y):=zow (inMu hp hx hy).2
end
theorem zrX (f:fieldK.ty) (P:planeK.ty) (hR:∀x∈zcq P,NumR x):FC Tryz.prog 8 [fieldK.val f,planeK.val P] (.lit (.bool true)):=by
 obtain ⟨p,a,b,d⟩:=f
 by_cases h:p.length≤5∧zcw p a b d=0
 ·by_cases hl:zjJ P
  ·have hp:=chk_pol h.2
   have nb:∀x∈zcq P,InN p x:=fun x hx=>in_of hp (hR x hx) (hl x hx)
   obtain ⟨M,N,U,W⟩:=P
   have m1:=nb M.1 (by simp [zcq])
   have m2:=nb M.2.1 (by simp [zcq])
   have m3:=nb M.2.2.1 (by simp [zcq])
   have m4:=nb M.2.2.2 (by simp [zcq])
   have n1:=nb N.1 (by simp [zcq])
   have n2:=nb N.2.1 (by simp [zcq])
   have n3:=nb N.2.2.1 (by simp [zcq])
   have n4:=nb N.2.2.2 (by simp [zcq])
   have u1:=nb U.1 (by simp [zcq])
   have u2:=nb U.2 (by simp [zcq])
   have w1:=nb W.1 (by simp [zcq])
   have w2:=nb W.2 (by simp [zcq])
   have k1:pNl (crN p U W):=inSu hp u1 w2 u2 w1
   have k2:pVe (adN p U.1 W.1,adN p U.2 W.2):=⟨inA1 u1 w1,inA1 u2 w2⟩
   have k3:pVe (muN p U.1 W.1,muN p U.1 W.2):=⟨inM1 hp u1 w1,inM1 hp u1 w2⟩
   have k4:pVe (apN p M U):=⟨inAd hp m1 u1 m2 u2,inAd hp m3 u1 m4 u2⟩
   have k5:pMa (prN p M N):=⟨inAd hp m1 n1 m2 n3,inAd hp m1 n2 m2 n4,inAd hp m3 n1 m4 n3,inAd hp m3 n2 m4 n4⟩
   exact fvc_4 p a b d M N U W h hl (inDt hp u1 w2 u2 w1) (inDR hp u1 w2 u2 w1) ⟨k1,k1⟩ rfl ⟨inOp u1 w1,inOp u2 w2⟩ ⟨inOR hp u1 w1,inOR hp u2 w2⟩ ⟨k2,k2⟩ rfl
    ⟨inOp u1 w1,inOp u1 w2⟩ ⟨inOR hp u1 w1,inOR hp u1 w2⟩ ⟨k3,k3⟩ rfl ⟨inDt hp m1 u1 m2 u2,inDt hp m3 u1 m4 u2⟩ ⟨inDR hp m1 u1 m2 u2,inDR hp m3 u1 m4 u2⟩ ⟨k4,k4⟩
    ⟨inDt hp m1 n1 m2 n3,inDt hp m1 n2 m2 n4,inDt hp m3 n1 m4 n3,inDt hp m3 n2 m4 n4⟩ ⟨inDR hp m1 n1 m2 n3,inDR hp m1 n2 m2 n4,inDR hp m3 n1 m4 n3,inDR hp m3 n2 m4 n4⟩ ⟨k5,k5⟩
  ·exact fvc_0 p a b d P.1 P.2.1 P.2.2.1 P.2.2.2 h hl
 ·exact fvc_7 p a b d P.1 P.2.1 P.2.2.1 P.2.2.2 h
end Go.Proofs.YtloaeinogiplbaaGreatDoor
end
section
open Go Go.Ev Go.RowKit
namespace Go.Proofs.YtloaeinogiplbaaGreatDoor
open Go.Proofs
theorem numR_of {x:NT} (h:okK numK x):NumR x:=⟨fun l hl d hd=>h.1 l hl d hd,fun d hd=>h.2 d hd⟩
theorem znT (f:fieldK.ty) (P:planeK.ty) (h:okK planeK P):FC Tryz.prog 8 [fieldK.val f,planeK.val P] (.lit (.bool true)):=by
 refine zrX f P fun x hx=>numR_of ?_
 obtain ⟨⟨a,b,c,d⟩,⟨e,g,i,j⟩,⟨k,l⟩,m,n⟩:=h
 simp only [zcq,List.mem_cons,List.not_mem_nil,or_false] at hx
 rcases hx with rfl | rfl | rfl | rfl | rfl | rfl | rfl | rfl | rfl | rfl | rfl | rfl<;>assumption
end Go.Proofs.YtloaeinogiplbaaGreatDoor
end
