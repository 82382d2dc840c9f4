/- Part of a proof about a given program: see the last module of the claim. -/
import Derived.Test.YtagbldogmjhdpaaGreatDoorE
import Derived.Test.YtagbldogmjhdpaaGreatDoorC
import Derived.Test.YtagbldogmjhdpaaGreatDoorD
section
open Go Go.Ev Go.RowKit
namespace Go.Proofs.YtagbldogmjhdpaaGreatDoor
open Go.Proofs
set_option maxRecDepth 100000
set_option maxHeartbeats 1000000
set_option linter.unusedVariables false
set_option linter.unusedSimpArgs false
def zmu:Ctr:=(171,cL pTr (fun x=>.sq (trm x))) :: (170,cI cZ zgB) :: zaL
theorem zkO:∀p∈zmu,jZ tP p.1 p.2:=CAll.cons (zjt rtrim_fc)<|CAll.cons (cI_ok rsplit_fc) zes
theorem okF1o:(eZ tP zmu bw [171]).OK:=JZ zkO
abbrev RG (b:Bool) (n:Nat) (q:List Int) (i:Int):St:=⟨sp 27 [(1,.lit (.bool b)),(5,.own 1 0 n 1),(6,lI i)],[.dead,.ints q true],[1,0]⟩
noncomputable section
theorem rsl_0 (b:Bool) (n:Nat) (q:List Int) (i:Int):RndI (eZ tP zmu bw [171]) 60 (kZ tP 167 0) 2 [] [1,5,6] [1,0] (RG b n q i) [1,1] [] [1,2,3,1,4,5,3,1,4,6] (Ex.normal) (⟨sp 27 [(1,.lit (.bool b)),(5,.own 1 0 n 1),(6,aI (i+1))],[.dead,.ints (q.set (0+i.toNat*1) (0-q.getD (0+i.toNat*1) 0)) true],[1,0]⟩) [decide (i<(n:Int))=true,b=true,decide (0≤i)=true,decide (0+i.toNat*1<q.length)=true,inR .i64 (0-q.getD (0+i.toNat*1) 0)=true,inR .i64 (i+1)=true]:={}
theorem rsl_1 (b:Bool) (n:Nat) (q:List Int) (i:Int):RndI (eZ tP zmu bw [171]) 60 (kZ tP 167 0) 2 [] [1,5,6] [1,0] (RG b n q i) [1,0] [] [1,2] (Ex.exit 0) (⟨sp 27 [(1,.lit (.bool b)),(5,.own 1 0 n 1),(6,aI i)],[.dead,.ints q true],[1,0]⟩) [decide (i<(n:Int))=true,b=false]:={}
theorem rsl_2 (b:Bool) (n:Nat) (q:List Int) (i:Int):RndI (eZ tP zmu bw [171]) 60 (kZ tP 167 0) 2 [] [1,5,6] [1,0] (RG b n q i) [0] [] [1] (Ex.exit 0) (⟨sp 27 [(1,.lit (.bool b)),(5,.own 1 0 n 1),(6,aI i)],[.dead,.ints q true],[1,0]⟩) [decide (i<(n:Int))=false]:={}
theorem rsf_0 (l:List Int) (n N:Nat) (b:Bool) (q:List Int) (i:Int):FunI (eZ tP zmu bw [171]) 60 167 [.sq l,.lit (.bool b)] [] [none,some (zdZ tP (kZ tP 171 0) [] [0,3] [] (RT l (l.length:Int)) (.exit 0,RT l n)),some (zdZ tP (kZ tP 167 0) [] [1,5,6] [1,0] (RG b N (l.take n) 0) (.exit 0,RG b N q i))] [0,1,0,0,2,3,4,0,5,6,7,8] (.sq (q.take N)) [Loops 0 tP (kZ tP 171 0) ⟨sp 23 [(0,.sq l),(3,aI (l.length:Int))],[],[]⟩ (Ex.exit 0,⟨sp 23 [(0,.sq l),(3,aI (n:Int))],[],[]⟩),decide ((n:Int)≤(l.length:Int))=true,decide ((0+((l.take (n:Int).toNat).drop 0).length)*8≤140737488355328)=true,decide (0+((l.take (n:Int).toNat).drop 0).length≤4611686018427387904)=true,decide (((l.take (n:Int).toNat).drop 0).length=((l.take (n:Int).toNat).drop 0).length)=true,(⟨sp 27 [(1,.lit (.bool b)),(5,.own 1 0 (0+((l.take (n:Int).toNat).drop 0).length) 1),(6,aI 0)],[.dead,.ints (List.take 0 []++(l.take (n:Int).toNat).drop 0) true],[1,0]⟩:St)=⟨sp 27 [(1,.lit (.bool b)),(5,.own 1 0 N 1),(6,aI 0)],[.dead,.ints (l.take n) true],[1,0]⟩,Loops 2 tP (kZ tP 167 0) ⟨sp 27 [(1,.lit (.bool b)),(5,.own 1 0 N 1),(6,aI 0)],[.dead,.ints (l.take n) true],[1,0]⟩ (Ex.exit 0,⟨sp 27 [(1,.lit (.bool b)),(5,.own 1 0 N 1),(6,aI i)],[.dead,.ints q true],[1,0]⟩),N≤q.length]:={}
end
theorem rs_loop (N:Nat) (hN:N≤1048576):∀(suf pre:List Int),pre.length+suf.length=N→(∀d∈suf,-9223372036854775807≤d∧d≤9223372036854775807) →
 Loops 2 tP (kZ tP 167 0) (RG true N (pre++suf) pre.length) (.exit 0,RG true N (pre++suf.map fun d=>-d) N)
 | [],pre,hl,_=>by
  have e:pre.length=N:=by simpa using hl
  rw [e]
  exact Loops.fin (LS.of okF1o (rsl_2 true N (pre++[]) N) (.cons (by simp) .nil)) (by simp [Ex.toExit])
 | d :: suf,pre,hl,hd=>by
  have hl':pre.length+(suf.length+1)=N:=by simpa using hl
  have hnat:0+Int.toNat (pre.length:Int)*1=pre.length:=by omega
  have hg:(pre++d :: suf).getD pre.length 0=d:=by simp [List.getD]
  have hs:(pre++d :: suf).set pre.length (0-d)=(pre++[-d])++suf:=by
   rw [List.set_append_right _ _ (Nat.le_refl _),Nat.sub_self,List.set_cons_zero,Int.zero_sub];simp
  have hdd:=hd d (by simp)
  have h:=LS.of okF1o (rsl_0 true N (pre++d :: suf) pre.length) (by rw [hnat,hg];(repeat' (first | exact AllC.nil | refine AllC.cons ?_ ?_));all_goals (first | (with_reducible rfl) | (with_reducible exact inR64.2 (by omega)) | (refine decide_eq_true ?_;first | omega | (simp<;>omega))))
  rw [hnat,hg,hs] at h
  have k:=rs_loop N hN suf (pre++[-d]) (by simp;omega) (fun x hx=>hd x (by simp [hx]))
  have e1:((pre++[-d]).length:Int)=(pre.length:Int)+1:=by simp
  have e2:(pre++[-d])++suf.map (fun d=>-d)=pre++(d :: suf).map fun d=>-d:=by simp
  rw [e1,e2] at k
  exact Loops.go h k
def pSg (l:List Int):Prop:=l.length≤1048576∧∀d∈l,-9223372036854775807≤d∧d≤9223372036854775807
def zlW (b:Bool) (l:List Int):List Int:=match b with | true=>(trm l).map fun d=>-d | false=>trm l
theorem zrg (l:List Int) (b:Bool) (h:pSg l):FC tP 167 [.sq l,.lit (.bool b)] (.sq (zlW b l)):=by
 obtain ⟨h0,hd⟩:=h
 obtain ⟨m,h1,h2,h3⟩:=zei l h0 l.length (Nat.le_refl _)
 rw [List.take_length] at h2
 have hlen:(l.take m).length=m:=by rw [List.length_take];omega
 have hm:∀d∈l.take m,-9223372036854775807≤d∧d≤9223372036854775807:=fun d hx=>hd d (List.mem_of_mem_take hx)
 have hn:Int.toNat (m:Int)=m:=by omega
 have key:∃(q:List Int) (i:Int),q.take m=zlW b l∧Loops 2 tP (kZ tP 167 0) (RG b m (l.take m) 0) (.exit 0,RG b m q i)∧q.length=m:=by
  cases b with
  | true=>exact ⟨(l.take m).map fun d=>-d,m,by rw [List.take_of_length_le (by simp;omega),h2];rfl,rs_loop m (by omega) (l.take m) [] (by simpa using hlen) hm,by simp;omega⟩
  | false=>
   refine ⟨l.take m,0,by rw [List.take_of_length_le (by omega),h2];rfl,?_,hlen⟩
   by_cases hz:m=0
   ·subst hz;exact Loops.fin (LS.of okF1o (rsl_2 false 0 (l.take 0) 0) (.cons (by simp) .nil)) (by simp [Ex.toExit])
   ·exact Loops.fin (LS.of okF1o (rsl_1 false m (l.take m) 0) (.cons (decide_eq_true (by omega)) (.cons rfl .nil))) (by simp [Ex.toExit])
 obtain ⟨q,i,k1,k2,k3⟩:=key
 have e:=rsf_0 l m m b q i
 rw [hn] at e
 have e0:0+List.length (List.drop 0 (List.take m l))=m:=by simp;omega
 have e1:List.take 0 []++List.drop 0 (List.take m l)=l.take m:=by simp
 rw [e0,e1] at e
 have:=lZ okF1o e (by(repeat' (first | exact AllC.nil | refine AllC.cons ?_ ?_));all_goals (first | (with_reducible exact viaL_ok) | (with_reducible exact h3) | (with_reducible exact k2) | (with_reducible rfl) | (refine decide_eq_true ?_;simp<;>omega) | omega | (simp<;>omega) | (simp;done)))
 rw [k1] at this
 exact this
def cLB (p:List Int→Prop) [∀l,Tst (p l)] (r:Bool→List Int→AV) (args:List AV):M AV:=match args with
 | [x,y]=>do
  let l ← ofOpt 280 (ints? x)
  let b ← ofOpt 281 (asB y)
  tellD (p l) (Tst.b (p l))
  gives (r b l)
 | _=>fail 282
theorem cLB_ok {P:Program} {f:FuncId} {p:List Int→Prop} [∀l,Tst (p l)] {r:Bool→List Int→AV} (h:∀l b,p l→FC P f [.sq l,.lit (.bool b)] (r b l)):jZ P f (cLB p r):=by
 intro args _
 unfold cLB
 split
 ·exact Spec.bind (Spec.ofOpt fun l hl=>Spec.bind (Spec.ofOpt fun b hb=>Spec.bind (Spec.tellD Tst.ok fun hp=>Spec.gives ((h l b hp).le (.cons (fun E v hv=>hv.toSq hl) (.cons (Le.ofBool hb) .nil)) (Le.refl _)))))
 ·exact Spec.fail
def ctrF2:Ctr:=(167,cLB pSg (fun b l=>.sq (zlW b l))) :: zmu
theorem zkP:∀p∈ctrF2,jZ tP p.1 p.2:=CAll.cons (cLB_ok zrg) zkO
theorem zeF:(eZ tP ctrF2 bw).OK:=JZ zkP
noncomputable section
abbrev zfP (s:St) (r:Ex × St):Prop:=Loops 0 tP (kZ tP 135 0) s r
abbrev zb2 (a:List Int):St:=⟨sp 92 [(0,.sq a),(3,aN),(4,aI 0),(5,aI 0)],[],[]⟩
abbrev zhS (a:List Int) (b:Nat) (c d:Int) (e:List Int):St:=⟨sp 92 [(0,.sq a),(3,.own 0 0 b 1),(4,aI c),(5,aI d)],[.ints e true],[]⟩
abbrev zof (a:List Int):St:=⟨sp 92 [(0,.sq a),(3,aN),(4,aI 0),(5,aI 0)],[],[]⟩
abbrev zbm (a:List Int) (b:Nat) (c d:Int) (e:List Int):St:=⟨sp 92 [(0,.sq a),(3,.own 0 0 b 1),(4,aI c),(5,aI d)],[.ints e true],[]⟩
theorem rn_L0_0_0 (a:List Int) (h1:0<(a.length:Int)) (h2:0<a.length) (h3:cZ (a.getD 0 0)) (h4:r64 (a.getD 0 0 % 100000000+0)) (h5:cZ (a.getD 0 0 % 100000000+0)) (h6:r64 (a.getD 0 0 / 100000000+(a.getD 0 0 % 100000000+0) / 100000000)):LG zfP (zb2 a) (zhS a (1) (a.getD 0 0 / 100000000+(a.getD 0 0 % 100000000+0) / 100000000) (1) ([(a.getD 0 0 % 100000000+0) % 100000000])):=Loops.go (LS.at zeF 60 [1] [0,3,4,5] [] [1] (.t h1<|.t h2<|.c h3<|.i h4<|.c h5<|.c (show decide ((List.take 1 [(a.getD 0 0 % 100000000+0) % 100000000]).length=1)=true from decide_eq_true rfl)<|.i h6<|.e) [1,0,1,2,3,4,5,0,0,0,6,7,0])
theorem rn_L0_0_1 (a:List Int) (h1:¬(0<(a.length:Int))):zfP (zb2 a) (Ex.exit 0,(zof a)):=LF (LS.at zeF 60 [] [0,3,4,5] [] [0] (.f h1<|.e) [1])
theorem rn_L0_1_0 (a:List Int) (b:Nat) (d f:Int) (g:List Int) (h1:f<(a.length:Int)) (h2:0≤f) (h3:f.toNat<a.length) (h4:cZ (a.getD f.toNat 0)) (h5:r64 (a.getD f.toNat 0 % 100000000+d)) (h6:cZ (a.getD f.toNat 0 % 100000000+d)) (h7:(b+1)*8≤140737488355328) (h8:b+1≤4611686018427387904) (h9:b≤g.length) (h10:r64 (a.getD f.toNat 0 / 100000000+(a.getD f.toNat 0 % 100000000+d) / 100000000)) (h11:r64 (f+1)):LG zfP (zhS a b d f g) (zhS a (b+1) (a.getD f.toNat 0 / 100000000+(a.getD f.toNat 0 % 100000000+d) / 100000000) (f+1) (g.take b++List.take 1 [(a.getD f.toNat 0 % 100000000+d) % 100000000])):=Loops.go (LS.at zeF 60 [2] [0,3,4,5] [] [1] (.t h1<|.t h2<|.t h3<|.c h4<|.i h5<|.c h6<|.t h7<|.t h8<|.t h9<|.c (show decide ((List.take 1 [(a.getD f.toNat 0 % 100000000+d) % 100000000]).length=1)=true from decide_eq_true rfl)<|.i h10<|.i h11<|.e) [1,2,1,3,4,5,6,7,8,9,10,11,12])
theorem rn_L0_1_1 (a:List Int) (b:Nat) (c d:Int) (g:List Int) (h1:¬(d<(a.length:Int))):zfP (zhS a b c d g) (Ex.exit 0,(zbm a b c d g)):=LF (LS.at zeF 60 [0] [0,3,4,5] [] [0] (.f h1<|.e) [1])
abbrev rn_L1 (s:St) (r:Ex × St):Prop:=Loops 0 tP (kZ tP 135 1) s r
abbrev rn_L1_0:St:=⟨sp 92 [(3,aN),(4,aI 0)],[],[]⟩
abbrev zog:St:=⟨sp 92 [(3,aN),(4,aI 0)],[],[]⟩
theorem rn_L1_0_0:rn_L1 rn_L1_0 (Ex.exit 2,zog):=LF (LS.at zeF 60 [] [3,4] [] [] (.e) [])
theorem rn_0 (x:List Int) (hL1:zfP (zb2 x) (Ex.exit 0,(zof x))) (hL2:rn_L1 rn_L1_0 (Ex.exit 2,zog)) (h3:pTr []):FC tP 135 [.sq x] (.sq []):=dZ zeF 60 [] (.v [0,3,4,5] [] hL1<|.v [3,4] [] hL2<|.c h3<|.e) [0,1,0,2,3]
abbrev zdL (s:St) (r:Ex × St):Prop:=Loops 1 tP (kZ tP 135 1) s r
abbrev zbc (a:Nat) (b:Int) (c:List Int):St:=⟨sp 92 [(3,.own 0 0 a 1),(4,aI b)],[.ints c true],[0]⟩
abbrev zfQ (a:Nat) (b:Int) (c:List Int) (d:Nat) (e:Int) (f:List Int):St:=⟨sp 92 [(3,.own 1 0 d 1),(4,aI e)],[.dead,.ints f true],[0]⟩
abbrev zcD (a:Nat) (b:Int) (c:List Int):St:=⟨sp 92 [(3,.own 0 0 a 1),(4,aI b)],[.ints c true],[0]⟩
abbrev zcE (a:Nat) (b:Int) (c:List Int) (d:Nat) (e:Int) (f:List Int):St:=⟨sp 92 [(3,.own 1 0 d 1),(4,aI e)],[.dead,.ints f true],[0]⟩
theorem rn_L2_0_0 (a:Nat) (b:Int) (d:List Int) (h1:b≠0) (h2:b≠-1) (h3:cZ b) (h4:(a+1)*8≤140737488355328) (h5:a+1≤4611686018427387904) (h6:a≤d.length):LG zdL (zbc a b d) (zfQ a b d (a+1) (b / 100000000) (d.take a++List.take 1 [b % 100000000])):=Loops.go (LS.at zeF 60 [2] [3,4] [0] [1,1] (.c (bne_iff_ne.2 h1)<|.c (bne_iff_ne.2 h2)<|.c h3<|.t h4<|.t h5<|.t h6<|.c (show decide ((List.take 1 [b % 100000000]).length=1)=true from decide_eq_true rfl)<|.e) [1,2,3,4,5,6,7])
theorem rn_L2_0_1 (a:Nat) (b:Int) (d:List Int) (h1:b≠0) (h2:b = -1):zdL (zbc a b d) (Ex.exit 2,(zcD a b d)):=LF (LS.at zeF 60 [] [3,4] [0] [1,0] (.c (bne_iff_ne.2 h1)<|.c (bne_eq_false_iff_eq.2 h2)<|.e) [1,2])
theorem rn_L2_0_2 (a:Nat) (b:Int) (d:List Int) (h1:b=0):zdL (zbc a b d) (Ex.exit 2,(zcD a b d)):=LF (LS.at zeF 60 [] [3,4] [0] [0] (.c (bne_eq_false_iff_eq.2 h1)<|.e) [1])
theorem rn_L2_1_0 (a:Nat) (b:Int) (d:List Int) (f:Nat) (g:Int) (i:List Int) (h1:g≠0) (h2:g≠-1) (h3:cZ g) (h4:(f+1)*8≤140737488355328) (h5:f+1≤4611686018427387904) (h6:f≤i.length):LG zdL (zfQ a b d f g i) (zfQ a b d (f+1) (g / 100000000) (i.take f++List.take 1 [g % 100000000])):=Loops.go (LS.at zeF 60 [3] [3,4] [0] [1,1] (.c (bne_iff_ne.2 h1)<|.c (bne_iff_ne.2 h2)<|.c h3<|.t h4<|.t h5<|.t h6<|.c (show decide ((List.take 1 [g % 100000000]).length=1)=true from decide_eq_true rfl)<|.e) [1,2,3,4,5,6,7])
theorem rn_L2_1_1 (a:Nat) (b:Int) (d:List Int) (f:Nat) (g:Int) (i:List Int) (h1:g≠0) (h2:g = -1):zdL (zfQ a b d f g i) (Ex.exit 2,(zcE a b d f g i)):=LF (LS.at zeF 60 [1] [3,4] [0] [1,0] (.c (bne_iff_ne.2 h1)<|.c (bne_eq_false_iff_eq.2 h2)<|.e) [1,2])
theorem zlM (a:Nat) (b:Int) (d:List Int) (f:Nat) (g:Int) (i:List Int) (h1:g=0):zdL (zfQ a b d f g i) (Ex.exit 2,(zcE a b d f g i)):=LF (LS.at zeF 60 [1] [3,4] [0] [0] (.c (bne_eq_false_iff_eq.2 h1)<|.e) [1])
theorem rn_1 (x:List Int) (a:Nat) (b d:Int) (f:List Int) (hL1:zfP (zb2 x) (Ex.exit 0,(zbm x a b d f))) (hL2:zdL (zbc a b f) (Ex.exit 2,(zcD a b f))) (h3:b=0) (h4:a≤f.length) (h5:pTr (f.take a)):FC tP 135 [.sq x] (.sq (trm (f.take a))):=dZ zeF 60 [1] (.v [0,3,4,5] [] hL1<|.v [3,4] [0] hL2<|.c (beq_iff_eq.2 h3)<|.c h4<|.c h5<|.e) [0,1,0,2,3,4,5]
abbrev ziJ (s:St) (r:Ex × St):Prop:=Loops 1 tP (kZ tP 135 2) s r
abbrev zfR (a:Nat) (b:List Int):St:=⟨sp 92 [(3,.own 0 0 a 1),(12,aN),(13,aI 0),(14,aI 0)],[.ints b true],[0]⟩
abbrev zde (a:Nat) (b:List Int) (c:Nat) (d e:Int) (f:List Int):St:=⟨sp 92 [(3,.own 0 0 a 1),(12,.own 1 0 c 1),(13,aI d),(14,aI e)],[.ints b true,.ints f true],[0]⟩
abbrev rn_L3_E0 (a:Nat) (b:List Int):St:=⟨sp 92 [(3,.own 0 0 a 1),(12,aN),(13,aI 0),(14,aI 0)],[.ints b true],[0]⟩
abbrev ze3 (a:Nat) (b:List Int) (c:Nat) (d e:Int) (f:List Int):St:=⟨sp 92 [(3,.own 0 0 a 1),(12,.own 1 0 c 1),(13,aI d),(14,aI e)],[.ints b true,.ints f true],[0]⟩
theorem rn_L3_0_0 (a:Nat) (b:List Int) (h1:0<(a:Int)) (h2:0<b.length) (h3:r64 (0-b.getD 0 0)) (h4:r64 (0-b.getD 0 0-0)) (h5:0-b.getD 0 0-0<0) (h6:r64 (0-b.getD 0 0-0+100000000)):LG ziJ (zfR a b) (zde a b (1) (1) (1) ([0-b.getD 0 0-0+100000000])):=Loops.go (LS.at zeF 60 [2] [3,12,13,14] [0] [1,1] (.t h1<|.t h2<|.i h3<|.i h4<|.t h5<|.i h6<|.c (show decide ((List.take 1 [0-b.getD 0 0-0+100000000]).length=1)=true from decide_eq_true rfl)<|.e) [1,0,1,2,3,4,5,6,0,0,0,7,0])
theorem rn_L3_0_1 (a:Nat) (b:List Int) (h1:0<(a:Int)) (h2:0<b.length) (h3:r64 (0-b.getD 0 0)) (h4:r64 (0-b.getD 0 0-0)) (h5:¬(0-b.getD 0 0-0<0)):LG ziJ (zfR a b) (zde a b (1) (0) (1) ([0-b.getD 0 0-0])):=Loops.go (LS.at zeF 60 [2] [3,12,13,14] [0] [1,0] (.t h1<|.t h2<|.i h3<|.i h4<|.f h5<|.c (show decide ((List.take 1 [0-b.getD 0 0-0]).length=1)=true from decide_eq_true rfl)<|.e) [1,0,1,2,3,4,5,0,0,0,6,0])
theorem rn_L3_0_2 (a:Nat) (b:List Int) (h1:¬(0<(a:Int))):ziJ (zfR a b) (Ex.exit 4,(rn_L3_E0 a b)):=LF (LS.at zeF 60 [] [3,12,13,14] [0] [0] (.f h1<|.e) [1])
theorem rn_L3_1_0 (a:Nat) (b:List Int) (d:Nat) (f g:Int) (j:List Int) (h1:g<(a:Int)) (h2:0≤g) (h3:0+g.toNat*1<b.length) (h4:r64 (0-b.getD (0+g.toNat*1) 0)) (h5:r64 (0-b.getD (0+g.toNat*1) 0-f)) (h6:0-b.getD (0+g.toNat*1) 0-f<0) (h7:r64 (0-b.getD (0+g.toNat*1) 0-f+100000000)) (h8:(d+1)*8≤140737488355328) (h9:d+1≤4611686018427387904) (h10:d≤j.length) (h11:r64 (g+1)):LG ziJ (zde a b d f g j) (zde a b (d+1) (1) (g+1) (j.take d++List.take 1 [0-b.getD (0+g.toNat*1) 0-f+100000000])):=Loops.go (LS.at zeF 60 [3] [3,12,13,14] [0] [1,1] (.t h1<|.t h2<|.t h3<|.i h4<|.i h5<|.t h6<|.i h7<|.t h8<|.t h9<|.t h10<|.c (show decide ((List.take 1 [0-b.getD (0+g.toNat*1) 0-f+100000000]).length=1)=true from decide_eq_true rfl)<|.i h11<|.e) [1,2,1,3,4,5,6,7,8,9,10,11,12])
theorem rn_L3_1_1 (a:Nat) (b:List Int) (d:Nat) (g j:Int) (l:List Int) (h1:j<(a:Int)) (h2:0≤j) (h3:0+j.toNat*1<b.length) (h4:r64 (0-b.getD (0+j.toNat*1) 0)) (h5:r64 (0-b.getD (0+j.toNat*1) 0-g)) (h6:¬(0-b.getD (0+j.toNat*1) 0-g<0)) (h7:(d+1)*8≤140737488355328) (h8:d+1≤4611686018427387904) (h9:d≤l.length) (h10:r64 (j+1)):LG ziJ (zde a b d g j l) (zde a b (d+1) (0) (j+1) (l.take d++List.take 1 [0-b.getD (0+j.toNat*1) 0-g])):=Loops.go (LS.at zeF 60 [3] [3,12,13,14] [0] [1,0] (.t h1<|.t h2<|.t h3<|.i h4<|.i h5<|.f h6<|.t h7<|.t h8<|.t h9<|.c (show decide ((List.take 1 [0-b.getD (0+j.toNat*1) 0-g]).length=1)=true from decide_eq_true rfl)<|.i h10<|.e) [1,2,1,3,4,5,6,7,8,9,10,11])
theorem rn_L3_1_2 (a:Nat) (b:List Int) (c:Nat) (d g:Int) (i:List Int) (h1:¬(g<(a:Int))):ziJ (zde a b c d g i) (Ex.exit 4,(ze3 a b c d g i)):=LF (LS.at zeF 60 [1] [3,12,13,14] [0] [0] (.f h1<|.e) [1])
theorem rn_3 (x:List Int) (a:Nat) (b d:Int) (f:List Int) (g:Nat) (i j:Int) (l:List Int) (hL1:zfP (zb2 x) (Ex.exit 0,(zbm x a b d f))) (hL2:zdL (zbc a b f) (Ex.exit 2,(zcD a b f))) (h3:b≠0) (hL3:ziJ (zfR a f) (Ex.exit 4,(ze3 a f g i j l))) (h5:i=0) (h6:(g+1)*8≤140737488355328) (h7:g+1≤4611686018427387904) (h8:g≤l.length) (h9:g+1≤(l.take g++List.take 1 [1]).length) (h10:pSg ((l.take g++List.take 1 [1]).take (g+1))):FC tP 135 [.sq x] (.sq (zlW true ((l.take g++List.take 1 [1]).take (g+1)))):=dZ zeF 60 [0,1] (.v [0,3,4,5] [] hL1<|.v [3,4] [0] hL2<|.c (beq_false_of_ne h3)<|.v [3,12,13,14] [0] hL3<|.c (beq_iff_eq.2 h5)<|.t h6<|.t h7<|.t h8<|.c h9<|.c h10<|.e) [0,1,0,2,3,0,4,5,6,7,8,0,9,10]
theorem rn_4 (x:List Int) (a:Nat) (b d:Int) (f:List Int) (g:Nat) (i j:Int) (l:List Int) (hL1:zfP (zb2 x) (Ex.exit 0,(zbm x a b d f))) (hL2:zdL (zbc a b f) (Ex.exit 2,(zcD a b f))) (h3:b≠0) (hL3:ziJ (zfR a f) (Ex.exit 4,(ze3 a f g i j l))) (h5:i≠0) (h6:g≤l.length) (h7:pSg (l.take g)):FC tP 135 [.sq x] (.sq (zlW true (l.take g))):=dZ zeF 60 [0,0] (.v [0,3,4,5] [] hL1<|.v [3,4] [0] hL2<|.c (beq_false_of_ne h3)<|.v [3,12,13,14] [0] hL3<|.c (beq_false_of_ne h5)<|.c h6<|.c h7<|.e) [0,1,0,2,3,0,4,5,6,7]
theorem rn_5 (x:List Int) (a:Nat) (b d:Int) (f:List Int) (g:Nat) (i:Int) (j:List Int) (hL1:zfP (zb2 x) (Ex.exit 0,(zbm x a b d f))) (hL2:zdL (zbc a b f) (Ex.exit 2,(zcE a b f g i j))) (h3:i=0) (h4:g≤j.length) (h5:pTr (j.take g)):FC tP 135 [.sq x] (.sq (trm (j.take g))):=dZ zeF 60 [1] (.v [0,3,4,5] [] hL1<|.v [3,4] [0] hL2<|.c (beq_iff_eq.2 h3)<|.c h4<|.c h5<|.e) [0,1,0,2,3,4,5]
abbrev zkg (s:St) (r:Ex × St):Prop:=Loops 2 tP (kZ tP 135 2) s r
abbrev zhT (a:Nat) (b:List Int):St:=⟨sp 92 [(3,.own 1 0 a 1),(12,aN),(13,aI 0),(14,aI 0)],[.dead,.ints b true],[0]⟩
abbrev zdf (a:Nat) (b:List Int) (c:Nat) (d e:Int) (f:List Int):St:=⟨sp 92 [(3,.own 1 0 a 1),(12,.own 2 0 c 1),(13,aI d),(14,aI e)],[.dead,.ints b true,.ints f true],[0]⟩
abbrev ze4 (a:Nat) (b:List Int) (c:Nat) (d e:Int) (f:List Int):St:=⟨sp 92 [(3,.own 1 0 a 1),(12,.own 2 0 c 1),(13,aI d),(14,aI e)],[.dead,.ints b true,.ints f true],[0]⟩
theorem rn_L4_0_0 (a:Nat) (b:List Int) (h1:0<(a:Int)) (h2:0<b.length) (h3:r64 (0-b.getD 0 0)) (h4:r64 (0-b.getD 0 0-0)) (h5:0-b.getD 0 0-0<0) (h6:r64 (0-b.getD 0 0-0+100000000)):LG zkg (zhT a b) (zdf a b (1) (1) (1) ([0-b.getD 0 0-0+100000000])):=Loops.go (LS.at zeF 60 [3] [3,12,13,14] [0] [1,1] (.t h1<|.t h2<|.i h3<|.i h4<|.t h5<|.i h6<|.c (show decide ((List.take 1 [0-b.getD 0 0-0+100000000]).length=1)=true from decide_eq_true rfl)<|.e) [1,0,1,2,3,4,5,6,0,0,0,7,0])
theorem rn_L4_0_1 (a:Nat) (b:List Int) (h1:0<(a:Int)) (h2:0<b.length) (h3:r64 (0-b.getD 0 0)) (h4:r64 (0-b.getD 0 0-0)) (h5:¬(0-b.getD 0 0-0<0)):LG zkg (zhT a b) (zdf a b (1) (0) (1) ([0-b.getD 0 0-0])):=Loops.go (LS.at zeF 60 [3] [3,12,13,14] [0] [1,0] (.t h1<|.t h2<|.i h3<|.i h4<|.f h5<|.c (show decide ((List.take 1 [0-b.getD 0 0-0]).length=1)=true from decide_eq_true rfl)<|.e) [1,0,1,2,3,4,5,0,0,0,6,0])
theorem rn_L4_1_0 (a:Nat) (b:List Int) (d:Nat) (f g:Int) (j:List Int) (h1:g<(a:Int)) (h2:0≤g) (h3:0+g.toNat*1<b.length) (h4:r64 (0-b.getD (0+g.toNat*1) 0)) (h5:r64 (0-b.getD (0+g.toNat*1) 0-f)) (h6:0-b.getD (0+g.toNat*1) 0-f<0) (h7:r64 (0-b.getD (0+g.toNat*1) 0-f+100000000)) (h8:(d+1)*8≤140737488355328) (h9:d+1≤4611686018427387904) (h10:d≤j.length) (h11:r64 (g+1)):LG zkg (zdf a b d f g j) (zdf a b (d+1) (1) (g+1) (j.take d++List.take 1 [0-b.getD (0+g.toNat*1) 0-f+100000000])):=Loops.go (LS.at zeF 60 [4] [3,12,13,14] [0] [1,1] (.t h1<|.t h2<|.t h3<|.i h4<|.i h5<|.t h6<|.i h7<|.t h8<|.t h9<|.t h10<|.c (show decide ((List.take 1 [0-b.getD (0+g.toNat*1) 0-f+100000000]).length=1)=true from decide_eq_true rfl)<|.i h11<|.e) [1,2,1,3,4,5,6,7,8,9,10,11,12])
theorem rn_L4_1_1 (a:Nat) (b:List Int) (d:Nat) (g j:Int) (l:List Int) (h1:j<(a:Int)) (h2:0≤j) (h3:0+j.toNat*1<b.length) (h4:r64 (0-b.getD (0+j.toNat*1) 0)) (h5:r64 (0-b.getD (0+j.toNat*1) 0-g)) (h6:¬(0-b.getD (0+j.toNat*1) 0-g<0)) (h7:(d+1)*8≤140737488355328) (h8:d+1≤4611686018427387904) (h9:d≤l.length) (h10:r64 (j+1)):LG zkg (zdf a b d g j l) (zdf a b (d+1) (0) (j+1) (l.take d++List.take 1 [0-b.getD (0+j.toNat*1) 0-g])):=Loops.go (LS.at zeF 60 [4] [3,12,13,14] [0] [1,0] (.t h1<|.t h2<|.t h3<|.i h4<|.i h5<|.f h6<|.t h7<|.t h8<|.t h9<|.c (show decide ((List.take 1 [0-b.getD (0+j.toNat*1) 0-g]).length=1)=true from decide_eq_true rfl)<|.i h10<|.e) [1,2,1,3,4,5,6,7,8,9,10,11])
theorem rn_L4_1_2 (a:Nat) (b:List Int) (c:Nat) (d g:Int) (i:List Int) (h1:¬(g<(a:Int))):zkg (zdf a b c d g i) (Ex.exit 4,(ze4 a b c d g i)):=LF (LS.at zeF 60 [2] [3,12,13,14] [0] [0] (.f h1<|.e) [1])
theorem rn_7 (x:List Int) (a:Nat) (b d:Int) (f:List Int) (g:Nat) (i:Int) (j:List Int) (l:Nat) (m n:Int) (o:List Int) (hL1:zfP (zb2 x) (Ex.exit 0,(zbm x a b d f))) (hL2:zdL (zbc a b f) (Ex.exit 2,(zcE a b f g i j))) (h3:i≠0) (hL3:zkg (zhT g j) (Ex.exit 4,(ze4 g j l m n o))) (h5:m=0) (h6:(l+1)*8≤140737488355328) (h7:l+1≤4611686018427387904) (h8:l≤o.length) (h9:l+1≤(o.take l++List.take 1 [1]).length) (h10:pSg ((o.take l++List.take 1 [1]).take (l+1))):FC tP 135 [.sq x] (.sq (zlW true ((o.take l++List.take 1 [1]).take (l+1)))):=dZ zeF 60 [0,1] (.v [0,3,4,5] [] hL1<|.v [3,4] [0] hL2<|.c (beq_false_of_ne h3)<|.v [3,12,13,14] [0] hL3<|.c (beq_iff_eq.2 h5)<|.t h6<|.t h7<|.t h8<|.c h9<|.c h10<|.e) [0,1,0,2,3,0,4,5,6,7,8,0,9,10]
theorem rn_8 (x:List Int) (a:Nat) (b d:Int) (f:List Int) (g:Nat) (i:Int) (j:List Int) (l:Nat) (m n:Int) (o:List Int) (hL1:zfP (zb2 x) (Ex.exit 0,(zbm x a b d f))) (hL2:zdL (zbc a b f) (Ex.exit 2,(zcE a b f g i j))) (h3:i≠0) (hL3:zkg (zhT g j) (Ex.exit 4,(ze4 g j l m n o))) (h5:m≠0) (h6:l≤o.length) (h7:pSg (o.take l)):FC tP 135 [.sq x] (.sq (zlW true (o.take l))):=dZ zeF 60 [0,0] (.v [0,3,4,5] [] hL1<|.v [3,4] [0] hL2<|.c (beq_false_of_ne h3)<|.v [3,12,13,14] [0] hL3<|.c (beq_false_of_ne h5)<|.c h6<|.c h7<|.e) [0,1,0,2,3,0,4,5,6,7]
end
theorem zfT (out:List Int) (d:Int):List.take out.length out++List.take 1 [d]=out++[d]:=by simp
theorem zaN {out:List Int} {d:Int} (h:Digs out) (h0:0≤d) (h1:d<100000000):Digs (out++[d]):=by
 intro e he
 rcases List.mem_append.1 he with h2 | h2
 ·exact h e h2
 ·simp at h2;subst h2;exact ⟨h0,h1⟩
theorem rnA:∀(m:Nat) (x:List Int) (i:Nat) (c:Int) (out:List Int),i+m=x.length→x.length≤1000000000→(∀d∈x,cZ d)→Digs out→out.length+m≤1000000000→-1000000000000≤c→c≤1000000000000 →
 ∃c' out',Digs out'∧out'.length=out.length+m∧vl out'+100000000 ^ out'.length*c'=vl out+100000000 ^ out.length*(c+vl (x.drop i))∧-1000000000000≤c'∧c'≤1000000000000 ∧
  zfP (zhS x out.length c i out) (.exit 0,zbm x out'.length c' x.length out'):=by
 intro m
 induction m with
 | zero=>
  intro x i c out hi hxl hx hd hl h1 h2
  have hi':i=x.length:=by omega
  subst hi'
  exact ⟨c,out,hd,rfl,by simp [vl],h1,h2,rn_L0_1_1 x out.length c x.length out (by omega)⟩
 | succ m ih=>
  intro x i c out hi hxl hx hd hl h1 h2
  have hlt:i<x.length:=by omega
  have hxi:=hx (x.getD i 0) (by simp [List.getD,hlt])
  have hdr:x.drop i=x.getD i 0 :: x.drop (i+1):=by rw [List.drop_eq_getElem_cons hlt];simp [List.getD,hlt]
  have hxi':=hxi
  unfold cZ at hxi'
  obtain ⟨c',out',k1,k2,k3,k4,k5,k6⟩:=ih x (i+1) (x.getD i 0 / 100000000+(x.getD i 0 % 100000000+c) / 100000000) (out++[(x.getD i 0 % 100000000+c) % 100000000]) (by omega) hxl hx
   (zaN hd (by omega) (by omega)) (by simp;omega) (by omega) (by omega)
  refine ⟨c',out',k1,by simp at k2;omega,?_,k4,k5,?_⟩
  ·rw [k3,hdr]
   exact zfX _ _ _ _ _ _ (by omega)
  ·have hn:Int.toNat (i:Int)=i:=by omega
   refine rn_L0_1_0 x out.length c i out (by omega) (by omega) (by omega) ?_ ?_ ?_ (by omega) (by omega) (by omega) ?_ (by omega) ?_<;>(try rw [hn])
   ·exact hxi
   ·omega
   ·unfold cZ;omega
   ·omega
   ·rw [zfT]
    simpa using k6
theorem rnB:∀(m:Nat) (p:Nat) (q:Int) (l:List Int) (c:Int) (out:List Int),c.natAbs≤m→-1000000000000≤c→c≤1000000000000→Digs out→out.length+m≤10000000000000 →
 ∃c' out',(c'=0∨c' = -1)∧Digs out'∧(out.length≤out'.length∧out'.length≤out.length+m)∧vl out'+100000000 ^ out'.length*c'=vl out+100000000 ^ out.length*c ∧
  zdL (zfQ p q l out.length c out) (.exit 2,zcE p q l out'.length c' out'):=by
 intro m
 induction m with
 | zero=>
  intro p q l c out hm h1 h2 hd hl
  have:c=0:=by omega
  subst this
  exact ⟨0,out,.inl rfl,hd,⟨Nat.le_refl _,by omega⟩,rfl,zlM p q l out.length 0 out rfl⟩
 | succ m ih=>
  intro p q l c out hm h1 h2 hd hl
  by_cases h0:c=0
  ·subst h0;exact ⟨0,out,.inl rfl,hd,⟨Nat.le_refl _,by omega⟩,rfl,zlM p q l out.length 0 out rfl⟩
  by_cases h3:c = -1
  ·subst h3;exact ⟨-1,out,.inr rfl,hd,⟨Nat.le_refl _,by omega⟩,rfl,rn_L2_1_1 p q l out.length (-1) out (by omega) rfl⟩
  obtain ⟨c',out',k1,k2,k3,k4,k5⟩:=ih p q l (c / 100000000) (out++[c % 100000000]) (by omega) (by omega) (by omega) (zaN hd (by omega) (by omega)) (by simp;omega)
  refine ⟨c',out',k1,k2,⟨by have:=k3.1;simp at this;omega,by have:=k3.2;simp at this;omega⟩,?_,?_⟩
  ·rw [k4]
   have:=zfX out 0 c (c % 100000000) (c / 100000000) 0 (by omega)
   simpa using this
  ·refine rn_L2_1_0 p q l out.length c out h0 h3 (by unfold cZ;omega) (by omega) (by omega) (by omega) ?_
   rw [zfT]
   simpa using k5
theorem rnC (LP:St→Ex × St→Prop) (F:Nat→Int→Int→List Int→St) (G:Nat→Int→Int→List Int→Ex × St) (out:List Int)
 (hs0:∀(k:Nat) (b:Int) (sz:List Int) (r:Ex × St),k<out.length→sz.length=k→(b=0∨b=1)→0-out.getD k 0-b<0→LP (F (k+1) 1 (k+1) (sz++[0-out.getD k 0-b+100000000])) r→LP (F k b k sz) r)
 (hs1:∀(k:Nat) (b:Int) (sz:List Int) (r:Ex × St),k<out.length→sz.length=k→(b=0∨b=1)→¬(0-out.getD k 0-b<0)→LP (F (k+1) 0 (k+1) (sz++[0-out.getD k 0-b])) r→LP (F k b k sz) r)
 (hx:∀(b:Int) (sz:List Int),LP (F out.length b out.length sz) (G out.length b out.length sz)) (hd:Digs out) :
 ∀(m k:Nat) (b:Int) (sz:List Int),k+m=out.length→sz.length=k→(b=0∨b=1)→Digs sz→vl sz=100000000 ^ k*b-vl (out.take k) →
  ∃b' sz',(b'=0∨b'=1)∧Digs sz'∧sz'.length=out.length∧vl sz'=100000000 ^ out.length*b'-vl out∧LP (F k b k sz) (G out.length b' out.length sz'):=by
 intro m
 induction m with
 | zero=>
  intro k b sz hk hl hb hs hv
  have:k=out.length:=by omega
  subst this
  rw [List.take_length] at hv
  exact ⟨b,sz,hb,hs,hl,hv,hx b sz⟩
 | succ m ih=>
  intro k b sz hk hl hb hs hv
  have hlt:k<out.length:=by omega
  have hg:out[k]=out.getD k 0:=by simp [List.getD,hlt]
  have hdk:=hd (out.getD k 0) (by simp [List.getD,hlt])
  have htk:out.take (k+1)=out.take k++[out.getD k 0]:=by rw [List.take_succ_eq_append_getElem hlt,hg]
  have hlk:(out.take k).length=k:=by simp;omega
  have a0:=hs0 k b sz
  have a1:=hs1 k b sz
  clear hg
  generalize out.getD k 0=d at *
  have val:∀(e b':Int),0-d-b=e-100000000*b'→vl (sz++[e])=100000000 ^ (k+1)*b'-vl (out.take (k+1)):=by
   intro e b' he
   rw [htk,zbG,zbG,hl,hlk,hv,Int.pow_succ]
   have:e=100000000*b'-d-b:=by omega
   rw [this,Int.mul_sub,Int.mul_sub,← Int.mul_assoc]
   omega
  by_cases h:0-d-b<0
  ·obtain ⟨b',sz',k1,k2,k3,k4,k5⟩:=ih (k+1) 1 (sz++[0-d-b+100000000]) (by omega) (by simp [hl]) (.inr rfl) (zaN hs (by omega) (by omega)) (val _ _ (by omega))
   exact ⟨b',sz',k1,k2,k3,k4,a0 _ hlt hl hb h (by simpa using k5)⟩
  ·obtain ⟨b',sz',k1,k2,k3,k4,k5⟩:=ih (k+1) 0 (sz++[0-d-b]) (by omega) (by simp [hl]) (.inl rfl) (zaN hs (by omega) (by omega)) (val _ _ (by omega))
   exact ⟨b',sz',k1,k2,k3,k4,a1 _ hlt hl hb h (by simpa using k5)⟩
theorem rnL3 (out:List Int) (hd:Digs out) (hne:out≠[]) (hl:out.length≤10000000000000) :
 ∃b' sz',(b'=0∨b'=1)∧Digs sz'∧sz'.length=out.length∧vl sz'=100000000 ^ out.length*b'-vl out∧ziJ (zfR out.length out) (.exit 4,ze3 out.length out out.length b' out.length sz'):=by
 have h0:0<out.length:=List.length_pos_iff.2 hne
 have hd0:=hd (out.getD 0 0) (by simp [List.getD,h0])
 have hg:out[0]=out.getD 0 0:=by simp [List.getD,h0]
 have ht:out.take 1=[out.getD 0 0]:=by rw [List.take_succ_eq_append_getElem h0,hg];rfl
 have key:=rnC ziJ (fun n b k sz=>zde out.length out n b k sz) (fun n b k sz=>(.exit 4,ze3 out.length out n b k sz)) out
  (fun k b sz r hk hs hb h kk=>by
   have hdk:=hd (out.getD k 0) (by simp [List.getD,hk])
   have hn:0+Int.toNat (k:Int)*1=k:=by omega
   refine rn_L3_1_0 out.length out k b k sz (by omega) (by omega) ?_ ?_ ?_ ?_ ?_ (by omega) (by omega) (by omega) (by omega) ?_<;>rw [hn]
   ·omega
   ·omega
   ·rcases hb with rfl | rfl<;>omega
   ·exact h
   ·rcases hb with rfl | rfl<;>omega
   ·have:=zfT sz (0-out.getD k 0-b+100000000)
    rw [hs] at this
    rw [this];exact kk)
  (fun k b sz r hk hs hb h kk=>by
   have hdk:=hd (out.getD k 0) (by simp [List.getD,hk])
   have hn:0+Int.toNat (k:Int)*1=k:=by omega
   refine rn_L3_1_1 out.length out k b k sz (by omega) (by omega) ?_ ?_ ?_ ?_ (by omega) (by omega) (by omega) (by omega) ?_<;>rw [hn]
   ·omega
   ·omega
   ·rcases hb with rfl | rfl<;>omega
   ·exact h
   ·have:=zfT sz (0-out.getD k 0-b)
    rw [hs] at this
    rw [this];exact kk)
  (fun b sz=>rn_L3_1_2 out.length out out.length b out.length sz (by omega)) hd
 by_cases h:0-out.getD 0 0-0<0
 ·obtain ⟨b',sz',k1,k2,k3,k4,k5⟩:=key (out.length-1) 1 1 [0-out.getD 0 0-0+100000000] (by omega) rfl (.inr rfl) (zaN (out:=[]) (fun d hd=>by cases hd) (by omega) (by omega)) (by rw [ht];simp only [vl];omega)
  exact ⟨b',sz',k1,k2,k3,k4,rn_L3_0_0 out.length out (by omega) (by omega) (by omega) (by omega) h (by omega) k5⟩
 ·obtain ⟨b',sz',k1,k2,k3,k4,k5⟩:=key (out.length-1) 1 0 [0-out.getD 0 0-0] (by omega) rfl (.inl rfl) (zaN (out:=[]) (fun d hd=>by cases hd) (by omega) (by omega)) (by rw [ht];simp only [vl];omega)
  exact ⟨b',sz',k1,k2,k3,k4,rn_L3_0_1 out.length out (by omega) (by omega) (by omega) (by omega) h k5⟩
theorem rnL4 (out:List Int) (hd:Digs out) (hne:out≠[]) (hl:out.length≤10000000000000) :
 ∃b' sz',(b'=0∨b'=1)∧Digs sz'∧sz'.length=out.length∧vl sz'=100000000 ^ out.length*b'-vl out∧zkg (zhT out.length out) (.exit 4,ze4 out.length out out.length b' out.length sz'):=by
 have h0:0<out.length:=List.length_pos_iff.2 hne
 have hd0:=hd (out.getD 0 0) (by simp [List.getD,h0])
 have hg:out[0]=out.getD 0 0:=by simp [List.getD,h0]
 have ht:out.take 1=[out.getD 0 0]:=by rw [List.take_succ_eq_append_getElem h0,hg];rfl
 have key:=rnC zkg (fun n b k sz=>zdf out.length out n b k sz) (fun n b k sz=>(.exit 4,ze4 out.length out n b k sz)) out
  (fun k b sz r hk hs hb h kk=>by
   have hdk:=hd (out.getD k 0) (by simp [List.getD,hk])
   have hn:0+Int.toNat (k:Int)*1=k:=by omega
   refine rn_L4_1_0 out.length out k b k sz (by omega) (by omega) ?_ ?_ ?_ ?_ ?_ (by omega) (by omega) (by omega) (by omega) ?_<;>rw [hn]
   ·omega
   ·omega
   ·rcases hb with rfl | rfl<;>omega
   ·exact h
   ·rcases hb with rfl | rfl<;>omega
   ·have:=zfT sz (0-out.getD k 0-b+100000000)
    rw [hs] at this
    rw [this];exact kk)
  (fun k b sz r hk hs hb h kk=>by
   have hdk:=hd (out.getD k 0) (by simp [List.getD,hk])
   have hn:0+Int.toNat (k:Int)*1=k:=by omega
   refine rn_L4_1_1 out.length out k b k sz (by omega) (by omega) ?_ ?_ ?_ ?_ (by omega) (by omega) (by omega) (by omega) ?_<;>rw [hn]
   ·omega
   ·omega
   ·rcases hb with rfl | rfl<;>omega
   ·exact h
   ·have:=zfT sz (0-out.getD k 0-b)
    rw [hs] at this
    rw [this];exact kk)
  (fun b sz=>rn_L4_1_2 out.length out out.length b out.length sz (by omega)) hd
 by_cases h:0-out.getD 0 0-0<0
 ·obtain ⟨b',sz',k1,k2,k3,k4,k5⟩:=key (out.length-1) 1 1 [0-out.getD 0 0-0+100000000] (by omega) rfl (.inr rfl) (zaN (out:=[]) (fun d hd=>by cases hd) (by omega) (by omega)) (by rw [ht];simp only [vl];omega)
  exact ⟨b',sz',k1,k2,k3,k4,rn_L4_0_0 out.length out (by omega) (by omega) (by omega) (by omega) h (by omega) k5⟩
 ·obtain ⟨b',sz',k1,k2,k3,k4,k5⟩:=key (out.length-1) 1 0 [0-out.getD 0 0-0] (by omega) rfl (.inl rfl) (zaN (out:=[]) (fun d hd=>by cases hd) (by omega) (by omega)) (by rw [ht];simp only [vl];omega)
  exact ⟨b',sz',k1,k2,k3,k4,rn_L4_0_1 out.length out (by omega) (by omega) (by omega) (by omega) h k5⟩
theorem znU {out:List Int} (hd:Digs out):trm out=aZ (vl out):=by
 rw [zas hd]
 have:=FZ hd
 unfold aZ
 rw [if_neg (by omega)]
 congr 1;omega
theorem nf_neg {sz:List Int} (hd:Digs sz) (h:0<vl sz):zlW true sz=aZ (-vl sz):=by
 unfold zlW aZ
 rw [if_pos (by omega),zas hd,show(-vl sz).natAbs=(vl sz).toNat by omega]
theorem nf_cpl {out sz:List Int} {b v:Int} (ho:Digs out) (hs:Digs sz) (hl:sz.length=out.length) (hb:b=0∨b=1) (hv:vl out-100000000 ^ out.length=v) (hz:vl sz=100000000 ^ out.length*b-vl out) :
 (b=0→zlW true (sz++[1])=aZ v)∧(b≠0→zlW true sz=aZ v):=by
 have h1:=zfW ho
 have h2:=FZ hs
 have h3:=FZ ho
 constructor
 ·rintro rfl
  have e:vl (sz++[1]) = -v:=by rw [zbG,hl];omega
  rw [nf_neg (zaN hs (by decide) (by decide)) (by omega),e,Int.neg_neg]
 ·intro h0
  have hb1:b=1:=by omega
  subst hb1
  have e:vl sz = -v:=by omega
  rw [nf_neg hs (by omega),e,Int.neg_neg]
theorem zjE {l:List Int} (hd:Digs l) (hl:l.length≤1048576):pSg l:=⟨hl,fun d h=>by have:=hd d h;omega⟩
def pNm (x:List Int):Prop:=x.length≤1000000∧∀d∈x,cZ d
theorem zpE (x:List Int) (h:pNm x):FC tP 135 [.sq x] (.ni (vl x)):=by
 obtain ⟨hx,hp⟩:=h
 have toNi:∀ {l:List Int},l=aZ (vl x)→FC tP 135 [.sq x] (.sq l)→FC tP 135 [.sq x] (.ni (vl x)):=fun hl hf=>hf.res fun E v hr=>hr.toNi rfl hl
 cases x with
 | nil=>exact toNi rfl (rn_0 [] (rn_L0_0_1 [] (by simp)) rn_L1_0_0 (by unfold pTr;simp))
 | cons d x=>
  have hd:=hp d (by simp)
  have hd':=hd
  unfold cZ at hd'
  obtain ⟨c,out,a1,a2,a3,a4,a5,a6⟩:=rnA x.length (d :: x) 1 (d / 100000000+(d % 100000000+0) / 100000000) [(d % 100000000+0) % 100000000] (by simp;omega) (by simp at hx ⊢;omega) hp
   (zaN (out:=[]) (fun d hd=>by cases hd) (by omega) (by omega)) (by simp at hx ⊢;omega) (by omega) (by omega)
  have hL0:zfP (zb2 (d :: x)) (.exit 0,zbm (d :: x) out.length c (d :: x).length out):=
   rn_L0_0_0 (d :: x) (by simp<;>omega) (by simp) hd (by simp only [List.getD_cons_zero];omega) (by simp only [List.getD_cons_zero];unfold cZ;omega) (by simp only [List.getD_cons_zero];omega) a6
  have hv:vl out+100000000 ^ out.length*c=vl (d :: x):=by
   rw [a3]
   simp only [vl,List.length_singleton,List.drop_succ_cons,List.drop_zero,Int.pow_succ,Int.pow_zero]
   omega
  have hol:out.length≤1000000:=by simp at a2 hx;omega
  have hone:out≠[]:=by intro h;rw [h] at a2;simp at a2;omega
  have take_all2:∀l:List Int,l.take l.length=l:=fun l=>List.take_length
  by_cases c0:c=0
  ·have hL2:zdL (zbc out.length c out) (.exit 2,zcD out.length c out):=rn_L2_0_2 _ _ _ c0
   have:=rn_1 (d :: x) out.length c (d :: x).length out hL0 hL2 c0 (Nat.le_refl _) (by rw [take_all2];unfold pTr;omega)
   rw [take_all2] at this
   refine toNi ?_ this
   rw [znU a1,← hv,c0,Int.mul_zero,Int.add_zero]
  by_cases c1:c = -1
  ·have hL2:zdL (zbc out.length c out) (.exit 2,zcD out.length c out):=rn_L2_0_1 _ _ _ c0 c1
   obtain ⟨b,sz,k1,k2,k3,k4,k5⟩:=rnL3 out a1 hone (by omega)
   have hcp:=nf_cpl (v:=vl (d :: x)) a1 k2 k3 k1 (by rw [← hv,c1];omega) k4
   by_cases hb:b=0
   ·have es:=zfT sz 1
    rw [k3] at es
    have ea:List.take (out.length+1) (sz++[1])=sz++[1]:=List.take_of_length_le (by simp [k3])
    have hres:=rn_3 (d :: x) out.length c (d :: x).length out out.length b out.length sz hL0 hL2 c0 k5 hb (by omega) (by omega) (by omega) (by rw [es];simp [k3]) (by rw [es,ea];exact zjE (zaN k2 (by decide) (by decide)) (by simp;omega))
    rw [es,ea] at hres
    exact toNi (hcp.1 hb) hres
   ·have ea:List.take out.length sz=sz:=by rw [← k3];exact List.take_length
    have hres:=rn_4 (d :: x) out.length c (d :: x).length out out.length b out.length sz hL0 hL2 c0 k5 hb (by omega) (by rw [ea];exact zjE k2 (by omega))
    rw [ea] at hres
    exact toNi (hcp.2 hb) hres
  ·obtain ⟨c',out',e1,e2,e3,e4,e5⟩:=rnB (c / 100000000).natAbs out.length c out (c / 100000000) (out++[c % 100000000]) (Nat.le_refl _) (by omega) (by omega) (zaN a1 (by omega) (by omega)) (by simp;omega)
   have hL2:zdL (zbc out.length c out) (.exit 2,zcE out.length c out out'.length c' out'):=by
    refine rn_L2_0_0 _ _ _ c0 c1 (by unfold cZ;omega) (by omega) (by omega) (by omega) ?_
    rw [zfT];simpa using e5
   have hv':vl out'+100000000 ^ out'.length*c'=vl (d :: x):=by
    rw [e4,← hv]
    have:=zfX out 0 c (c % 100000000) (c / 100000000) 0 (by omega)
    simpa using this
   have hol':out'.length≤1048000:=by have:=e3.2;simp at this;omega
   have hone':out'≠[]:=by intro h;have:=e3.1;rw [h] at this;simp at this
   rcases e1 with rfl | rfl
   ·have:=rn_5 (d :: x) out.length c (d :: x).length out out'.length 0 out' hL0 hL2 rfl (Nat.le_refl _) (by rw [take_all2];unfold pTr;omega)
    rw [take_all2] at this
    refine toNi ?_ this
    rw [znU e2,← hv',Int.mul_zero,Int.add_zero]
   ·obtain ⟨b,sz,k1,k2,k3,k4,k5⟩:=rnL4 out' e2 hone' (by omega)
    have hcp:=nf_cpl (v:=vl (d :: x)) e2 k2 k3 k1 (by rw [← hv'];omega) k4
    by_cases hb:b=0
    ·have es:=zfT sz 1
     rw [k3] at es
     have ea:List.take (out'.length+1) (sz++[1])=sz++[1]:=List.take_of_length_le (by simp [k3])
     have hres:=rn_7 (d :: x) out.length c (d :: x).length out out'.length (-1) out' out'.length b out'.length sz hL0 hL2 (by decide) k5 hb (by omega) (by omega) (by omega) (by rw [es];simp [k3]) (by rw [es,ea];exact zjE (zaN k2 (by decide) (by decide)) (by simp;omega))
     rw [es,ea] at hres
     exact toNi (hcp.1 hb) hres
    ·have ea:List.take out'.length sz=sz:=by rw [← k3];exact List.take_length
     have hres:=rn_8 (d :: x) out.length c (d :: x).length out out'.length (-1) out' out'.length b out'.length sz hL0 hL2 (by decide) k5 hb (by omega) (by rw [ea];exact zjE k2 (by omega))
     rw [ea] at hres
     exact toNi (hcp.2 hb) hres
abbrev IN (a b:List Int) (i:Int):St:=⟨sp 26 [(0,.sq a),(1,.sq b),(4,.ff),(5,lI i)],[],[]⟩
noncomputable section
theorem xA_0 (x y:List Int):FunI (eZ tP zaL bw) 60 62 [.sq x,.sq y] [] [] [1,2,0,0,3,0,4] (.ni (vl x+vl y)) [za2 x,za2 y,pDD (vl x) (vl y),dl (vl x+vl y)≤1048576]:={}
theorem xS_0 (x y:List Int):FunI (eZ tP zaL bw) 60 61 [.sq x,.sq y] [] [] [1,2,0,0,0,0,3,0,4] (.ni (vl x + -vl y)) [za2 x,za2 y,pDD (vl x) (-vl y),dl (vl x + -vl y)≤1048576]:={}
theorem xC_0 (x y:List Int):FunI (eZ tP zaL bw) 60 63 [.sq x,.sq y] [] [] [1,2,0,0,3] (aI (vl x-vl y).sign) [za2 x,za2 y,pDD (vl x) (vl y)]:={}
theorem xD_0 (x y:List Int):FunI (eZ tP zaL bw) 60 74 [.sq x,.sq y] [1] [] [1,0,0,2] (.tup [aN,aN,aI 12]) [za2 y,((vl y).sign==0)=true]:={}
theorem xD_1 (x y:List Int):FunI (eZ tP zaL bw) 60 74 [.sq x,.sq y] [0] [] [1,0,0,2,3,0,0,4,0,0,0,4,0,0,4,0,0,0,4,0,0,4,0,0,0,3,0,0,4,0,0,4,0,3,0,0,4,0,3,0,0,4,0,0,4,0,3,0,0,4,0,0,0,0,5,0,6] (.tup [.ni (vl x / vl y),.ni (vl x % vl y),aI 0]) [za2 y,((vl y).sign==0)=false,za2 x,zfL (vl x) (vl y),dl (vl x / vl y)≤1048576,dl (vl x % vl y)≤1048576]:={}
theorem inL_0 (a b:List Int) (i:Int):RndI (eZ tP zaL bw) 60 (kZ tP 55 0) 0 [] [0,1,4,5] [] (IN a b i) [1,1] [] [1,2,1,3,2,4,5,6] (Ex.ret) (⟨sp 26 [(0,.sq a),(1,.sq b),(4,.ff),(5,aI i)],[],[]⟩) [decide (i<(a.length:Int))=true,decide (0≤i)=true,decide (i.toNat<a.length)=true,decide (i<(b.length:Int))=true,decide (i.toNat<b.length)=true,(a.getD i.toNat 0 != b.getD i.toNat 0)=true]:={}
theorem inL_1 (a b:List Int) (i:Int):RndI (eZ tP zaL bw) 60 (kZ tP 55 0) 0 [] [0,1,4,5] [] (IN a b i) [1,0] [] [1,2,1,3,2,4,5,6,7] (Ex.normal) (⟨sp 26 [(0,.sq a),(1,.sq b),(4,.ff),(5,aI (i+1))],[],[]⟩) [decide (i<(a.length:Int))=true,decide (0≤i)=true,decide (i.toNat<a.length)=true,decide (i<(b.length:Int))=true,decide (i.toNat<b.length)=true,(a.getD i.toNat 0 != b.getD i.toNat 0)=false,inR .i64 (i+1)=true]:={}
theorem inL_2 (a b:List Int) (i:Int):RndI (eZ tP zaL bw) 60 (kZ tP 55 0) 0 [] [0,1,4,5] [] (IN a b i) [0] [] [1] (Ex.exit 0) (⟨sp 26 [(0,.sq a),(1,.sq b),(4,.ff),(5,aI i)],[],[]⟩) [decide (i<(a.length:Int))=false]:={}
theorem inE_1 (a b:List Int) (i:Int):FunI (eZ tP zaL bw) 60 55 [.sq a,.sq b] [0] [some (zdZ tP (kZ tP 55 0) [] [0,1,4,5] [] (IN a b 0) (.exit 0,IN a b i))] [1,0,2] (.tt) [((a.length:Int) != (b.length:Int))=false,Loops 0 tP (kZ tP 55 0) ⟨sp 26 [(0,.sq a),(1,.sq b),(4,.ff),(5,aI 0)],[],[]⟩ (Ex.exit 0,⟨sp 26 [(0,.sq a),(1,.sq b),(4,.ff),(5,aI i)],[],[]⟩)]:={}
theorem inR_1 (a b:List Int) (i:Int):FunI (eZ tP zaL bw) 60 55 [.sq a,.sq b] [0] [some (zdZ tP (kZ tP 55 0) [] [0,1,4,5] [] (IN a b 0) (.ret,IN a b i))] [1,0,2] (.ff) [((a.length:Int) != (b.length:Int))=false,Loops 0 tP (kZ tP 55 0) ⟨sp 26 [(0,.sq a),(1,.sq b),(4,.ff),(5,aI 0)],[],[]⟩ (Ex.ret,⟨sp 26 [(0,.sq a),(1,.sq b),(4,.ff),(5,aI i)],[],[]⟩)]:={}
theorem inN_0 (a b:List Int):FunI (eZ tP zaL bw) 60 55 [.sq a,.sq b] [1] [] [1] (.ff) [((a.length:Int) != (b.length:Int))=true]:={}
end
def pLs (x:List Int):Prop:=x.length≤1000∧∀d∈x,cZ d
theorem vl_le:∀(x:List Int),(∀d∈x,cZ d)→(vl x).natAbs+10000000000000000000≤10000000000000000000*100000000 ^ x.length
 | [],_=>by simp [vl]
 | d :: l,h=>by
  have h1:=h d (by simp)
  have h2:=vl_le l fun e he=>h e (by simp [he])
  unfold cZ at h1
  simp only [vl,List.length_cons,Nat.pow_succ]
  have h3:(d+100000000*vl l).natAbs≤d.natAbs+100000000*(vl l).natAbs:=by
   have:=Int.natAbs_add_le d (100000000*vl l)
   rw [Int.natAbs_mul] at this
   simpa using this
  have h4:d.natAbs≤9223372036854775808:=by omega
  generalize (vl l).natAbs=v at h2 h3
  generalize 100000000 ^ l.length=P at h2 ⊢
  omega
theorem vl_sz {x:List Int} (h:∀d∈x,cZ d):Sz (x.length+3) (vl x):=by
 have h1:=vl_le x h
 unfold Sz
 rw [Nat.pow_add]
 have:(100000000:Nat) ^ 3=1000000000000000000000000:=by decide
 rw [this]
 have h2:0<100000000 ^ x.length:=Nat.pow_pos (by decide)
 generalize 100000000 ^ x.length=P at h1 h2 ⊢
 omega
theorem zga {x:List Int} (h:pLs x):Sz 1003 (vl x):=(vl_sz h.2).mono (by have:=h.1;omega)
theorem zbl {x:List Int} (h:pLs x):za2 x:=⟨by have:=h.1;omega,h.2⟩
theorem szdl {k:Nat} {z:Int} (h:Sz k z) (hk:k≤1048576):List.length (digs (Int.natAbs z))≤1048576:=Nat.le_trans (zab z.natAbs k h) hk
def pXY (x y:List Int):Prop:=pLs x∧pLs y
section
variable {x y:List Int}
theorem add_fc (x y:List Int) (h:pXY x y):FC tP 62 [.sq x,.sq y] (.ni (vl x+vl y)):=by
 have a:=zga h.1;have b:=zga h.2;have rx:=zbl h.1;have ry:=zbl h.2
 have ix:SzC (vl x) 1003:=⟨a⟩
 have iy:SzC (vl y) 1003:=⟨b⟩
 exact lZ zhv (xA_0 x y) (.cons rx (.cons ry (.cons ⟨zdx (by decide),zdx (by decide)⟩ (.cons (szdl (SzC.ok (z:=vl x+vl y)) (by decide)) .nil))))
theorem sub_fc (x y:List Int) (h:pXY x y):FC tP 61 [.sq x,.sq y] (.ni (vl x-vl y)):=by
 have a:=zga h.1;have b:=zga h.2;have rx:=zbl h.1;have ry:=zbl h.2
 have ix:SzC (vl x) 1003:=⟨a⟩
 have iy:SzC (vl y) 1003:=⟨b⟩
 exact lZ zhv (xS_0 x y) (.cons rx (.cons ry (.cons ⟨zdx (by decide),zdx (by decide)⟩ (.cons (szdl (SzC.ok (z:=vl x + -vl y)) (by decide)) .nil))))
theorem cmp_fc (x y:List Int) (h:pXY x y):FC tP 63 [.sq x,.sq y] (lI (vl x-vl y).sign):=by
 have a:=zga h.1;have b:=zga h.2;have rx:=zbl h.1;have ry:=zbl h.2
 exact lZ zhv (xC_0 x y) (.cons rx (.cons ry (.cons ⟨rZ a (by decide),rZ b (by decide)⟩ .nil)))
end
theorem zoq (z:Int):(z.sign==0)=decide (z=0):=by
 by_cases h:z=0
 ·subst h;rfl
 ·have:z.sign≠0:=fun h1=>h (Int.sign_eq_zero_iff_zero.1 h1)
  simp [h,this]
def pD0 (x y:List Int):Prop:=pXY x y∧vl y=0
def pD1 (x y:List Int):Prop:=pXY x y∧vl y≠0
theorem div0_fc (x y:List Int) (h:pD0 x y):FC tP 74 [.sq x,.sq y] (.tup [.lit (.slice none 0 0),.lit (.slice none 0 0),lI 12]):=
 lZ zhv (xD_0 x y) (.cons (zbl h.1.2) (.cons (by rw [zoq];exact decide_eq_true h.2) .nil))
theorem div_sz {x y:Int} {k:Nat} (hx:Sz k x):Sz k (x / y):=hx.le (Int.natAbs_ediv_le_natAbs x y)
theorem mod_sz {x y:Int} {k:Nat} (hy:Sz k y) (h0:y≠0):Sz k (x % y):=by
 refine hy.le ?_
 have h1:=Int.emod_nonneg x h0
 have h2:=Int.emod_lt x h0
 omega
theorem div1_fc (x y:List Int) (h:pD1 x y):FC tP 74 [.sq x,.sq y] (.tup [.ni (vl x / vl y),.ni (vl x % vl y),lI 0]):=by
 obtain ⟨h,h0⟩:=h
 have a:=zga h.1;have b:=zga h.2;have rx:=zbl h.1;have ry:=zbl h.2
 have hov:zfL (vl x) (vl y):=⟨h0,rZ a (by decide),rZ b (by decide)⟩
 have h1:(Int.sign (vl y)==0)=false:=by rw [zoq];exact decide_eq_false h0
 have d1:=szdl (div_sz (y:=vl y) a) (by decide)
 have d2:=szdl (mod_sz (x:=vl x) b h0) (by decide)
 exact lZ zhv (xD_1 x y) (by(repeat' (first | exact AllC.nil | refine AllC.cons ?_ ?_));all_goals (first | (with_reducible rfl) | assumption | trivial | rfl))
theorem zlf (a b:List Int) (hl:a.length=b.length) (hs:a.length≤4611686018427387904):∀(k:Nat) (i:Nat),i+k=a.length →
 (a.drop i=b.drop i∧Loops 0 tP (kZ tP 55 0) (IN a b i) (.exit 0,IN a b a.length)) ∨
 (a.drop i≠b.drop i∧∃j:Int,Loops 0 tP (kZ tP 55 0) (IN a b i) (.ret,IN a b j))
 | 0,i,hi=>by
  obtain rfl:i=a.length:=by omega
  refine .inl ⟨?_,Loops.fin (LS.of zhv (inL_2 a b a.length) (.cons (decide_eq_false (by omega)) .nil)) (by simp [Ex.toExit])⟩
  rw [List.drop_length,hl,List.drop_length]
 | k + 1,i,hi=>by
  have hia:i<a.length:=by omega
  have hib:i<b.length:=by omega
  have ea:a.drop i=a.getD i 0 :: a.drop (i+1):=by rw [List.drop_eq_getElem_cons hia];simp [List.getD,hia]
  have eb:b.drop i=b.getD i 0 :: b.drop (i+1):=by rw [List.drop_eq_getElem_cons hib];simp [List.getD,hib]
  have hn:Int.toNat (i:Int)=i:=by omega
  by_cases h:a.getD i 0=b.getD i 0
  ·have hx:(a.getD i 0 != b.getD i 0)=false:=by simpa using h
   have hgo:=LS.of zhv (inL_1 a b i) (by rw [hn];(repeat' (first | exact AllC.nil | refine AllC.cons ?_ ?_));all_goals (first | (with_reducible exact hx) | (with_reducible exact inR64.2 (by omega)) | (refine decide_eq_true ?_;omega)))
   rcases zlf a b hl hs k (i+1) (by omega) with ⟨h1,h2⟩ | ⟨h1,j,h2⟩
   ·exact .inl ⟨by rw [ea,eb,h,h1],Loops.go hgo h2⟩
   ·exact .inr ⟨by rw [ea,eb];intro hh;exact h1 (List.cons.inj hh).2,j,Loops.go hgo h2⟩
  ·have hx:(a.getD i 0 != b.getD i 0)=true:=by simpa using h
   have hgo:=LS.of zhv (inL_0 a b i) (by rw [hn];(repeat' (first | exact AllC.nil | refine AllC.cons ?_ ?_));all_goals (first | (with_reducible exact hx) | (refine decide_eq_true ?_;omega)))
   exact .inr ⟨by rw [ea,eb];intro hh;exact h (List.cons.inj hh).1,i,Loops.fin hgo (by simp [Ex.toExit])⟩
def pIn (a b:List Int):Prop:=a.length≤1048576∧b.length≤1048576
theorem ints_fc (a b:List Int) (h:pIn a b):FC tP 55 [.sq a,.sq b] (.lit (.bool (decide (a=b)))):=by
 by_cases hl:a.length=b.length
 ·have hne:((a.length:Int) != (b.length:Int))=false:=by rw [hl];simp
  rcases zlf a b hl (by have:=h.1;omega) a.length 0 (by omega) with ⟨h1,h2⟩ | ⟨h1,j,h2⟩
  ·have e:a=b:=by simpa using h1
   have:=lZ zhv (inE_1 a b a.length) (.cons hne (.cons h2 .nil))
   refine this.res fun E v hv=>?_
   cases hv
   rw [decide_eq_true e];exact .lit _
  ·have e:a≠b:=by simpa using h1
   have:=lZ zhv (inR_1 a b j) (.cons hne (.cons h2 .nil))
   refine this.res fun E v hv=>?_
   rw [decide_eq_false e]
   first | exact hv | (cases hv;exact .lit _)
 ·have hne:((a.length:Int) != (b.length:Int))=true:=by simp;omega
  have:=lZ zhv (inN_0 a b) (.cons hne .nil)
  refine this.res fun E v hv=>?_
  have e:a≠b:=fun h=>hl (by rw [h])
  cases hv
  rw [decide_eq_false e];exact .lit _
def twoC (t:List AV→M Bool) (a b:List AV→M AV) (args:List AV):M AV:=do
 let d ← t args
 match d with
 | true=>a args
 | false=>b args
theorem twoC_ok {P:Program} {f:FuncId} {t:List AV→M Bool} {a b:List AV→M AV} (ha:jZ P f a) (hb:jZ P f b):jZ P f (twoC t a b):=by
 intro args hd
 unfold twoC
 refine Spec.bind ?_
 intro c s x s' cs _ _
 cases x
 ·exact hb args hd
 ·exact ha args hd
def tZero (args:List AV):M Bool:=match args with
 | [_,y]=>do
  let q ← ofOpt 270 (ints? y)
  dec (decide (vl q=0))
 | _=>fail 271
def ctrX:Ctr:=
 (62,cLL pXY (fun x y=>.ni (vl x+vl y))) :: (61,cLL pXY (fun x y=>.ni (vl x-vl y))) ::
 (63,cLL pXY (fun x y=>lI (vl x-vl y).sign)) ::
 (74,twoC tZero (cLL pD0 (fun _ _=>.tup [.lit (.slice none 0 0),.lit (.slice none 0 0),lI 12])) (cLL pD1 (fun x y=>.tup [.ni (vl x / vl y),.ni (vl x % vl y),lI 0]))) ::
 (55,cLL pIn (fun a b=>.lit (.bool (decide (a=b))))) :: zaL
theorem znC:∀p∈ctrX,jZ tP p.1 p.2:=
 CAll.cons (zbu add_fc)<|CAll.cons (zbu sub_fc)<|CAll.cons (zbu cmp_fc) <|
 CAll.cons (twoC_ok (zbu div0_fc) (zbu div1_fc))<|CAll.cons (zbu ints_fc) zes
def ctrF3:Ctr:=(135,cL pNm (fun x=>.ni (vl x))) :: ctrF2
theorem zkQ:∀p∈ctrF3,jZ tP p.1 p.2:=CAll.cons (zjt zpE) zkP
theorem zkx:(eZ tP ctrF3 bw).OK:=JZ zkQ
noncomputable section
theorem rne_0 (z:Int) (h1:(↑((aZ z).length):Int) > 0) (h2:r64 ((↑((aZ z).length):Int)-1)) (h3:0≤(↑((aZ z).length):Int)-1) (h4:(↑((aZ z).length):Int)-1<(↑((aZ z).length):Int)) (h5:((↑((aZ z).length):Int)-1).toNat<(aZ z).length):FC tP 154 [.ni z] (.lit (.bool (decide ((aZ z).getD ((↑((aZ z).length):Int)-1).toNat 0<0)))):=dZ zkx 60 [1] (.t h1<|.i h2<|.t h3<|.t h4<|.t h5<|.e) [1,2,3,4,5]
theorem rne_1 (z:Int) (h1:¬((↑((aZ z).length):Int) > 0)):FC tP 154 [.ni z] (.ff):=dZ zkx 60 [0] (.f h1<|.e) [1]
theorem rle_0 (a b:Int) (h1:(↑((aZ a).length):Int)≠(↑((aZ b).length):Int)):FC tP 187 [.ni a,.ni b] (.lit (.bool (decide ((↑((aZ a).length):Int)<(↑((aZ b).length):Int))))):=dZ zkx 60 [1] (.c (bne_iff_ne.2 h1)<|.e) [1]
abbrev zhN (s:St) (r:Ex × St):Prop:=Loops 0 tP (kZ tP 187 0) s r
abbrev zbR (a b c:Int):St:=⟨sp 41 [(0,.ni a),(1,.ni b),(5,aI c)],[],[]⟩
abbrev zhO (a b:Int) (c:Bool):St:=⟨sp 41 [(4,.lit (.bool c))],[],[]⟩
abbrev zhP (a b c:Int):St:=⟨sp 41 [(0,.ni a),(1,.ni b),(5,aI c)],[],[]⟩
theorem zqe (a b d:Int) (h1:d≥0) (h2:0≤d) (h3:d<(↑((aZ a).length):Int)) (h4:d.toNat<(aZ a).length) (h5:d<(↑((aZ b).length):Int)) (h6:d.toNat<(aZ b).length) (h7:(aZ a).getD d.toNat 0≠(aZ b).getD d.toNat 0):zhN (zbR a b d) (Ex.ret,(zhO a b (decide ((aZ a).getD d.toNat 0<(aZ b).getD d.toNat 0)))):=LF (LS.at zkx 60 [] [4] [] [1,1] (.t h1<|.t h2<|.t h3<|.t h4<|.t h5<|.t h6<|.c (bne_iff_ne.2 h7)<|.e) [1,2,3,4,2,5,6,7,2,3,4,2,5,6])
theorem zje (a b d:Int) (h1:d≥0) (h2:0≤d) (h3:d<(↑((aZ a).length):Int)) (h4:d.toNat<(aZ a).length) (h5:d<(↑((aZ b).length):Int)) (h6:d.toNat<(aZ b).length) (h7:(aZ a).getD d.toNat 0=(aZ b).getD d.toNat 0) (h8:r64 (d-1)):LG zhN (zbR a b d) (zbR a b (d-1)):=Loops.go (LS.at zkx 60 [] [0,1,5] [] [1,0] (.t h1<|.t h2<|.t h3<|.t h4<|.t h5<|.t h6<|.c (bne_eq_false_iff_eq.2 h7)<|.i h8<|.e) [1,2,3,4,2,5,6,7,8])
theorem zqf (a b c:Int) (h1:¬(c≥0)):zhN (zbR a b c) (Ex.exit 0,(zhP a b c)):=LF (LS.at zkx 60 [] [0,1,5] [] [0] (.f h1<|.e) [1])
theorem rle_1 (a b:Int) (d:Bool) (h1:(↑((aZ a).length):Int)=(↑((aZ b).length):Int)) (h2:r64 ((↑((aZ a).length):Int)-1)) (hL1:zhN (zbR a b ((↑((aZ a).length):Int)-1)) (Ex.ret,(zhO a b d))):FC tP 187 [.ni a,.ni b] (.lit (.bool d)):=dZ zkx 60 [0] (.c (bne_eq_false_iff_eq.2 h1)<|.i h2<|.v [0,1,5] [] hL1<|.e) [1,2,0,3]
theorem rle_2 (a b d:Int) (h1:(↑((aZ a).length):Int)=(↑((aZ b).length):Int)) (h2:r64 ((↑((aZ a).length):Int)-1)) (hL1:zhN (zbR a b ((↑((aZ a).length):Int)-1)) (Ex.exit 0,(zhP a b d))):FC tP 187 [.ni a,.ni b] (.ff):=dZ zkx 60 [0] (.c (bne_eq_false_iff_eq.2 h1)<|.i h2<|.v [0,1,5] [] hL1<|.e) [1,2,0,3]
abbrev zcO (s:St) (r:Ex × St):Prop:=Loops 0 tP (kZ tP 89 0) s r
abbrev zcz (a b:Int):St:=⟨sp 48 [(0,.ni a),(1,.ni b),(5,aN),(6,aI 0)],[],[]⟩
abbrev zaE (a b:Int) (c:Nat) (d:Int) (e:List Int):St:=⟨sp 48 [(0,.ni a),(1,.ni b),(5,.own 0 0 c 1),(6,aI d)],[.ints e true],[]⟩
abbrev zlE (a b:Int):St:=⟨sp 48 [(0,.ni a),(1,.ni b),(5,aN),(6,aI 0)],[],[]⟩
abbrev zeJ (a b:Int) (c:Nat) (d:Int) (e:List Int):St:=⟨sp 48 [(0,.ni a),(1,.ni b),(5,.own 0 0 c 1),(6,aI d)],[.ints e true],[]⟩
theorem zpF (a b:Int) (h1:0<(↑((aZ a).length):Int)) (h2:0<(aZ a).length) (h3:0<(↑((aZ b).length):Int)) (h4:0<(aZ b).length) (h5:r64 ((aZ a).getD 0 0+(aZ b).getD 0 0)):LG zcO (zcz a b) (zaE a b (1) (1) ([(aZ a).getD 0 0+(aZ b).getD 0 0])):=Loops.go (LS.at zkx 60 [1] [0,1,5,6] [] [1,1,1] (.t h1<|.t h2<|.t h3<|.t h4<|.i h5<|.c (show decide ((List.take 1 [(aZ a).getD 0 0+(aZ b).getD 0 0]).length=1)=true from decide_eq_true rfl)<|.e) [1,1,0,1,2,3,0,3,4,5,0,0,0,6,0])
theorem zpG (a b:Int) (h1:0<(↑((aZ a).length):Int)) (h2:0<(aZ a).length) (h3:¬(0<(↑((aZ b).length):Int))):LG zcO (zcz a b) (zaE a b (1) (1) ([(aZ a).getD 0 0])):=Loops.go (LS.at zkx 60 [1] [0,1,5,6] [] [1,1,0] (.t h1<|.t h2<|.f h3<|.c (show decide ((List.take 1 [(aZ a).getD 0 0]).length=1)=true from decide_eq_true rfl)<|.e) [1,1,0,1,2,3,0,0,0,4,0])
theorem zpH (a b:Int) (h1:¬(0<(↑((aZ a).length):Int))) (h2:0<(↑((aZ b).length):Int)) (h3:0<(aZ b).length) (h4:r64 (0+(aZ b).getD 0 0)):LG zcO (zcz a b) (zaE a b (1) (1) ([0+(aZ b).getD 0 0])):=Loops.go (LS.at zkx 60 [1] [0,1,5,6] [] [0,1,0,1] (.f h1<|.t h2<|.t h3<|.i h4<|.c (show decide ((List.take 1 [0+(aZ b).getD 0 0]).length=1)=true from decide_eq_true rfl)<|.e) [1,2,1,2,0,2,3,4,0,0,0,5,0])
theorem zpI (a b:Int) (h1:¬(0<(↑((aZ a).length):Int))) (h2:¬(0<(↑((aZ b).length):Int))):zcO (zcz a b) (Ex.exit 0,(zlE a b)):=LF (LS.at zkx 60 [] [0,1,5,6] [] [0,0] (.f h1<|.f h2<|.e) [1,2])
theorem zpJ (a b:Int) (d:Nat) (f:Int) (g:List Int) (h1:f<(↑((aZ a).length):Int)) (h2:0≤f) (h3:f.toNat<(aZ a).length) (h4:f<(↑((aZ b).length):Int)) (h5:f.toNat<(aZ b).length) (h6:r64 ((aZ a).getD f.toNat 0+(aZ b).getD f.toNat 0)) (h7:(d+1)*8≤140737488355328) (h8:d+1≤4611686018427387904) (h9:d≤g.length) (h10:r64 (f+1)):LG zcO (zaE a b d f g) (zaE a b (d+1) (f+1) (g.take d++List.take 1 [(aZ a).getD f.toNat 0+(aZ b).getD f.toNat 0])):=Loops.go (LS.at zkx 60 [2] [0,1,5,6] [] [1,1,1] (.t h1<|.t h2<|.t h3<|.t h4<|.t h5<|.i h6<|.t h7<|.t h8<|.t h9<|.c (show decide ((List.take 1 [(aZ a).getD f.toNat 0+(aZ b).getD f.toNat 0]).length=1)=true from decide_eq_true rfl)<|.i h10<|.e) [1,1,2,1,3,4,2,4,5,6,7,8,9,10,11])
theorem zpK (a b:Int) (d:Nat) (g:Int) (j:List Int) (h1:g<(↑((aZ a).length):Int)) (h2:0≤g) (h3:g.toNat<(aZ a).length) (h4:¬(g<(↑((aZ b).length):Int))) (h5:(d+1)*8≤140737488355328) (h6:d+1≤4611686018427387904) (h7:d≤j.length) (h8:r64 (g+1)):LG zcO (zaE a b d g j) (zaE a b (d+1) (g+1) (j.take d++List.take 1 [(aZ a).getD g.toNat 0])):=Loops.go (LS.at zkx 60 [2] [0,1,5,6] [] [1,1,0] (.t h1<|.t h2<|.t h3<|.f h4<|.t h5<|.t h6<|.t h7<|.c (show decide ((List.take 1 [(aZ a).getD g.toNat 0]).length=1)=true from decide_eq_true rfl)<|.i h8<|.e) [1,1,2,1,3,4,5,6,7,8,9])
theorem zpL (a b:Int) (d:Nat) (g:Int) (j:List Int) (h1:¬(g<(↑((aZ a).length):Int))) (h2:g<(↑((aZ b).length):Int)) (h3:0≤g) (h4:g.toNat<(aZ b).length) (h5:r64 (0+(aZ b).getD g.toNat 0)) (h6:(d+1)*8≤140737488355328) (h7:d+1≤4611686018427387904) (h8:d≤j.length) (h9:r64 (g+1)):LG zcO (zaE a b d g j) (zaE a b (d+1) (g+1) (j.take d++List.take 1 [0+(aZ b).getD g.toNat 0])):=Loops.go (LS.at zkx 60 [2] [0,1,5,6] [] [0,1,0,1] (.f h1<|.t h2<|.t h3<|.t h4<|.i h5<|.t h6<|.t h7<|.t h8<|.c (show decide ((List.take 1 [0+(aZ b).getD g.toNat 0]).length=1)=true from decide_eq_true rfl)<|.i h9<|.e) [1,2,1,2,3,2,4,5,6,7,8,9,10])
theorem zpM (a b:Int) (c:Nat) (d:Int) (g:List Int) (h1:¬(d<(↑((aZ a).length):Int))) (h2:¬(d<(↑((aZ b).length):Int))):zcO (zaE a b c d g) (Ex.exit 0,(zeJ a b c d g)):=LF (LS.at zkx 60 [0] [0,1,5,6] [] [0,0] (.f h1<|.f h2<|.e) [1,2])
theorem rad_0 (x y:List Int) (h1:pNm x) (h2:pNm y) (hL1:zcO (zcz (vl x) (vl y)) (Ex.exit 0,(zlE (vl x) (vl y)))) (h4:pNm []):FC tP 89 [.sq x,.sq y] (.ni 0):=dZ zkx 60 [] (.c h1<|.c h2<|.v [0,1,5,6] [] hL1<|.c h4<|.e) [1,2,0,3,4]
theorem rad_1 (x y:List Int) (a:Nat) (b:Int) (d:List Int) (h1:pNm x) (h2:pNm y) (hL1:zcO (zcz (vl x) (vl y)) (Ex.exit 0,(zeJ (vl x) (vl y) a b d))) (h4:a≤d.length) (h5:pNm (d.take a)):FC tP 89 [.sq x,.sq y] (.ni (vl (d.take a))):=dZ zkx 60 [] (.c h1<|.c h2<|.v [0,1,5,6] [] hL1<|.c h4<|.c h5<|.e) [1,2,0,3,4,5]
end
theorem gZ (z:Int):(aZ z).length=dl z:=by
 unfold aZ dl
 split<;>simp
theorem zhb {k:Nat} {z:Int} (h:Sz k z):dl z≤k:=zab _ _ h
theorem zc2 (z:Int):∀d∈aZ z,-100000000<d∧d<100000000:=by
 intro d hd
 have h:=oZ z.natAbs
 unfold aZ at hd
 split at hd
 ·obtain ⟨e,he,rfl⟩:=List.mem_map.1 hd
  have:=h e he;omega
 ·have:=h d hd;omega
theorem CZ (z:Int) (i:Nat):-100000000<(aZ z).getD i 0∧(aZ z).getD i 0<100000000:=by
 by_cases h:i<(aZ z).length
 ·exact zc2 z _ (by simp [List.getD,h])
 ·have:(aZ z).getD i 0=0:=by simp [List.getD,Nat.le_of_not_lt h]
  rw [this];omega
theorem dl_zero {z:Int}:dl z=0↔z=0:=by
 unfold dl
 rw [List.length_eq_zero_iff,zbI];omega
theorem digs_last {n:Nat} (h:n≠0):0<(digs n).getD ((digs n).length-1) 0:=by
 induction n using Nat.strongRecOn with
 | _ n ih=>
  rw [zbx n h]
  by_cases h1:n / 100000000=0
  ·rw [h1,QZ];simp;omega
  ·have:=ih (n / 100000000) (by omega) h1
   have hl:(digs (n / 100000000)).length≠0:=by rw [ne_eq,List.length_eq_zero_iff,zbI];exact h1
   have e:(((n % 100000000:Nat):Int) :: digs (n / 100000000)).length-1=(digs (n / 100000000)).length-1+1:=by simp;omega
   rw [e,List.getD_cons_succ];exact this
theorem zpu {z:Int} (h:z≠0):(decide ((aZ z).getD ((aZ z).length-1) 0<0))=decide (z<0):=by
 have h1:=digs_last (n:=z.natAbs) (by omega)
 unfold aZ
 by_cases hz:z<0
 ·rw [if_pos hz,decide_eq_true hz,List.length_map]
  have hlt:(digs z.natAbs).length-1<(digs z.natAbs).length:=by
   have:(digs z.natAbs).length≠0:=by rw [ne_eq,List.length_eq_zero_iff,zbI];omega
   omega
  have:((digs z.natAbs).map fun d=>-d).getD ((digs z.natAbs).length-1) 0 = -((digs z.natAbs).getD ((digs z.natAbs).length-1) 0):=by
   simp [List.getD,hlt]
  rw [this]
  exact decide_eq_true (by omega)
 ·rw [if_neg hz,decide_eq_false hz]
  exact decide_eq_false (by omega)
def pNg (z:Int):Prop:=Sz 1000000 z
instance tNg {z:Int}:Tst (pNg z):=inferInstanceAs (Tst (Sz 1000000 z))
theorem zlD (z:Int) (h:pNg z):FC tP 154 [.ni z] (.lit (.bool (decide (z<0)))):=by
 have hl:=zhb h
 by_cases hz:z=0
 ·subst hz
  have:=rne_1 0 (by rw [gZ];simp [dl,QZ])
  exact this.res fun E v hv=>by cases hv;exact .lit _
 ·have hd:dl z≠0:=fun h=>hz (dl_zero.1 h)
  have:=rne_0 z (by rw [gZ];omega) (by rw [gZ];omega) (by rw [gZ];omega) (by omega) (by rw [gZ];omega)
  have e:Int.toNat (((aZ z).length:Int)-1)=(aZ z).length-1:=by rw [gZ];omega
  rw [e,zpu hz] at this
  exact this
theorem rl_loop (a b:Int) (ha:0≤a) (hb:0≤b) (hl:dl a=dl b) (hs:dl a≤1000000):∀(i:Nat),i≤dl a→(aZ a).drop i=(aZ b).drop i →
    (a=b∧zhN (zbR a b ((i:Int)-1)) (.exit 0,zhP a b (-1)))∨(a≠b∧zhN (zbR a b ((i:Int)-1)) (.ret,zhO a b (decide (a<b))))
  | 0,_,hd=>.inl ⟨by rw [← bZ a,← bZ b];simpa using congrArg vl hd,zqf a b _ (by omega)⟩
  | i + 1, hi,hd=>by
    have la:=gZ a
    have lb:=gZ b
    have hn:Int.toNat (((i+1:Nat):Int)-1)=i:=by omega
    have hc:((i+1:Nat):Int)-1=(i:Int):=by omega
    have hia:i<(aZ a).length:=by omega
    have hib:i<(aZ b).length:=by omega
    have ea:(aZ a).drop i=(aZ a).getD i 0 :: (aZ a).drop (i+1):=by rw [List.drop_eq_getElem_cons hia];simp [List.getD,hia]
    have eb:(aZ b).drop i=(aZ b).getD i 0 :: (aZ b).drop (i+1):=by rw [List.drop_eq_getElem_cons hib];simp [List.getD,hib]
    rw [hc]
    have hn':Int.toNat (i:Int)=i:=by omega
    by_cases h:(aZ a).getD i 0=(aZ b).getD i 0
    · rcases rl_loop a b ha hb hl hs i (by omega) (by rw [ea,eb,h,hd]) with ⟨h1,h2⟩ | ⟨h1,h2⟩
      · exact .inl ⟨h1,zje a b i (by omega) (by omega) (by omega) (by omega) (by omega) (by omega) (by rw [hn'];exact h) (by omega) h2⟩
      · exact .inr ⟨h1,zje a b i (by omega) (by omega) (by omega) (by omega) (by omega) (by omega) (by rw [hn'];exact h) (by omega) h2⟩
    · have key:a≠b∧decide ((aZ a).getD i 0<(aZ b).getD i 0)=decide (a<b):=by
        have ha':aZ a=digs a.natAbs:=by unfold aZ;rw [if_neg (by omega)]
        have hb':aZ b=digs b.natAbs:=by unfold aZ;rw [if_neg (by omega)]
        have hda:Digs (aZ a):=by rw [ha'];exact oZ _
        have hdb:Digs (aZ b):=by rw [hb'];exact oZ _
        have va:a=vl ((aZ a).take i)+100000000 ^ i*((aZ a).getD i 0+100000000*vl ((aZ a).drop (i+1))):=by
          conv=>lhs;rw [← bZ a,← List.take_append_drop i (aZ a),zaK,ea]
          rw [List.length_take,Nat.min_eq_left (by omega)];rfl
        have vb:b=vl ((aZ b).take i)+100000000 ^ i*((aZ b).getD i 0+100000000*vl ((aZ a).drop (i+1))):=by
          conv=>lhs;rw [← bZ b,← List.take_append_drop i (aZ b),zaK,eb]
          rw [List.length_take,Nat.min_eq_left (by omega),hd];rfl
        have t1:Digs ((aZ a).take i):=fun d h=>hda d (List.mem_of_mem_take h)
        have t2:Digs ((aZ b).take i):=fun d h=>hdb d (List.mem_of_mem_take h)
        have u1:=zfW t1
        have u2:=zfW t2
        have w1:=FZ t1
        have w2:=FZ t2
        rw [List.length_take,Nat.min_eq_left (by omega)] at u1 u2
        generalize vl ((aZ a).drop (i+1))=V at va vb
        generalize (aZ a).getD i 0=p at va h ⊢
        generalize (aZ b).getD i 0=q at vb h ⊢
        generalize vl ((aZ a).take i)=s at va u1 w1
        generalize vl ((aZ b).take i)=t at vb u2 w2
        have pp:=pow_pos i
        generalize (100000000:Int) ^ i=P at *
        have hab:a-b=(s-t)+P*(p-q):=by rw [va,vb];grind
        rcases Int.lt_or_gt_of_ne h with h1 | h1
        · have:P*(p-q)≤-P:=by
            have:=Int.mul_le_mul_of_nonneg_left (show p-q≤-1 by omega) (Int.le_of_lt pp)
            omega
          exact ⟨by omega,by rw [decide_eq_true h1];exact(decide_eq_true (by omega)).symm⟩
        · have:P≤P*(p-q):=by
            have:=Int.mul_le_mul_of_nonneg_left (show 1≤p-q by omega) (Int.le_of_lt pp)
            omega
          exact ⟨by omega,by rw [decide_eq_false (by omega)];exact(decide_eq_false (by omega)).symm⟩
      have:=zqe a b i (by omega) (by omega) (by omega) (by omega) (by omega) (by omega) (by rw [hn'];exact h)
      rw [hn',key.2] at this
      exact .inr ⟨key.1,this⟩
def pLes (a b:Int):Prop:=(0≤a∧0≤b)∧Sz 1000000 a∧Sz 1000000 b
theorem znO {a b:Int} (ha:0≤a) (hb:0≤b) (h:dl a<dl b):a<b:=by
 rcases Int.lt_or_le a b with h1 | h1
 ·exact h1
 ·exfalso
  have h2:=zjD a.natAbs
  have h3:Sz (dl a) b:=by
   unfold Sz
   have:b.natAbs≤a.natAbs:=by omega
   exact Nat.lt_of_le_of_lt this h2
  have:=zhb h3
  omega
theorem rless_fc (a b:Int) (h:pLes a b):FC tP 187 [.ni a,.ni b] (.lit (.bool (decide (a<b)))):=by
 obtain ⟨⟨ha,hb⟩,sa,sb⟩:=h
 have la:=gZ a
 have lb:=gZ b
 have da:=zhb sa
 by_cases hl:dl a=dl b
 ·have e:((aZ a).length:Int)-1=((dl a:Nat):Int)-1:=by rw [la]
  rcases rl_loop a b ha hb hl da (dl a) (Nat.le_refl _) (by rw [List.drop_of_length_le (by omega),List.drop_of_length_le (by omega)]) with ⟨h1,h2⟩ | ⟨h1,h2⟩
  ·rw [← e] at h2
   have:=rle_2 a b _ (by omega) (by omega) h2
   refine this.res fun E v hv=>?_
   cases hv
   rw [decide_eq_false (by omega)];exact .lit _
  ·rw [← e] at h2
   exact rle_1 a b _ (by omega) (by omega) h2
 ·have:=rle_0 a b (by omega)
  refine this.res fun E v hv=>?_
  have e:decide (((aZ a).length:Int)<((aZ b).length:Int))=decide (a<b):=by
   rw [la,lb]
   rcases Nat.lt_or_gt_of_ne hl with h1 | h1
   ·rw [decide_eq_true (by omega),decide_eq_true (znO ha hb h1)]
   ·have:=znO hb ha h1
    rw [decide_eq_false (by omega),decide_eq_false (by omega)]
  rw [← e];exact hv
def zl2 (X Y:List Int) (n:Nat):List Int:=(List.range n).map fun k=>X.getD k 0+Y.getD k 0
theorem sums_succ (X Y:List Int) (n:Nat):zl2 X Y (n+1)=zl2 X Y n++[X.getD n 0+Y.getD n 0]:=by
 simp [zl2,List.range_succ]
theorem zh8 (X Y:List Int) (n:Nat):(zl2 X Y n).length=n:=by simp [zl2]
theorem zgQ:∀(n:Nat) (X:List Int),X.length≤n→vl ((List.range n).map fun k=>X.getD k 0)=vl X
 | 0,X,h=>by
  have:X=[]:=List.eq_nil_of_length_eq_zero (by omega)
  subst this;rfl
 | n+1,[],_=>by
  rw [List.range_succ_eq_map]
  have:=zgQ n [] (by simp)
  simp only [List.map_cons,List.map_map,vl]
  have e:((fun k=>([]:List Int).getD k 0) ∘ Nat.succ)=fun k=>([]:List Int).getD k 0:=by funext k;simp
  rw [e,this];rfl
 | n+1,x :: X,h=>by
  rw [List.range_succ_eq_map]
  have:=zgQ n X (by simpa using h)
  simp only [List.map_cons,List.map_map,vl,List.getD_cons_zero]
  have e:((fun k=>(x :: X).getD k 0) ∘ Nat.succ)=fun k=>X.getD k 0:=by funext k;simp
  rw [e,this]
theorem vl_sums (X Y:List Int) (n:Nat) (hx:X.length≤n) (hy:Y.length≤n):vl (zl2 X Y n)=vl X+vl Y:=by
 rw [← zgQ n X hx,← zgQ n Y hy]
 unfold zl2
 generalize List.range n=l
 induction l with
 | nil=>rfl
 | cons k l ih=>simp only [List.map_cons,vl,ih,Int.mul_add];omega
theorem ra_loop (a b:Int) (ha:dl a≤500000) (hb:dl b≤500000):∀(m i:Nat),i+m=max (dl a) (dl b) →
 zcO (zaE a b i i (zl2 (aZ a) (aZ b) i)) (.exit 0,zeJ a b (max (dl a) (dl b)) (max (dl a) (dl b):Nat) (zl2 (aZ a) (aZ b) (max (dl a) (dl b))))
 | 0,i,hi=>by
  have:i=max (dl a) (dl b):=by omega
  subst this
  have la:=gZ a
  have lb:=gZ b
  exact zpM a b _ _ _ (by omega) (by omega)
 | m + 1,i,hi=>by
  have la:=gZ a
  have lb:=gZ b
  have ih:=ra_loop a b ha hb m (i+1) (by omega)
  have hn:Int.toNat (i:Int)=i:=by omega
  have ga:=CZ a i
  have gb:=CZ b i
  have hs:=zh8 (aZ a) (aZ b) i
  have e0:=sums_succ (aZ a) (aZ b) i
  have tk:∀d,List.take i (zl2 (aZ a) (aZ b) i)++List.take 1 [d]=zl2 (aZ a) (aZ b) i++[d]:=fun d=>by
   have:=zfT (zl2 (aZ a) (aZ b) i) d
   rwa [hs] at this
  have hc:((i+1:Nat):Int)=(i:Int)+1:=by omega
  rw [e0,hc] at ih
  by_cases h1:i<dl a
  ·by_cases h2:i<dl b
   ·refine zpJ a b i i _ (by omega) (by omega) (by omega) (by omega) (by omega) (by rw [hn];omega) (by omega) (by omega) (by omega) (by omega) ?_
    rw [hn,tk];exact ih
   ·refine zpK a b i i _ (by omega) (by omega) (by omega) (by omega) (by omega) (by omega) (by omega) (by omega) ?_
    have:(aZ b).getD i 0=0:=by simp [List.getD,List.getElem?_eq_none (show(aZ b).length≤i by omega)]
    rw [this,Int.add_zero] at ih
    rw [hn,tk];exact ih
  ·refine zpL a b i i _ (by omega) (by omega) (by omega) (by omega) (by rw [hn];omega) (by omega) (by omega) (by omega) (by omega) ?_
   have:(aZ a).getD i 0=0:=by simp [List.getD,List.getElem?_eq_none (show(aZ a).length≤i by omega)]
   rw [this] at ih
   rw [hn,tk];exact ih
def pQ (N:Nat) (x:List Int):Prop:=x.length≤N∧∀d∈x,cZ d
theorem pQ.mono {M N:Nat} {x:List Int} (h:pQ M x) (hn:M≤N):pQ N x:=⟨Nat.le_trans h.1 hn,h.2⟩
theorem pQ.sz {N:Nat} {x:List Int} (h:pQ N x):Sz (N+3) (vl x):=(vl_sz h.2).mono (by have:=h.1;omega)
theorem fZ {k N:Nat} {z:Int} (h:Sz k z) (hk:k≤N):pQ N (aZ z):=
 ⟨by rw [gZ];exact Nat.le_trans (zhb h) hk,fun d hd=>by have:=zc2 z d hd;unfold cZ;omega⟩
def pAd (x y:List Int):Prop:=pQ 400000 x∧pQ 400000 y
theorem rAdd_fc (x y:List Int) (h:pAd x y):FC tP 89 [.sq x,.sq y] (.ni (vl x+vl y)):=by
 obtain ⟨hx,hy⟩:=h
 have px:pNm x:=hx.mono (by decide)
 have py:pNm y:=hy.mono (by decide)
 have da:=zhb hx.sz
 have db:=zhb hy.sz
 have la:=gZ (vl x)
 have lb:=gZ (vl y)
 by_cases h0:max (dl (vl x)) (dl (vl y))=0
 ·have zx:vl x=0:=dl_zero.1 (by omega)
  have zy:vl y=0:=dl_zero.1 (by omega)
  have:=rad_0 x y px py (zpI _ _ (by omega) (by omega)) ⟨by simp,fun d hd=>by cases hd⟩
  rw [zx,zy];exact this
 ·have hl:=ra_loop (vl x) (vl y) (by omega) (by omega) (max (dl (vl x)) (dl (vl y))-1) 1 (by omega)
  have ga:=CZ (vl x) 0
  have gb:=CZ (vl y) 0
  have e1:zl2 (aZ (vl x)) (aZ (vl y)) 1=[(aZ (vl x)).getD 0 0+(aZ (vl y)).getD 0 0]:=by simp [zl2]
  have hL:zcO (zcz (vl x) (vl y)) (.exit 0,zeJ (vl x) (vl y) (max (dl (vl x)) (dl (vl y))) (max (dl (vl x)) (dl (vl y)):Nat) (zl2 (aZ (vl x)) (aZ (vl y)) (max (dl (vl x)) (dl (vl y))))):=by
   rw [e1] at hl
   by_cases h1:0<dl (vl x)
   ·by_cases h2:0<dl (vl y)
    ·exact zpF _ _ (by omega) (by omega) (by omega) (by omega) (by omega) hl
    ·have:(aZ (vl y)).getD 0 0=0:=by simp [List.getD,List.getElem?_eq_none (show(aZ (vl y)).length≤0 by omega)]
     rw [this,Int.add_zero] at hl
     exact zpG _ _ (by omega) (by omega) (by omega) hl
   ·have:(aZ (vl x)).getD 0 0=0:=by simp [List.getD,List.getElem?_eq_none (show(aZ (vl x)).length≤0 by omega)]
    rw [this] at hl
    exact zpH _ _ (by omega) (by omega) (by omega) (by omega) hl
  have hs:=zh8 (aZ (vl x)) (aZ (vl y)) (max (dl (vl x)) (dl (vl y)))
  have htk:List.take (max (dl (vl x)) (dl (vl y))) (zl2 (aZ (vl x)) (aZ (vl y)) (max (dl (vl x)) (dl (vl y))))=zl2 (aZ (vl x)) (aZ (vl y)) (max (dl (vl x)) (dl (vl y))):=List.take_of_length_le (by omega)
  have:=rad_1 x y _ _ _ px py hL (by omega) (by
   rw [htk]
   refine ⟨by omega,fun d hd=>?_⟩
   obtain ⟨k,_,rfl⟩:=List.mem_map.1 hd
   have:=CZ (vl x) k
   have:=CZ (vl y) k
   unfold cZ;omega)
  rw [htk,vl_sums _ _ _ (by omega) (by omega),bZ,bZ] at this
  exact this
theorem Le.sqNi {x:List Int} (h:x=aZ (vl x)):Le (.sq x) (.ni (vl x)):=fun E v hv=>hv.toNi rfl h
def zpz (x y:List Int):Prop:=(x=aZ (vl x)∧y=aZ (vl y))∧pLes (vl x) (vl y)
instance tLesL {x y:List Int}:Tst (zpz x y):=⟨false,fun h=>by cases h⟩
theorem rlessL_fc (x y:List Int) (h:zpz x y):FC tP 187 [.sq x,.sq y] (.lit (.bool (decide (vl x<vl y)))):=
 (rless_fc _ _ h.2).le (.cons (Le.sqNi h.1.1) (.cons (Le.sqNi h.1.2) .nil)) (Le.refl _)
def ctrF4:Ctr:=(154,n1 pNg (fun z=>.lit (.bool (decide (z<0))))) :: (187,cLL zpz (fun x y=>.lit (.bool (decide (vl x<vl y))))) :: (89,cLL pAd (fun x y=>.ni (vl x+vl y))) :: ctrF3
theorem zkR:∀p∈ctrF4,jZ tP p.1 p.2:=CAll.cons (n1_ok zlD)<|CAll.cons (zbu rlessL_fc)<|CAll.cons (zbu rAdd_fc) zkQ
theorem ziE:(eZ tP ctrF4 bw).OK:=JZ zkR
noncomputable section
theorem rsz_0 (z:Int) (h1:pNg z) (h2:pSg (aZ z)):FC tP 168 [.ni z] (.sq (zlW (decide (z<0)) (aZ z))):=dZ ziE 60 [] (.c h1<|.c h2<|.e) [1,2]
theorem rng_0 (x:List Int) (h1:pNm x) (h2:pSg (aZ (vl x))):FC tP 131 [.sq x] (.sq (zlW true (aZ (vl x)))):=dZ ziE 60 [] (.c h1<|.c h2<|.e) [1,2]
theorem rsg_0 (x:List Int) (h1:pNm x) (h2:(↑((aZ (vl x)).length):Int)=0):FC tP 117 [.sq x] (aI 0):=dZ ziE 60 [1] (.c h1<|.c (beq_iff_eq.2 h2)<|.e) [1,2]
theorem rsg_1 (x:List Int) (h1:pNm x) (h2:(↑((aZ (vl x)).length):Int)≠0) (h3:pNg (vl x)) (h4:vl x<0):FC tP 117 [.sq x] (aI (-1)):=dZ ziE 60 [0,1] (.c h1<|.c (beq_false_of_ne h2)<|.c h3<|.t h4<|.e) [1,2,3,4]
theorem rsg_2 (x:List Int) (h1:pNm x) (h2:(↑((aZ (vl x)).length):Int)≠0) (h3:pNg (vl x)) (h4:¬(vl x<0)):FC tP 117 [.sq x] (aI 1):=dZ ziE 60 [0,0] (.c h1<|.c (beq_false_of_ne h2)<|.c h3<|.f h4<|.e) [1,2,3,4]
abbrev zdV (s:St) (r:Ex × St):Prop:=Loops 0 tP (kZ tP 90 0) s r
abbrev zdF (a b:Int):St:=⟨sp 44 [(0,.ni a),(1,.ni b),(5,aN),(6,aI 0)],[],[]⟩
abbrev zbT (a b c d:Int):St:=⟨sp 44 [(0,.ni a),(1,.ni b),(5,.ni c),(6,aI d)],[],[]⟩
abbrev zlL (a b:Int):St:=⟨sp 44 [(0,.ni a),(1,.ni b),(5,aN),(6,aI 0)],[],[]⟩
abbrev ze2 (a b c d:Int):St:=⟨sp 44 [(0,.ni a),(1,.ni b),(5,.ni c),(6,aI d)],[],[]⟩
abbrev zhQ (s:St) (r:Ex × St):Prop:=Loops 1 tP (kZ tP 90 1) s r
abbrev zgG (a b:Int):St:=⟨sp 44 [(0,.ni a),(1,.ni b),(5,aN),(6,aI 0),(7,.own 0 0 0 1),(8,aI 0)],[.ints [] true],[0]⟩
abbrev zeY (a b:Int) (c:Nat) (d:Int) (e:List Int):St:=⟨sp 44 [(0,.ni a),(1,.ni b),(5,aN),(6,aI 0),(7,.own 1 0 c 1),(8,aI d)],[.dead,.ints e true],[0]⟩
abbrev zlJ (a b:Int):St:=⟨sp 44 [(0,.ni a),(1,.ni b),(5,aN),(6,aI 0),(7,.own 0 0 0 1),(8,aI 0)],[.ints [] true],[0]⟩
abbrev zhR (a b:Int) (c:Nat) (d:Int) (e:List Int):St:=⟨sp 44 [(0,.ni a),(1,.ni b),(5,aN),(6,aI 0),(7,.own 1 0 c 1),(8,aI d)],[.dead,.ints e true],[0]⟩
theorem zqn (a b:Int) (h1:0<(↑((aZ b).length):Int)) (h2:0<(↑((aZ a).length):Int)) (h3:0<(aZ a).length) (h4:0<(aZ b).length) (h5:r64 ((aZ a).getD 0 0*(aZ b).getD 0 0)):LG zhQ (zgG a b) (zeY a b (1) (1) ([(aZ a).getD 0 0*(aZ b).getD 0 0])):=Loops.go (LS.at ziE 60 [2] [0,1,5,6,7,8] [0] [1] (.t h1<|.t h2<|.t h3<|.t h4<|.i h5<|.c (show decide ((List.take 1 [(aZ a).getD 0 0*(aZ b).getD 0 0]).length=1)=true from decide_eq_true rfl)<|.e) [1,0,2,3,0,1,4,5,0,0,0,6,0])
theorem zqo (a b:Int) (h1:¬(0<(↑((aZ b).length):Int))):zhQ (zgG a b) (Ex.exit 2,(zlJ a b)):=LF (LS.at ziE 60 [] [0,1,5,6,7,8] [0] [0] (.f h1<|.e) [1])
theorem zqp (a b:Int) (d:Nat) (f:Int) (g:List Int) (h1:f<(↑((aZ b).length):Int)) (h2:0<(↑((aZ a).length):Int)) (h3:0<(aZ a).length) (h4:0≤f) (h5:f.toNat<(aZ b).length) (h6:r64 ((aZ a).getD 0 0*(aZ b).getD f.toNat 0)) (h7:(d+1)*8≤140737488355328) (h8:d+1≤4611686018427387904) (h9:d≤g.length) (h10:r64 (f+1)):LG zhQ (zeY a b d f g) (zeY a b (d+1) (f+1) (g.take d++List.take 1 [(aZ a).getD 0 0*(aZ b).getD f.toNat 0])):=Loops.go (LS.at ziE 60 [3] [0,1,5,6,7,8] [0] [1] (.t h1<|.t h2<|.t h3<|.t h4<|.t h5<|.i h6<|.t h7<|.t h8<|.t h9<|.c (show decide ((List.take 1 [(aZ a).getD 0 0*(aZ b).getD f.toNat 0]).length=1)=true from decide_eq_true rfl)<|.i h10<|.e) [1,0,2,3,4,1,5,6,7,8,9,10,11])
theorem zqq (a b:Int) (c:Nat) (d:Int) (g:List Int) (h1:¬(d<(↑((aZ b).length):Int))):zhQ (zeY a b c d g) (Ex.exit 2,(zhR a b c d g)):=LF (LS.at ziE 60 [1] [0,1,5,6,7,8] [0] [0] (.f h1<|.e) [1])
theorem zqv (a b:Int) (h1:0<(↑((aZ a).length):Int)) (hL1:zhQ (zgG a b) (Ex.exit 2,(zlJ a b))) (h3:0≤0) (h4:pAd [] (List.take 0 [])):LG zdV (zdF a b) (zbT a b (0) (1)):=Loops.go (LS.at ziE 60 [] [0,1,5,6] [] [1] (.t h1<|.v [0,1,5,6,7,8] [0] hL1<|.c h3<|.c h4<|.e) (ux [1,1005,2,3,4,0]))
theorem zqw (a b:Int) (d:Nat) (f:Int) (g:List Int) (h1:0<(↑((aZ a).length):Int)) (hL1:zhQ (zgG a b) (Ex.exit 2,(zhR a b d f g))) (h3:d≤g.length) (h4:pAd [] (g.take d)):LG zdV (zdF a b) (zbT a b (0+vl (g.take d)) (1)):=Loops.go (LS.at ziE 60 [] [0,1,5,6] [] [1] (.t h1<|.v [0,1,5,6,7,8] [0] hL1<|.c h3<|.c h4<|.e) (ux [1,1005,2,3,4,0]))
theorem zqx (a b:Int) (h1:¬(0<(↑((aZ a).length):Int))):zdV (zdF a b) (Ex.exit 0,(zlL a b)):=LF (LS.at ziE 60 [] [0,1,5,6] [] [0] (.f h1<|.e) [1])
abbrev zgg (s:St) (r:Ex × St):Prop:=Loops 1 tP (kZ tP 90 1) s r
abbrev zeZ (a b c d:Int) (e:Nat) (f:List Int):St:=⟨sp 44 [(0,.ni a),(1,.ni b),(5,.ni c),(6,aI d),(7,.own 0 0 e 1),(8,aI 0)],[.ints f true],[0]⟩
abbrev ze0 (a b c d:Int) (e:Nat) (f:List Int) (g:Nat) (i:Int) (j:List Int):St:=⟨sp 44 [(0,.ni a),(1,.ni b),(5,.ni c),(6,aI d),(7,.own 1 0 g 1),(8,aI i)],[.dead,.ints j true],[0]⟩
abbrev zlK (a b c d:Int) (e:Nat) (f:List Int):St:=⟨sp 44 [(0,.ni a),(1,.ni b),(5,.ni c),(6,aI d),(7,.own 0 0 e 1),(8,aI 0)],[.ints f true],[0]⟩
abbrev ze1 (a b c d:Int) (e:Nat) (f:List Int) (g:Nat) (i:Int) (j:List Int):St:=⟨sp 44 [(0,.ni a),(1,.ni b),(5,.ni c),(6,aI d),(7,.own 1 0 g 1),(8,aI i)],[.dead,.ints j true],[0]⟩
theorem zqr (a b d f:Int) (g:Nat) (j:List Int) (h1:0<(↑((aZ b).length):Int)) (h2:0≤f) (h3:f<(↑((aZ a).length):Int)) (h4:f.toNat<(aZ a).length) (h5:0<(aZ b).length) (h6:r64 ((aZ a).getD f.toNat 0*(aZ b).getD 0 0)) (h7:(g+1)*8≤140737488355328) (h8:g+1≤4611686018427387904) (h9:g≤j.length):LG zgg (zeZ a b d f g j) (ze0 a b d f g j (g+1) (1) (j.take g++List.take 1 [(aZ a).getD f.toNat 0*(aZ b).getD 0 0])):=Loops.go (LS.at ziE 60 [2] [0,1,5,6,7,8] [0] [1] (.t h1<|.t h2<|.t h3<|.t h4<|.t h5<|.i h6<|.t h7<|.t h8<|.t h9<|.c (show decide ((List.take 1 [(aZ a).getD f.toNat 0*(aZ b).getD 0 0]).length=1)=true from decide_eq_true rfl)<|.e) [1,2,3,4,0,1,5,6,7,8,9,10,0])
theorem zqs (a b c d:Int) (g:Nat) (i:List Int) (h1:¬(0<(↑((aZ b).length):Int))):zgg (zeZ a b c d g i) (Ex.exit 2,(zlK a b c d g i)):=LF (LS.at ziE 60 [] [0,1,5,6,7,8] [0] [0] (.f h1<|.e) [1])
theorem zqt (a b d f:Int) (g:Nat) (j:List Int) (l:Nat) (m:Int) (n:List Int) (h1:m<(↑((aZ b).length):Int)) (h2:0≤f) (h3:f<(↑((aZ a).length):Int)) (h4:f.toNat<(aZ a).length) (h5:0≤m) (h6:m.toNat<(aZ b).length) (h7:r64 ((aZ a).getD f.toNat 0*(aZ b).getD m.toNat 0)) (h8:(l+1)*8≤140737488355328) (h9:l+1≤4611686018427387904) (h10:l≤n.length) (h11:r64 (m+1)):LG zgg (ze0 a b d f g j l m n) (ze0 a b d f g j (l+1) (m+1) (n.take l++List.take 1 [(aZ a).getD f.toNat 0*(aZ b).getD m.toNat 0])):=Loops.go (LS.at ziE 60 [3] [0,1,5,6,7,8] [0] [1] (.t h1<|.t h2<|.t h3<|.t h4<|.t h5<|.t h6<|.i h7<|.t h8<|.t h9<|.t h10<|.c (show decide ((List.take 1 [(aZ a).getD f.toNat 0*(aZ b).getD m.toNat 0]).length=1)=true from decide_eq_true rfl)<|.i h11<|.e) [1,2,3,4,5,1,6,7,8,9,10,11,12])
theorem zqu (a b c d:Int) (g:Nat) (i:List Int) (j:Nat) (l:Int) (m:List Int) (h1:¬(l<(↑((aZ b).length):Int))):zgg (ze0 a b c d g i j l m) (Ex.exit 2,(ze1 a b c d g i j l m)):=LF (LS.at ziE 60 [1] [0,1,5,6,7,8] [0] [0] (.f h1<|.e) [1])
theorem zqy (a b d f:Int) (h1:f<(↑((aZ a).length):Int)) (h2:0≤f) (h3:f≤f) (h4:8*f≤281474976710656) (h5:f≤9223372036854775807) (hL1:zgg (zeZ a b d f f.toNat (zaj f.toNat)) (Ex.exit 2,(zlK a b d f f.toNat (zaj f.toNat)))) (h7:f.toNat≤(zaj f.toNat).length) (h8:pAd (aZ d) ((zaj f.toNat).take f.toNat)) (h9:r64 (f+1)):LG zdV (zbT a b d f) (zbT a b (vl (aZ d)+vl ((zaj f.toNat).take f.toNat)) (f+1)):=Loops.go (LS.at ziE 60 [] [0,1,5,6] [] [1] (.t h1<|.t h2<|.t h3<|.t h4<|.t h5<|.v [0,1,5,6,7,8] [0] hL1<|.c h7<|.c h8<|.i h9<|.e) [1,2,3,4,5,0,6,7,8,9])
theorem zqz (a b d f:Int) (g:Nat) (j:Int) (l:List Int) (h1:f<(↑((aZ a).length):Int)) (h2:0≤f) (h3:f≤f) (h4:8*f≤281474976710656) (h5:f≤9223372036854775807) (hL1:zgg (zeZ a b d f f.toNat (zaj f.toNat)) (Ex.exit 2,(ze1 a b d f f.toNat (zaj f.toNat) g j l))) (h7:g≤l.length) (h8:pAd (aZ d) (l.take g)) (h9:r64 (f+1)):LG zdV (zbT a b d f) (zbT a b (vl (aZ d)+vl (l.take g)) (f+1)):=Loops.go (LS.at ziE 60 [] [0,1,5,6] [] [1] (.t h1<|.t h2<|.t h3<|.t h4<|.t h5<|.v [0,1,5,6,7,8] [0] hL1<|.c h7<|.c h8<|.i h9<|.e) [1,2,3,4,5,0,6,7,8,9])
theorem zqA (a b c d:Int) (h1:¬(d<(↑((aZ a).length):Int))):zdV (zbT a b c d) (Ex.exit 0,(ze2 a b c d)):=LF (LS.at ziE 60 [] [0,1,5,6] [] [0] (.f h1<|.e) [1])
theorem rml_0 (x y:List Int) (h1:pNm x) (h2:pNm y) (hL1:zdV (zdF (vl x) (vl y)) (Ex.exit 0,(zlL (vl x) (vl y)))) (h4:pNm []):FC tP 90 [.sq x,.sq y] (.ni 0):=dZ ziE 60 [] (.c h1<|.c h2<|.v [0,1,5,6] [] hL1<|.c h4<|.e) [1,2,0,3,4]
theorem rml_1 (x y:List Int) (a b:Int) (h1:pNm x) (h2:pNm y) (hL1:zdV (zdF (vl x) (vl y)) (Ex.exit 0,(ze2 (vl x) (vl y) a b))) (h4:pNm (aZ a)):FC tP 90 [.sq x,.sq y] (.ni (vl (aZ a))):=dZ ziE 60 [] (.c h1<|.c h2<|.v [0,1,5,6] [] hL1<|.c h4<|.e) [1,2,0,3,4]
end
theorem znc (l:List Int):trm (l.map fun d=>-d)=(trm l).map fun d=>-d:=by
 induction l with
 | nil=>rfl
 | cons d l ih=>
  simp only [List.map_cons,trm,ih,List.map_eq_nil_iff]
  by_cases h:trm l=[]∧d=0
  ·rw [if_pos h,if_pos ⟨h.1,by omega⟩];rfl
  ·rw [if_neg h,if_neg (fun hh=>h ⟨hh.1,by omega⟩)];rfl
theorem zl5 (z:Int):trm (aZ z)=aZ z:=by
 unfold aZ
 split
 ·rw [znc,zcI]
 ·exact zcI _
theorem nform_neg (z:Int):(aZ z).map (fun d=>-d)=aZ (-z):=by
 unfold aZ
 by_cases h:z<0
 ·rw [if_pos h,if_neg (by omega),Int.natAbs_neg]
  generalize digs z.natAbs=l
  induction l with
  | nil=>rfl
  | cons d l ih=>simp only [List.map_cons,Int.neg_neg,ih]
 ·by_cases h0:z=0
  ·subst h0;simp [QZ]
  ·rw [if_neg h,if_pos (by omega),Int.natAbs_neg]
theorem zlX (z:Int):zlW true (aZ z)=aZ (-z):=by unfold zlW;simp only [zl5,nform_neg]
theorem zrk (z:Int):zlW false (aZ z)=aZ z:=by unfold zlW;simp only [zl5]
theorem zlA {z:Int} (h:Sz 1000000 z):pSg (aZ z):=⟨by rw [gZ];have:=zhb h;omega,fun d hd=>by have:=zc2 z d hd;omega⟩
theorem FC.sqNi {P:Program} {f:FuncId} {args:List AV} {l:List Int} {z:Int} (h:FC P f args (.sq l)) (e:l=aZ z):FC P f args (.ni z):=h.res fun E v hr=>hr.toNi rfl e
theorem rsize_fc (z:Int) (h:pNg z):FC tP 168 [.ni z] (.ni (z.natAbs:Int)):=by
 refine FC.sqNi (rsz_0 z h (zlA h)) ?_
 by_cases hz:z<0
 ·rw [decide_eq_true hz,zlX];congr 1;omega
 ·rw [decide_eq_false hz,zrk];congr 1;omega
def pX (x:List Int):Prop:=pQ 400000 x
theorem pX.nm {x:List Int} (h:pX x):pNm x:=pQ.mono h (by decide)
theorem pX.s {x:List Int} (h:pX x):Sz 1000000 (vl x):=(pQ.sz h).mono (by decide)
theorem rNeg_fc (x:List Int) (h:pX x):FC tP 131 [.sq x] (.ni (-vl x)):=
 FC.sqNi (rng_0 x h.nm (zlA h.s)) (zlX _)
theorem rSign_fc (x:List Int) (h:pX x):FC tP 117 [.sq x] (lI (vl x).sign):=by
 have hl:=gZ (vl x)
 by_cases h0:vl x=0
 ·rw [h0];exact rsg_0 x h.nm (by rw [hl,h0];rfl)
 ·have hd:dl (vl x)≠0:=fun h=>h0 (dl_zero.1 h)
  by_cases h1:vl x<0
  ·rw [Int.sign_eq_neg_one_of_neg h1];exact rsg_1 x h.nm (by omega) h.s h1
  ·rw [Int.sign_eq_one_of_pos (by omega)];exact rsg_2 x h.nm (by omega) h.s h1
def ze6 (i:Nat) (d:Int) (Y:List Int) (j:Nat):List Int:=List.replicate i 0++(Y.take j).map fun e=>d*e
theorem ze7 {i:Nat} {d:Int} {Y:List Int} {j:Nat} (h:j<Y.length):ze6 i d Y (j+1)=ze6 i d Y j++[d*Y.getD j 0]:=by
 unfold ze6
 rw [List.take_succ_eq_append_getElem h,List.map_append,← List.append_assoc]
 simp [List.getD,h]
theorem zbE {i:Nat} {d:Int} {Y:List Int} {j:Nat} (h:j≤Y.length):(ze6 i d Y j).length=i+j:=by
 unfold ze6;simp;omega
theorem vl_rep (i:Nat):vl (List.replicate i (0:Int))=0:=by
 induction i with
 | zero=>rfl
 | succ i ih=>simp only [List.replicate_succ,vl,ih];rfl
theorem vl_scale (d:Int) (Y:List Int):vl (Y.map fun e=>d*e)=d*vl Y:=by
 induction Y with
 | nil=>simp [vl]
 | cons y Y ih=>simp only [List.map_cons,vl,ih];grind
theorem vl_rowM (i:Nat) (d:Int) (Y:List Int):vl (ze6 i d Y Y.length)=100000000 ^ i*(d*vl Y):=by
 unfold ze6
 rw [zaK,vl_rep,List.length_replicate,List.take_length,vl_scale];omega
theorem zhp {p q:Int} (hp:-100000000<p∧p<100000000) (hq:-100000000<q∧q<100000000):-10000000000000000≤p*q∧p*q≤10000000000000000:=by
 have h:(p*q).natAbs≤100000000*100000000:=by rw [Int.natAbs_mul];exact Nat.mul_le_mul (by omega) (by omega)
 omega
theorem rm_in (a b c:Int) (i:Nat) (n7:Nat) (lr0:List Int) (hi:i<dl a) (ha:dl a≤200000) (hb:dl b≤200000):∀(m j:Nat),j+m=dl b →
 zgg (ze0 a b c i n7 lr0 (i+j) j (ze6 i ((aZ a).getD i 0) (aZ b) j)) (.exit 2,ze1 a b c i n7 lr0 (i+dl b) (dl b:Nat) (ze6 i ((aZ a).getD i 0) (aZ b) (dl b)))
 | 0,j,hj=>by
  have:j=dl b:=by omega
  subst this
  have lb:=gZ b
  exact zqu a b c i n7 lr0 _ _ _ (by omega)
 | m+1,j,hj=>by
  have la:=gZ a
  have lb:=gZ b
  have ih:=rm_in a b c i n7 lr0 hi ha hb m (j+1) (by omega)
  have h1:Int.toNat (i:Int)=i:=by omega
  have h2:Int.toNat (j:Int)=j:=by omega
  have hm:=zhp (CZ a i) (CZ b j)
  have hl:=zbE (i:=i) (d:=(aZ a).getD i 0) (Y:=aZ b) (j:=j) (by omega)
  have hc:((j+1:Nat):Int)=(j:Int)+1:=by omega
  rw [ze7 (by omega),hc,← Nat.add_assoc] at ih
  refine zqt a b c i n7 lr0 (i+j) j _ (by omega) (by omega) (by omega) (by omega) (by omega) (by omega) (by rw [h1,h2];omega) (by omega) (by omega) (by omega) (by omega) ?_
  rw [h1,h2]
  have:=zfT (ze6 i ((aZ a).getD i 0) (aZ b) j) ((aZ a).getD i 0*(aZ b).getD j 0)
  rw [hl] at this
  rw [this];exact ih
theorem rm_in0 (a b:Int) (h0:0<dl a) (ha:dl a≤200000) (hb:dl b≤200000):∀(m j:Nat),j+m=dl b →
 zhQ (zeY a b j j (ze6 0 ((aZ a).getD 0 0) (aZ b) j)) (.exit 2,zhR a b (dl b) (dl b:Nat) (ze6 0 ((aZ a).getD 0 0) (aZ b) (dl b)))
 | 0,j,hj=>by
  have:j=dl b:=by omega
  subst this
  have lb:=gZ b
  exact zqq a b _ _ _ (by omega)
 | m+1,j,hj=>by
  have la:=gZ a
  have lb:=gZ b
  have ih:=rm_in0 a b h0 ha hb m (j+1) (by omega)
  have h2:Int.toNat (j:Int)=j:=by omega
  have hm:=zhp (CZ a 0) (CZ b j)
  have hl:=zbE (i:=0) (d:=(aZ a).getD 0 0) (Y:=aZ b) (j:=j) (by omega)
  have hc:((j+1:Nat):Int)=(j:Int)+1:=by omega
  rw [ze7 (by omega),hc] at ih
  refine zqp a b j j _ (by omega) (by omega) (by omega) (by omega) (by omega) (by rw [h2];omega) (by omega) (by omega) (by omega) (by omega) ?_
  rw [h2]
  have:=zfT (ze6 0 ((aZ a).getD 0 0) (aZ b) j) ((aZ a).getD 0 0*(aZ b).getD j 0)
  rw [hl,Nat.zero_add] at this
  rw [this];exact ih
theorem take_sz (a:Int) (i:Nat):Sz i (vl ((aZ a).take i)):=by
 have key:∀l:List Int,Digs l→(vl (l.take i)).natAbs<100000000 ^ i:=by
  intro l hl
  have t:Digs (l.take i):=fun d h=>hl d (List.mem_of_mem_take h)
  have h1:=zfW t
  have h2:=FZ t
  have h3:(100000000:Nat) ^ (l.take i).length≤100000000 ^ i:=Nat.pow_le_pow_right (by decide) (by simp;omega)
  have h4:((100000000 ^ (l.take i).length:Nat):Int)=(100000000:Int) ^ (l.take i).length:=Int.natCast_pow 100000000 _
  omega
 unfold Sz aZ
 split
 ·rw [← List.map_take,vl_neg,Int.natAbs_neg]
  exact key _ (oZ _)
 ·exact key _ (oZ _)
theorem row_pQ (i:Nat) (d:Int) (b:Int) (j:Nat) (hd:-100000000<d∧d<100000000) (hj:j≤dl b) (h:i+j≤400000):pQ 400000 (ze6 i d (aZ b) j):=by
 refine ⟨by rw [zbE (by rw [gZ];exact hj)];exact h,fun e he=>?_⟩
 unfold ze6 at he
 rcases List.mem_append.1 he with h1 | h1
 ·have:=List.eq_of_mem_replicate h1
  unfold cZ;omega
 ·obtain ⟨q,hq,rfl⟩:=List.mem_map.1 h1
  have:=zhp hd (zc2 b q (List.mem_of_mem_take hq))
  unfold cZ;omega
theorem rm_out (a b:Int) (ha:dl a≤150000) (hb:dl b≤150000):∀(m i:Nat),i+m=dl a →
    zdV (zbT a b (vl ((aZ a).take i)*b) i) (.exit 0,ze2 a b (a*b) (dl a:Nat))
  | 0,i,hi=>by
    have:i=dl a:=by omega
    subst this
    have la:=gZ a
    rw [List.take_of_length_le (by omega),bZ]
    exact zqA a b _ _ (by omega)
  | m + 1,i,hi=>by
    have la:=gZ a
    have lb:=gZ b
    have ih:=rm_out a b ha hb m (i+1) (by omega)
    have h1:Int.toNat (i:Int)=i:=by omega
    have hlt:i<(aZ a).length:=by omega
    have hg:(aZ a)[i]=(aZ a).getD i 0:=by simp [List.getD,hlt]
    have hlen:((aZ a).take i).length=i:=by simp;omega
    have hsz:Sz 400000 (vl ((aZ a).take i)*b):=((take_sz a i).mul (show Sz (dl b) b from zjD b.natAbs)).mono (by omega)
    have hpq:pQ 400000 (aZ (vl ((aZ a).take i)*b)):=fZ hsz (Nat.le_refl _)
    have hc:((i+1:Nat):Int)=(i:Int)+1:=by omega
    rw [List.take_succ_eq_append_getElem hlt,hg,zbG,hlen,hc] at ih
    have hd:=CZ a i
    by_cases h0:dl b=0
    · have hb0:b=0:=dl_zero.1 h0
      have hrow:List.take i (List.replicate i (0:Int))=List.replicate i 0:=List.take_of_length_le (by simp)
      refine zqy a b _ i (by omega) (by omega) (by omega) (by omega) (by omega) (zqs a b _ i _ _ (by omega)) (by simp) ?_ (by omega) ?_<;>rw [h1,hrow]
      · exact ⟨hpq,⟨by simp;omega,fun d hd=>by have:=List.eq_of_mem_replicate hd;unfold cZ;omega⟩⟩
      · rw [bZ,vl_rep,hb0]
        rw [hb0] at ih
        simpa using ih
    · have hL2:zgg (zeZ a b (vl ((aZ a).take i)*b) i i (List.replicate i 0)) (.exit 2,ze1 a b (vl ((aZ a).take i)*b) i i (List.replicate i 0) (i+dl b) (dl b:Nat) (ze6 i ((aZ a).getD i 0) (aZ b) (dl b))):=by
        have hk:=rm_in a b (vl ((aZ a).take i)*b) i i (List.replicate i 0) (by omega) (by omega) (by omega) (dl b-1) 1 (by omega)
        rw [ze7 (by omega)] at hk
        have hm:=zhp (CZ a i) (CZ b 0)
        have e0:ze6 i ((aZ a).getD i 0) (aZ b) 0=List.replicate i 0:=by simp [ze6]
        rw [e0] at hk
        refine zqr a b _ i i _ (by omega) (by omega) (by omega) (by omega) (by omega) (by rw [h1];omega) (by omega) (by omega) (by simp) ?_
        rw [h1]
        have:=zfT (List.replicate i (0:Int)) ((aZ a).getD i 0*(aZ b).getD 0 0)
        rw [List.length_replicate] at this
        rw [this];exact hk
      have hlr:(ze6 i ((aZ a).getD i 0) (aZ b) (dl b)).length=i+dl b:=zbE (by omega)
      have htk:List.take (i+dl b) (ze6 i ((aZ a).getD i 0) (aZ b) (dl b))=ze6 i ((aZ a).getD i 0) (aZ b) (dl b):=List.take_of_length_le (by omega)
      have hv:vl (ze6 i ((aZ a).getD i 0) (aZ b) (dl b))=100000000 ^ i*((aZ a).getD i 0*b):=by
        have:=vl_rowM i ((aZ a).getD i 0) (aZ b)
        rw [lb,bZ] at this;exact this
      refine zqz a b _ i (i+dl b) (dl b:Nat) (ze6 i ((aZ a).getD i 0) (aZ b) (dl b)) (by omega) (by omega) (by omega) (by omega) (by omega) (by rw [h1];exact hL2) (by omega) ?_ (by omega) ?_
      · rw [htk];exact ⟨hpq,row_pQ _ _ _ _ hd (Nat.le_refl _) (by omega)⟩
      · rw [htk,bZ,hv]
        have e:vl ((aZ a).take i)*b+100000000 ^ i*((aZ a).getD i 0*b)=(vl ((aZ a).take i)+100000000 ^ i*(aZ a).getD i 0)*b:=by grind
        rw [e];exact ih
def pMu (x y:List Int):Prop:=pQ 100000 x∧pQ 100000 y
theorem rMul_fc (x y:List Int) (h:pMu x y):FC tP 90 [.sq x,.sq y] (.ni (vl x*vl y)):=by
 obtain ⟨hx,hy⟩:=h
 have px:pNm x:=hx.mono (by decide)
 have py:pNm y:=hy.mono (by decide)
 have da:=zhb hx.sz
 have db:=zhb hy.sz
 have hz:=hx.sz.mul hy.sz
 have hpn:pNm (aZ (vl x*vl y)):=fZ hz (by decide)
 have fin:∀t,zdV (zdF (vl x) (vl y)) (.exit 0,ze2 (vl x) (vl y) (vl x*vl y) t)→FC tP 90 [.sq x,.sq y] (.ni (vl x*vl y)):=fun t hL=>by
  have:=rml_1 x y (vl x*vl y) t px py hL hpn
  rwa [bZ] at this
 have lx:=gZ (vl x)
 have ly:=gZ (vl y)
 by_cases h0:dl (vl x)=0
 ·have hx0:vl x=0:=dl_zero.1 h0
  have:=rml_0 x y px py (zqx _ _ (by omega)) ⟨by simp,fun d hd=>by cases hd⟩
  rw [hx0,Int.zero_mul];exact this
 ·have hlt:0<(aZ (vl x)).length:=by omega
  have ho:=rm_out (vl x) (vl y) (by omega) (by omega) (dl (vl x)-1) 1 (by omega)
  have hg:(aZ (vl x))[0]=(aZ (vl x)).getD 0 0:=by simp [List.getD,hlt]
  have ht:vl ((aZ (vl x)).take 1)=(aZ (vl x)).getD 0 0:=by
   rw [List.take_succ_eq_append_getElem hlt,hg];simp [vl]
  rw [ht] at ho
  by_cases hb0:dl (vl y)=0
  ·have hy0:vl y=0:=dl_zero.1 hb0
   refine fin (dl (vl x):Nat) (zqv _ _ (by omega) (zqo _ _ (by omega)) (by omega) ⟨⟨by simp,fun d hd=>by cases hd⟩,⟨by simp,fun d hd=>by simp at hd⟩⟩ ?_)
   rw [hy0] at ho ⊢
   simpa using ho
  ·have hk:=rm_in0 (vl x) (vl y) (by omega) (by omega) (by omega) (dl (vl y)-1) 1 (by omega)
   have hm:=zhp (CZ (vl x) 0) (CZ (vl y) 0)
   have e1:ze6 0 ((aZ (vl x)).getD 0 0) (aZ (vl y)) 1=[(aZ (vl x)).getD 0 0*(aZ (vl y)).getD 0 0]:=by rw [ze7 (by omega)];simp [ze6]
   rw [e1] at hk
   have hL0:=zqn (vl x) (vl y) (by omega) (by omega) (by omega) (by omega) (by omega) hk
   have hlr:(ze6 0 ((aZ (vl x)).getD 0 0) (aZ (vl y)) (dl (vl y))).length=dl (vl y):=by rw [zbE (by omega)];omega
   have htk:List.take (dl (vl y)) (ze6 0 ((aZ (vl x)).getD 0 0) (aZ (vl y)) (dl (vl y)))=ze6 0 ((aZ (vl x)).getD 0 0) (aZ (vl y)) (dl (vl y)):=List.take_of_length_le (by omega)
   have hv:vl (ze6 0 ((aZ (vl x)).getD 0 0) (aZ (vl y)) (dl (vl y)))=(aZ (vl x)).getD 0 0*vl y:=by
    have:=vl_rowM 0 ((aZ (vl x)).getD 0 0) (aZ (vl y))
    rw [ly,bZ] at this
    simpa using this
   refine fin (dl (vl x):Nat) (zqw _ _ (dl (vl y)) (dl (vl y):Nat) _ (by omega) hL0 (by omega) ?_ ?_)
   ·rw [htk];exact ⟨⟨by simp,fun d hd=>by cases hd⟩,row_pQ _ _ _ _ (CZ _ _) (Nat.le_refl _) (by omega)⟩
   ·rw [htk,hv]
    simpa using ho
def ctrF5:Ctr:=(168,n1 pNg (fun z=>.ni (z.natAbs:Int))) :: (131,cL pX (fun x=>.ni (-vl x))) :: (117,cL pX (fun x=>lI (vl x).sign)) :: (90,cLL pMu (fun x y=>.ni (vl x*vl y))) :: ctrF4
theorem zkS:∀p∈ctrF5,jZ tP p.1 p.2:=CAll.cons (n1_ok rsize_fc)<|CAll.cons (zjt rNeg_fc)<|CAll.cons (zjt rSign_fc)<|CAll.cons (zbu rMul_fc) zkR
theorem okF5:(eZ tP ctrF5 bw).OK:=JZ zkS
noncomputable section
theorem rsb_0 (x y:List Int) (h1:pX y) (h2:pAd x (aZ (-vl y))):FC tP 134 [.sq x,.sq y] (.ni (vl x+vl (aZ (-vl y)))):=dZ okF5 60 [] (.c h1<|.c h2<|.e) [1,2]
end
def pSu (x y:List Int):Prop:=pQ 390000 x∧pQ 390000 y
theorem rSub_fc (x y:List Int) (h:pSu x y):FC tP 134 [.sq x,.sq y] (.ni (vl x-vl y)):=by
 have:=rsb_0 x y (h.2.mono (by decide)) ⟨h.1.mono (by decide),fZ h.2.sz.neg (by decide)⟩
 rw [bZ,← Int.sub_eq_add_neg] at this
 exact this
def ctrF6:Ctr:=(134,cLL pSu (fun x y=>.ni (vl x-vl y))) :: ctrF5
theorem zkT:∀p∈ctrF6,jZ tP p.1 p.2:=CAll.cons (zbu rSub_fc) zkS
theorem okF6:(eZ tP ctrF6 bw).OK:=JZ zkT
noncomputable section
theorem rcm_0 (x y:List Int) (h1:pSu x y) (h2:pX (aZ (vl x-vl y))):FC tP 153 [.sq x,.sq y] (aI (vl (aZ (vl x-vl y))).sign):=dZ okF6 60 [] (.c h1<|.c h2<|.e) [1,2]
abbrev zge (s:St) (r:Ex × St):Prop:=Loops 1 tP (kZ tP 169 0) s r
abbrev zeP (a b:Int) (c:Nat) (d:Int) (e:List Int):St:=⟨sp 60 [(0,.ni a),(1,.ni b),(6,.own 0 0 c 1),(7,aN),(8,aI d)],[.ints e true],[0]⟩
abbrev zeQ (a b:Int) (c:Nat) (d:Int) (e:List Int) (f g:Int) (i:List Int):St:=⟨sp 60 [(0,.ni a),(1,.ni b),(6,.own 0 0 c 1),(7,.ni f),(8,aI g)],[.ints i true],[0]⟩
abbrev zlG (a b:Int) (c:Nat) (d:Int) (e:List Int):St:=⟨sp 60 [(0,.ni a),(1,.ni b),(6,.own 0 0 c 1),(7,aN),(8,aI d)],[.ints e true],[0]⟩
abbrev zeR (a b:Int) (c:Nat) (d:Int) (e:List Int) (f g:Int) (i:List Int):St:=⟨sp 60 [(0,.ni a),(1,.ni b),(6,.own 0 0 c 1),(7,.ni f),(8,aI g)],[.ints i true],[0]⟩
abbrev zjc (s:St) (r:Ex × St):Prop:=Loops 3 tP (kZ tP 169 1) s r
abbrev zbQ (a b:Int) (c:Nat) (d:List Int) (e:Int) (f g:List Int) (i j:Int):St:=⟨sp 60 [(0,.ni a),(1,.ni b),(6,.own 0 0 c 1),(7,.sq d),(8,aI e),(9,aI i),(10,aI j)],[.ints f true,.dead,.ints g false],[2,1,0]⟩
abbrev zeO (a b:Int) (c:Nat) (d:List Int) (e:Int) (f g:List Int) (i j:Int):St:=⟨sp 60 [(0,.ni a),(1,.ni b),(6,.own 0 0 c 1),(7,.sq d),(8,aI e),(9,aI i),(10,aI j)],[.ints f true,.dead,.ints g false],[2,1,0]⟩
theorem zp5 (a b:Int) (d:Nat) (f:List Int) (g:Int) (j l:List Int) (m n:Int) (h1:m<n) (h2:r64 (m+n)) (h3:r64 (m+n+1)) (h4:r64 (Int.tdiv (m+n+1) 2)) (h5:1≤List.length [Int.tdiv (m+n+1) 2]) (h6:pMu (aZ b) (List.take 1 [Int.tdiv (m+n+1) 2])) (h7:zpz f (aZ (vl (aZ b)*vl (List.take 1 [Int.tdiv (m+n+1) 2])))) (h8:vl f<vl (aZ (vl (aZ b)*vl (List.take 1 [Int.tdiv (m+n+1) 2])))) (h9:r64 (Int.tdiv (m+n+1) 2-1)):LG zjc (zbQ a b d f g j l m n) (zbQ a b d f g j l m (Int.tdiv (m+n+1) 2-1)):=Loops.go (LS.at okF6 60 [] [0,1,6,7,8,9,10] [2,1,0] [1,1] (.t h1<|.i h2<|.i h3<|.i h4<|.c h5<|.c h6<|.c h7<|.t h8<|.i h9<|.e) [1,2,3,0,4,5,6,7,8,9])
theorem zp6 (a b:Int) (d:Nat) (g:List Int) (j:Int) (l m:List Int) (n o:Int) (h1:n<o) (h2:r64 (n+o)) (h3:r64 (n+o+1)) (h4:r64 (Int.tdiv (n+o+1) 2)) (h5:1≤List.length [Int.tdiv (n+o+1) 2]) (h6:pMu (aZ b) (List.take 1 [Int.tdiv (n+o+1) 2])) (h7:zpz g (aZ (vl (aZ b)*vl (List.take 1 [Int.tdiv (n+o+1) 2])))) (h8:¬(vl g<vl (aZ (vl (aZ b)*vl (List.take 1 [Int.tdiv (n+o+1) 2]))))):LG zjc (zbQ a b d g j l m n o) (zbQ a b d g j l m (Int.tdiv (n+o+1) 2) o):=Loops.go (LS.at okF6 60 [] [0,1,6,7,8,9,10] [2,1,0] [1,0] (.t h1<|.i h2<|.i h3<|.i h4<|.c h5<|.c h6<|.c h7<|.f h8<|.e) [1,2,3,0,4,5,6,7,8])
theorem zp7 (a b:Int) (c:Nat) (d:List Int) (g:Int) (i j:List Int) (l m:Int) (h1:¬(l<m)):zjc (zbQ a b c d g i j l m) (Ex.exit 2,(zeO a b c d g i j l m)):=LF (LS.at okF6 60 [] [0,1,6,7,8,9,10] [2,1,0] [0] (.f h1<|.e) [1])
theorem zp8 (a b:Int) (d:Nat) (f:Int) (g:List Int) (j l:Int) (h1:f≥0) (h2:0≤f) (h3:f<(↑((aZ a).length):Int)) (h4:f.toNat<(aZ a).length) (h5:1≤List.length [(aZ a).getD f.toNat 0]) (h6:1≤(List.take 1 [(aZ a).getD f.toNat 0]++[]).length) (h7:pTr ((List.take 1 [(aZ a).getD f.toNat 0]++[]).take 1)) (hL1:zjc (zbQ a b d (trm ((List.take 1 [(aZ a).getD f.toNat 0]++[]).take 1)) f g ([(aZ a).getD f.toNat 0]) (0) (99999999)) (Ex.exit 2,(zeO a b d (trm ((List.take 1 [(aZ a).getD f.toNat 0]++[]).take 1)) f g ([(aZ a).getD f.toNat 0]) j l))) (h9:f<(d:Int)) (h10:0+f.toNat*1<g.length) (h11:1≤List.length [j]) (h12:pMu (aZ b) (List.take 1 [j])) (h13:pSu (trm ((List.take 1 [(aZ a).getD f.toNat 0]++[]).take 1)) (aZ (vl (aZ b)*vl (List.take 1 [j])))) (h14:r64 (f-1)):LG zge (zeP a b d f g) (zeQ a b d f g (vl (trm ((List.take 1 [(aZ a).getD f.toNat 0]++[]).take 1))-vl (aZ (vl (aZ b)*vl (List.take 1 [j])))) (f-1) (g.set (0+f.toNat*1) j)):=Loops.go (LS.at okF6 60 [] [0,1,6,7,8] [0] [1] (.t h1<|.t h2<|.t h3<|.t h4<|.t h5<|.c h6<|.c h7<|.v [0,1,6,7,8,9,10] [2,1,0] hL1<|.t h9<|.t h10<|.c h11<|.c h12<|.c h13<|.i h14<|.e) [1,2,3,4,0,0,5,0,6,7,0,8,2,9,10,11,12,13,14])
theorem zp9 (a b:Int) (c:Nat) (d:Int) (g:List Int) (h1:¬(d≥0)):zge (zeP a b c d g) (Ex.exit 0,(zlG a b c d g)):=LF (LS.at okF6 60 [] [0,1,6,7,8] [0] [0] (.f h1<|.e) [1])
theorem zqa (a b:Int) (d:Nat) (f:Int) (g:List Int) (j l:Int) (m:List Int) (n o:Int) (h1:l≥0) (h2:0≤l) (h3:l<(↑((aZ a).length):Int)) (h4:l.toNat<(aZ a).length) (h5:(1+(aZ j).length)*8≤140737488355328) (h6:1+(aZ j).length≤4611686018427387904) (h7:1≤List.length [(aZ a).getD l.toNat 0]) (h8:1+(aZ j).length≤(List.take 1 [(aZ a).getD l.toNat 0]++aZ j).length) (h9:pTr ((List.take 1 [(aZ a).getD l.toNat 0]++aZ j).take (1+(aZ j).length))) (hL1:zjc (zbQ a b d (trm ((List.take 1 [(aZ a).getD l.toNat 0]++aZ j).take (1+(aZ j).length))) l m (List.take 1 [(aZ a).getD l.toNat 0]++aZ j) (0) (99999999)) (Ex.exit 2,(zeO a b d (trm ((List.take 1 [(aZ a).getD l.toNat 0]++aZ j).take (1+(aZ j).length))) l m (List.take 1 [(aZ a).getD l.toNat 0]++aZ j) n o))) (h11:l<(d:Int)) (h12:0+l.toNat*1<m.length) (h13:1≤List.length [n]) (h14:pMu (aZ b) (List.take 1 [n])) (h15:pSu (trm ((List.take 1 [(aZ a).getD l.toNat 0]++aZ j).take (1+(aZ j).length))) (aZ (vl (aZ b)*vl (List.take 1 [n])))) (h16:r64 (l-1)):LG zge (zeQ a b d f g j l m) (zeQ a b d f g (vl (trm ((List.take 1 [(aZ a).getD l.toNat 0]++aZ j).take (1+(aZ j).length)))-vl (aZ (vl (aZ b)*vl (List.take 1 [n])))) (l-1) (m.set (0+l.toNat*1) n)):=Loops.go (LS.at okF6 60 [] [0,1,6,7,8] [0] [1] (.t h1<|.t h2<|.t h3<|.t h4<|.t h5<|.t h6<|.t h7<|.c (show decide ((aZ j).length=(aZ j).length)=true from decide_eq_true rfl)<|.c h8<|.c h9<|.v [0,1,6,7,8,9,10] [2,1,0] hL1<|.t h11<|.t h12<|.c h13<|.c h14<|.c h15<|.i h16<|.e) [1,2,3,4,5,6,7,8,9,10,0,11,2,12,13,14,15,16,17])
theorem zqb (a b:Int) (c:Nat) (d:Int) (g:List Int) (i j:Int) (l:List Int) (h1:¬(j≥0)):zge (zeQ a b c d g i j l) (Ex.exit 0,(zeR a b c d g i j l)):=LF (LS.at okF6 60 [] [0,1,6,7,8] [0] [0] (.f h1<|.e) [1])
theorem rdv_0 (a b:Int) (h1:0≤(↑((aZ a).length):Int)) (h2:(↑((aZ a).length):Int)≤(↑((aZ a).length):Int)) (h3:8*(↑((aZ a).length):Int)≤281474976710656) (h4:(↑((aZ a).length):Int)≤9223372036854775807) (h5:r64 ((↑((aZ a).length):Int)-1)) (hL1:zge (zeP a b (↑((aZ a).length):Int).toNat ((↑((aZ a).length):Int)-1) (zaj (↑((aZ a).length):Int).toNat)) (Ex.exit 0,(zlG a b (↑((aZ a).length):Int).toNat ((↑((aZ a).length):Int)-1) (zaj (↑((aZ a).length):Int).toNat)))) (h7:(↑((aZ a).length):Int).toNat≤(zaj (↑((aZ a).length):Int).toNat).length) (h8:pTr ((zaj (↑((aZ a).length):Int).toNat).take (↑((aZ a).length):Int).toNat)):FC tP 169 [.ni a,.ni b] (.tup [.sq (trm ((zaj (↑((aZ a).length):Int).toNat).take (↑((aZ a).length):Int).toNat)),aN]):=dZ okF6 60 [] (.t h1<|.t h2<|.t h3<|.t h4<|.i h5<|.v [0,1,6,7,8] [0] hL1<|.c h7<|.c h8<|.e) [1,2,3,4,5,0,6,7,8]
theorem rdv_1 (a b d f:Int) (g:List Int) (h1:0≤(↑((aZ a).length):Int)) (h2:(↑((aZ a).length):Int)≤(↑((aZ a).length):Int)) (h3:8*(↑((aZ a).length):Int)≤281474976710656) (h4:(↑((aZ a).length):Int)≤9223372036854775807) (h5:r64 ((↑((aZ a).length):Int)-1)) (hL1:zge (zeP a b (↑((aZ a).length):Int).toNat ((↑((aZ a).length):Int)-1) (zaj (↑((aZ a).length):Int).toNat)) (Ex.exit 0,(zeR a b (↑((aZ a).length):Int).toNat ((↑((aZ a).length):Int)-1) (zaj (↑((aZ a).length):Int).toNat) d f g))) (h7:(↑((aZ a).length):Int).toNat≤g.length) (h8:pTr (g.take (↑((aZ a).length):Int).toNat)):FC tP 169 [.ni a,.ni b] (.tup [.sq (trm (g.take (↑((aZ a).length):Int).toNat)),.ni d]):=dZ okF6 60 [] (.t h1<|.t h2<|.t h3<|.t h4<|.i h5<|.v [0,1,6,7,8] [0] hL1<|.c h7<|.c h8<|.e) [1,2,3,4,5,0,6,7,8]
end
theorem rCmp_fc (x y:List Int) (h:pSu x y):FC tP 153 [.sq x,.sq y] (lI (vl x-vl y).sign):=by
 have hz:Sz 400000 (vl x-vl y):=by
  rw [Int.sub_eq_add_neg];exact Sz.add h.1.sz h.2.sz.neg (by decide) (by decide)
 have:=rcm_0 x y h (fZ hz (Nat.le_refl _))
 rwa [bZ] at this
theorem v1 (d:Int):vl (List.take 1 [d])=d:=by simp [vl]
theorem bs_loop (a b R:Int) (n6:Nat) (t8:Int) (lr0 lr2:List Int) (hb:0<b) (hR:0≤R) (sb:Sz 100000 b) (sR:Sz 200000 R):∀(m:Nat) (lo hi:Int),(hi-lo).toNat≤m→0≤lo→lo≤hi→hi≤99999999→b*lo≤R→R<b*(hi+1) →
 zjc (zbQ a b n6 (aZ R) t8 lr0 lr2 lo hi) (.exit 2,zeO a b n6 (aZ R) t8 lr0 lr2 (R / b) (R / b)):=by
 intro m
 induction m with
 | zero=>
  intro lo hi hm h0 h1 h2 h3 h4
  have e:hi=lo:=by omega
  subst e
  have hq:R / b=hi:=by
   have u1:hi≤R / b:=(Int.le_ediv_iff_mul_le hb).2 (by rw [Int.mul_comm];exact h3)
   have u2:R / b<hi+1:=(Int.ediv_lt_iff_lt_mul hb).2 (by rw [Int.mul_comm];exact h4)
   omega
  rw [hq]
  exact zp7 a b n6 _ t8 lr0 lr2 hi hi (by omega)
 | succ m ih=>
  intro lo hi hm h0 h1 h2 h3 h4
  by_cases hlt:lo<hi
  ·have hmid:Int.tdiv (lo+hi+1) 2=(lo+hi+1) / 2:=Int.tdiv_eq_ediv_of_nonneg (by omega)
   have hm1:lo<(lo+hi+1) / 2:=by omega
   have hm2:(lo+hi+1) / 2≤hi:=by omega
   have sm:Sz 1 ((lo+hi+1) / 2):=by unfold Sz;omega
   have hmu:pMu (aZ b) (List.take 1 [(lo+hi+1) / 2]):=⟨fZ sb (by decide),by simp,fun d hd=>by simp at hd;subst hd;unfold cZ;omega⟩
   have hprod:0≤b*((lo+hi+1) / 2):=Int.mul_nonneg (by omega) (by omega)
   have hle:zpz (aZ R) (aZ (vl (aZ b)*vl (List.take 1 [(lo+hi+1) / 2]))):=by
    rw [bZ,v1]
    exact ⟨⟨by rw [bZ],by rw [bZ]⟩,⟨by rw [bZ];exact hR,by rw [bZ];exact hprod⟩,by rw [bZ];exact sR.mono (by decide),by rw [bZ];exact(sb.mul sm).mono (by decide)⟩
   have hlt2:(vl (aZ R)<vl (aZ (vl (aZ b)*vl (List.take 1 [(lo+hi+1) / 2]))))=(R<b*((lo+hi+1) / 2)):=by rw [bZ,bZ,bZ,v1]
   by_cases hc:R<b*((lo+hi+1) / 2)
   ·refine zp5 a b n6 _ t8 lr0 lr2 lo hi hlt (by omega) (by omega) ?_ ?_ ?_ ?_ ?_ ?_ ?_<;>rw [hmid]
    ·omega
    ·simp
    ·exact hmu
    ·exact hle
    ·rw [hlt2];exact hc
    ·omega
    grind
   ·refine zp6 a b n6 _ t8 lr0 lr2 lo hi hlt (by omega) (by omega) ?_ ?_ ?_ ?_ ?_ ?_<;>rw [hmid]
    ·omega
    ·simp
    ·exact hmu
    ·exact hle
    ·rw [hlt2];exact hc
    grind
  grind
theorem zoE {d R:Int} (h0:0≤d) (h1:d<100000000) (hR:0≤R):trm (List.take (1+(aZ R).length) (List.take 1 [d]++aZ R))=aZ (d+100000000*R):=by
 have hn:aZ R=digs R.natAbs:=by unfold aZ;rw [if_neg (by omega)]
 have hd:Digs (d :: aZ R):=fun e he=>by
  rcases List.mem_cons.1 he with rfl | he
  ·exact ⟨h0,h1⟩
  ·rw [hn] at he;exact oZ _ e he
 have ht:List.take (1+(aZ R).length) (List.take 1 [d]++aZ R)=d :: aZ R:=by
  grind
 rw [ht,znU hd]
 simp only [vl,bZ]
theorem trm_one {d:Int} (h0:0≤d) (h1:d<100000000):trm (List.take 1 (List.take 1 [d]++[]))=aZ d:=by
 have:=zoE (R:=0) h0 h1 (Int.le_refl _)
 have e:aZ 0=[]:=rfl
 simp_all
theorem Digs_st {l:List Int} {k:Nat} {e:Int} (h:Digs l) (h0:0≤e) (h1:e<100000000):Digs (l.set k e):=by
 intro d hd
 rcases List.mem_or_eq_of_mem_set hd with h2 | h2
 ·exact h d h2
 omega
theorem zin {q:List Int} {k:Nat} {e:Int} (h:k<q.length):vl ((q.set k e).drop k)=e+100000000*vl (q.drop (k+1)):=by
 have h2:k<(q.set k e).length:=by simpa using h
 rw [List.drop_eq_getElem_cons h2]
 simp only [vl,List.getElem_set_self]
 rw [List.drop_set_of_lt (by omega)]
theorem sz_step {k:Nat} {b R:Int} (sb:Sz k b) (h0:0≤R) (h1:R<b*(99999999+1)) (hb:0<b):Sz (k+1) R:=by
 unfold Sz at *
 rw [Nat.pow_succ]
 omega
theorem dv_key {A b R d:Int} (hb:0<b) (hR:R=A % b) (h0:0≤d) (h1:d<100000000) :
 let R':=d+100000000*R
 0≤R'∧R'<b*(99999999+1)∧0≤R' / b∧R' / b≤99999999∧R'-b*(R' / b)=(d+100000000*A) % b∧R' / b+100000000*(A / b)=(d+100000000*A) / b:=by
 intro R'
 have e1:=Int.emod_nonneg A (show b≠0 by omega)
 have e2:=Int.emod_lt_of_pos A hb
 have e3:=Int.mul_ediv_add_emod A b
 have hR0:0≤R':=by omega
 have hlt:R'<b*(99999999+1):=by omega
 have e4:=Int.mul_ediv_add_emod R' b
 have e5:=Int.emod_nonneg R' (show b≠0 by omega)
 have e6:=Int.emod_lt_of_pos R' hb
 have hq0:0≤R' / b:=Int.ediv_nonneg hR0 (by omega)
 have hq1:R' / b<99999999+1:=(Int.ediv_lt_iff_lt_mul hb).2 (by rw [Int.mul_comm];exact hlt)
 have hval:d+100000000*A=b*(R' / b+100000000*(A / b))+R' % b:=by
  grind
 refine ⟨hR0,hlt,hq0,by omega,?_,?_⟩
 ·rw [hval,Int.add_comm,Int.add_mul_emod_self_left,Int.emod_eq_of_lt e5 e6];omega
 ·rw [hval,Int.add_comm (b*_),Int.add_mul_ediv_left _ _ (by omega),Int.ediv_eq_zero_of_lt e5 e6];omega
theorem dv_loop (a b:Int) (ha:0≤a) (hb:0<b) (sa:dl a≤100000) (sb:Sz 99999 b) (n0:Nat) (t0:Int) (l0:List Int) (hn0:n0=dl a) :
 ∀(k:Nat),k≤dl a→∀(R:Int) (q:List Int),R=vl ((aZ a).drop k) % b→q.length=dl a→Digs q→vl (q.drop k)=vl ((aZ a).drop k) / b →
  ∃q',q'.length=dl a∧Digs q'∧vl q'=a / b∧zge (zeQ a b n0 t0 l0 R ((k:Int)-1) q) (.exit 0,zeR a b n0 t0 l0 (a % b) (-1) q')
 | 0,_,R,q,hR,hq,hd,hv=>by
  rw [List.drop_zero,bZ] at hR
  rw [List.drop_zero,List.drop_zero,bZ] at hv
  refine ⟨q,hq,hd,hv,?_⟩
  rw [hR]
  exact zqb a b n0 t0 l0 _ _ q (by omega)
 | k + 1,hk,R,q,hR,hq,hd,hv=>by
  have la:=gZ a
  have hn:aZ a=digs a.natAbs:=by unfold aZ;rw [if_neg (by omega)]
  have hlt:k<(aZ a).length:=by omega
  have hdk:0≤(aZ a).getD k 0∧(aZ a).getD k 0<100000000:=by
   have:(aZ a).getD k 0∈aZ a:=by simp [List.getD,hlt]
   rw [hn] at this ⊢;exact oZ _ _ this
  have hdr:(aZ a).drop k=(aZ a).getD k 0 :: (aZ a).drop (k+1):=by simp_all
  have hvk:vl ((aZ a).drop k)=(aZ a).getD k 0+100000000*vl ((aZ a).drop (k+1)):=by rw [hdr];rfl
  obtain ⟨r0,r1,r2,r3,r4,r5⟩:=dv_key hb hR hdk.1 hdk.2
  have hR0:0≤R:=by omega
  have hRb:R<b:=by omega
  have sR:Sz 200000 ((aZ a).getD k 0+100000000*R):=(sz_step sb r0 r1 hb).mono (by decide)
  obtain ⟨q',g1,g2,g3,g4⟩:=dv_loop a b ha hb sa sb n0 t0 l0 hn0 k (by omega) ((aZ a).getD k 0+100000000*R-b*(((aZ a).getD k 0+100000000*R) / b)) (q.set k (((aZ a).getD k 0+100000000*R) / b))
   (by rw [hvk,r4]) (by simp [hq]) (Digs_st hd r2 (by omega)) (by rw [zin (by omega),hv,hvk];exact r5)
  refine ⟨q',g1,g2,g3,?_⟩
  have hc:((k+1:Nat):Int)-1=(k:Int):=by omega
  have hk0:Int.toNat (k:Int)=k:=by omega
  have hk1:0+k*1=k:=by omega
  have lR:(aZ R).length≤99999:=by
   rw [gZ]
   refine zhb ?_
   unfold Sz at sb ⊢
   omega
  have tc:=zoE hdk.1 hdk.2 hR0
  have bs:=bs_loop a b _ n0 k q (List.take 1 [(aZ a).getD k 0]++aZ R) hb r0 (sb.mono (by decide)) sR 99999999 0 99999999 (by omega) (by omega) (by omega) (by omega) (by omega) r1
  have sq:Sz 1 (((aZ a).getD k 0+100000000*R) / b):=by unfold Sz;omega
  rw [hc]
  refine zqa a b n0 t0 l0 R k q (((aZ a).getD k 0+100000000*R) / b) (((aZ a).getD k 0+100000000*R) / b) (by omega) (by omega) (by omega) (by omega) (by omega) (by omega) ?_ ?_ ?_ ?_ (by omega) (by omega) ?_ ?_ ?_ (by omega) ?_<;>(try simp only [hk0,hk1,tc])
  ·simp
  ·simp;omega
  ·unfold pTr;simp;omega
  ·exact bs
  ·simp
  ·exact ⟨fZ sb (by decide),by simp,fun e he=>by rw [List.mem_singleton.1 he];unfold cZ;omega⟩
  ·rw [bZ,v1];exact ⟨fZ sR (by decide),fZ (sb.mul sq) (by decide)⟩
  ·rw [bZ,bZ,bZ,v1];exact g4
def pDv (a b:Int):Prop:=(0≤a∧0<b)∧Sz 90000 a∧Sz 90000 b
instance tDv {a b:Int}:Tst (pDv a b):=inferInstanceAs (Tst ((0≤a∧0<b)∧Sz 90000 a∧Sz 90000 b))
theorem zp4 (a b:Int) (h:pDv a b):FC tP 169 [.ni a,.ni b] (.tup [.ni (a / b),.ni (a % b)]):=by
 obtain ⟨⟨ha,hb⟩,sa,sb⟩:=h
 have la:=gZ a
 have da:=zhb sa
 have hN:Int.toNat ((aZ a).length:Int)=dl a:=by rw [la];omega
 have hz:List.take (dl a) (zaj (dl a))=zaj (dl a):=List.take_of_length_le (by simp)
 by_cases h0:dl a=0
 ·have ha0:a=0:=dl_zero.1 h0
  have:=rdv_0 a b (by omega) (by omega) (by omega) (by omega) (by omega) (zp9 a b _ _ _ (by omega)) (by simp) (by unfold pTr;simp;omega)
  rw [hN,h0] at this
  refine this.res fun E v hv=>hv.tup2 (fun u hu=>?_) (fun u hu=>?_)
  ·rw [ha0,Int.zero_ediv];exact hu.toNi rfl rfl
  ·rw [ha0,Int.zero_emod];exact hu.toNi rfl rfl
 ·have hlt:dl a-1<(aZ a).length:=by omega
  have hn:aZ a=digs a.natAbs:=by unfold aZ;rw [if_neg (by omega)]
  have hk0:Int.toNat (((aZ a).length:Int)-1)=dl a-1:=by omega
  have hdk:0≤(aZ a).getD (dl a-1) 0∧(aZ a).getD (dl a-1) 0<100000000:=by
   have:(aZ a).getD (dl a-1) 0∈aZ a:=by simp [List.getD,hlt]
   rw [hn] at this ⊢;exact oZ _ _ this
  have hdr:(aZ a).drop (dl a-1)=[(aZ a).getD (dl a-1) 0]:=by
   rw [List.drop_eq_getElem_cons hlt,List.drop_of_length_le (by omega)];simp [List.getD,hlt]
  have hvk:vl ((aZ a).drop (dl a-1))=(aZ a).getD (dl a-1) 0+100000000*0:=by rw [hdr];simp [vl]
  obtain ⟨r0,r1,r2,r3,r4,r5⟩:=dv_key (A:=0) (R:=0) hb (by simp) hdk.1 hdk.2
  have hD:(aZ a).getD (dl a-1) 0+100000000*0=(aZ a).getD (dl a-1) 0:=by omega
  have sD:Sz 200000 ((aZ a).getD (dl a-1) 0+100000000*0):=by refine Sz.mono (j:=1) ?_ (by decide);unfold Sz;omega
  have sq:Sz 1 (((aZ a).getD (dl a-1) 0+100000000*0) / b):=by unfold Sz;omega
  have zl:(zaj (dl a)).length=dl a:=by simp
  have zd:Digs (zaj (dl a)):=fun d hd=>by simp_all
  obtain ⟨q',g1,g2,g3,g4⟩:=dv_loop a b ha hb (by omega) (sb.mono (by decide)) (dl a) ((aZ a).length-1:Int) (zaj (dl a)) rfl (dl a-1) (by omega)
   ((aZ a).getD (dl a-1) 0+100000000*0-b*(((aZ a).getD (dl a-1) 0+100000000*0) / b)) ((zaj (dl a)).set (dl a-1) (((aZ a).getD (dl a-1) 0+100000000*0) / b))
   (by rw [hvk];exact r4) (by simp) (Digs_st zd r2 (by omega)) (by
    rw [zin (by omega),hvk,List.drop_of_length_le (by omega)]
    simp only [vl]
    omega)
  have tc:=trm_one hdk.1 hdk.2
  have bs:=bs_loop a b _ (dl a) ((aZ a).length-1:Int) (zaj (dl a)) [(aZ a).getD (dl a-1) 0] hb r0 (sb.mono (by decide)) sD 99999999 0 99999999 (by omega) (by omega) (by omega) (by omega) (by omega) r1
  have hL:zge (zeP a b (dl a) ((aZ a).length-1:Int) (zaj (dl a))) (.exit 0,zeR a b (dl a) ((aZ a).length-1:Int) (zaj (dl a)) (a % b) (-1) q'):=by
   have hc:((dl a-1:Nat):Int)-1=((aZ a).length:Int)-1-1:=by omega
   have r2':=r2
   have r3':=r3
   rw [hD] at r2' r3' g4 bs sD sq
   refine zp8 a b (dl a) _ (zaj (dl a)) ((aZ a).getD (dl a-1) 0 / b) ((aZ a).getD (dl a-1) 0 / b) (by omega) (by omega) (by omega) (by omega) ?_ ?_ ?_ ?_ (by omega) (by omega) ?_ ?_ ?_ (by omega) ?_<;>(try simp only [hk0,tc])
   ·simp
   ·simp
   ·unfold pTr;simp
   ·exact bs
   ·simp
   ·exact ⟨fZ sb (by decide),by simp,fun e he=>by rw [List.mem_singleton.1 he];unfold cZ;omega⟩
   ·rw [bZ,v1];exact ⟨fZ sD (by decide),fZ (sb.mul sq) (by decide)⟩
   ·rw [bZ,bZ,bZ,v1,show 0+(dl a-1)*1=dl a-1 by omega,← hc];exact g4
  rw [← hN] at hL
  have ht:List.take (dl a) q'=q':=by grind
  have:=rdv_1 a b (a % b) (-1) q' (by omega) (by omega) (by omega) (by omega) (by omega) hL (by omega) (by rw [hN,ht];unfold pTr;omega)
  rw [hN,ht,znU g2,g3] at this
  exact this.res fun E v hv=>hv.tup2 (fun u hu=>hu.toNi rfl rfl) (fun _ hu=>hu)
def ctrF7:Ctr:=(153,cLL pSu (fun x y=>lI (vl x-vl y).sign)) :: (169,n2 pDv (fun a b=>.tup [.ni (a / b),.ni (a % b)])) :: ctrF6
theorem zkU:∀p∈ctrF7,jZ tP p.1 p.2:=CAll.cons (zbu rCmp_fc)<|CAll.cons (n2_ok zp4) zkT
theorem okF7:(eZ tP ctrF7 bw).OK:=JZ zkU
noncomputable section
theorem rdm_0 (x y:List Int) (h1:pNm x) (h2:pNm y) (h3:(↑((aZ (vl y)).length):Int)=0):FC tP 133 [.sq x,.sq y] (.tup [aN,aN,aI 12]):=dZ okF7 60 [1] (.c h1<|.c h2<|.c (beq_iff_eq.2 h3)<|.e) [1,2,3]
theorem rdm_1 (x y:List Int) (h1:pNm x) (h2:pNm y) (h3:(↑((aZ (vl y)).length):Int)≠0) (h4:pNg (vl x)) (h5:pNg (vl y)) (h6:pDv (↑((vl x).natAbs):Int) (↑((vl y).natAbs):Int)) (h7:vl x<0) (h8:pX (aZ ((↑((vl x).natAbs):Int) / (↑((vl y).natAbs):Int)))) (h9:pX (aZ ((↑((vl x).natAbs):Int) % (↑((vl y).natAbs):Int)))) (h10:(↑((aZ (-vl (aZ ((↑((vl x).natAbs):Int) % (↑((vl y).natAbs):Int))))).length):Int) > 0) (h11:1≤1) (h12:pSu (aZ (-vl (aZ ((↑((vl x).natAbs):Int) / (↑((vl y).natAbs):Int))))) (List.take 1 [1])) (h13:pAd (aZ (-vl (aZ ((↑((vl x).natAbs):Int) % (↑((vl y).natAbs):Int))))) (aZ (↑((vl y).natAbs):Int))) (h14:vl y<0) (h15:pX (aZ (vl (aZ (-vl (aZ ((↑((vl x).natAbs):Int) / (↑((vl y).natAbs):Int)))))-1))):FC tP 133 [.sq x,.sq y] (.tup [.ni (-vl (aZ (vl (aZ (-vl (aZ ((↑((vl x).natAbs):Int) / (↑((vl y).natAbs):Int)))))-1))),.ni (vl (aZ (-vl (aZ ((↑((vl x).natAbs):Int) % (↑((vl y).natAbs):Int)))))+vl (aZ (↑((vl y).natAbs):Int))),aI 0]):=dZ okF7 60 [0,1,1,1] (.c h1<|.c h2<|.c (beq_false_of_ne h3)<|.c h4<|.c h5<|.c h6<|.t h7<|.c h8<|.c h9<|.t h10<|.c h11<|.c h12<|.c h13<|.t h14<|.c h15<|.e) [1,2,3,4,5,6,4,7,8,9,10,11,12,5,13,5,14,15]
theorem rdm_2 (x y:List Int) (h1:pNm x) (h2:pNm y) (h3:(↑((aZ (vl y)).length):Int)≠0) (h4:pNg (vl x)) (h5:pNg (vl y)) (h6:pDv (↑((vl x).natAbs):Int) (↑((vl y).natAbs):Int)) (h7:vl x<0) (h8:pX (aZ ((↑((vl x).natAbs):Int) / (↑((vl y).natAbs):Int)))) (h9:pX (aZ ((↑((vl x).natAbs):Int) % (↑((vl y).natAbs):Int)))) (h10:(↑((aZ (-vl (aZ ((↑((vl x).natAbs):Int) % (↑((vl y).natAbs):Int))))).length):Int) > 0) (h11:1≤1) (h12:pSu (aZ (-vl (aZ ((↑((vl x).natAbs):Int) / (↑((vl y).natAbs):Int))))) (List.take 1 [1])) (h13:pAd (aZ (-vl (aZ ((↑((vl x).natAbs):Int) % (↑((vl y).natAbs):Int))))) (aZ (↑((vl y).natAbs):Int))) (h14:¬(vl y<0)):FC tP 133 [.sq x,.sq y] (.tup [.ni (vl (aZ (-vl (aZ ((↑((vl x).natAbs):Int) / (↑((vl y).natAbs):Int)))))-1),.ni (vl (aZ (-vl (aZ ((↑((vl x).natAbs):Int) % (↑((vl y).natAbs):Int)))))+vl (aZ (↑((vl y).natAbs):Int))),aI 0]):=dZ okF7 60 [0,1,1,0] (.c h1<|.c h2<|.c (beq_false_of_ne h3)<|.c h4<|.c h5<|.c h6<|.t h7<|.c h8<|.c h9<|.t h10<|.c h11<|.c h12<|.c h13<|.f h14<|.e) [1,2,3,4,5,6,4,7,8,9,10,11,12,5,13,5,14]
theorem rdm_3 (x y:List Int) (h1:pNm x) (h2:pNm y) (h3:(↑((aZ (vl y)).length):Int)≠0) (h4:pNg (vl x)) (h5:pNg (vl y)) (h6:pDv (↑((vl x).natAbs):Int) (↑((vl y).natAbs):Int)) (h7:vl x<0) (h8:pX (aZ ((↑((vl x).natAbs):Int) / (↑((vl y).natAbs):Int)))) (h9:pX (aZ ((↑((vl x).natAbs):Int) % (↑((vl y).natAbs):Int)))) (h10:¬((↑((aZ (-vl (aZ ((↑((vl x).natAbs):Int) % (↑((vl y).natAbs):Int))))).length):Int) > 0)) (h11:vl y<0) (h12:pX (aZ (-vl (aZ ((↑((vl x).natAbs):Int) / (↑((vl y).natAbs):Int)))))):FC tP 133 [.sq x,.sq y] (.tup [.ni (-vl (aZ (-vl (aZ ((↑((vl x).natAbs):Int) / (↑((vl y).natAbs):Int)))))),.ni (-vl (aZ ((↑((vl x).natAbs):Int) % (↑((vl y).natAbs):Int)))),aI 0]):=dZ okF7 60 [0,1,0,1] (.c h1<|.c h2<|.c (beq_false_of_ne h3)<|.c h4<|.c h5<|.c h6<|.t h7<|.c h8<|.c h9<|.f h10<|.t h11<|.c h12<|.e) [1,2,3,4,5,6,4,7,8,9,10,5,11,12]
theorem rdm_4 (x y:List Int) (h1:pNm x) (h2:pNm y) (h3:(↑((aZ (vl y)).length):Int)≠0) (h4:pNg (vl x)) (h5:pNg (vl y)) (h6:pDv (↑((vl x).natAbs):Int) (↑((vl y).natAbs):Int)) (h7:vl x<0) (h8:pX (aZ ((↑((vl x).natAbs):Int) / (↑((vl y).natAbs):Int)))) (h9:pX (aZ ((↑((vl x).natAbs):Int) % (↑((vl y).natAbs):Int)))) (h10:¬((↑((aZ (-vl (aZ ((↑((vl x).natAbs):Int) % (↑((vl y).natAbs):Int))))).length):Int) > 0)) (h11:¬(vl y<0)):FC tP 133 [.sq x,.sq y] (.tup [.ni (-vl (aZ ((↑((vl x).natAbs):Int) / (↑((vl y).natAbs):Int)))),.ni (-vl (aZ ((↑((vl x).natAbs):Int) % (↑((vl y).natAbs):Int)))),aI 0]):=dZ okF7 60 [0,1,0,0] (.c h1<|.c h2<|.c (beq_false_of_ne h3)<|.c h4<|.c h5<|.c h6<|.t h7<|.c h8<|.c h9<|.f h10<|.f h11<|.e) [1,2,3,4,5,6,4,7,8,9,10,5,11]
theorem rdm_5 (x y:List Int) (h1:pNm x) (h2:pNm y) (h3:(↑((aZ (vl y)).length):Int)≠0) (h4:pNg (vl x)) (h5:pNg (vl y)) (h6:pDv (↑((vl x).natAbs):Int) (↑((vl y).natAbs):Int)) (h7:¬(vl x<0)) (h8:vl y<0) (h9:pX (aZ ((↑((vl x).natAbs):Int) / (↑((vl y).natAbs):Int)))):FC tP 133 [.sq x,.sq y] (.tup [.ni (-vl (aZ ((↑((vl x).natAbs):Int) / (↑((vl y).natAbs):Int)))),.ni ((↑((vl x).natAbs):Int) % (↑((vl y).natAbs):Int)),aI 0]):=dZ okF7 60 [0,0,1] (.c h1<|.c h2<|.c (beq_false_of_ne h3)<|.c h4<|.c h5<|.c h6<|.f h7<|.t h8<|.c h9<|.e) [1,2,3,4,5,6,4,7,5,8,9]
theorem rdm_6 (x y:List Int) (h1:pNm x) (h2:pNm y) (h3:(↑((aZ (vl y)).length):Int)≠0) (h4:pNg (vl x)) (h5:pNg (vl y)) (h6:pDv (↑((vl x).natAbs):Int) (↑((vl y).natAbs):Int)) (h7:¬(vl x<0)) (h8:¬(vl y<0)):FC tP 133 [.sq x,.sq y] (.tup [.ni ((↑((vl x).natAbs):Int) / (↑((vl y).natAbs):Int)),.ni ((↑((vl x).natAbs):Int) % (↑((vl y).natAbs):Int)),aI 0]):=dZ okF7 60 [0,0,0] (.c h1<|.c h2<|.c (beq_false_of_ne h3)<|.c h4<|.c h5<|.c h6<|.f h7<|.f h8<|.e) [1,2,3,4,5,6,4,7,5,8]
abbrev zoe (s:St) (r:Ex × St):Prop:=Loops 0 tP (kZ tP 132 0) s r
abbrev zeV (a b:Int):St:=⟨sp 27 [(5,.ni a),(6,.ni b)],[],[]⟩
abbrev zhL (a b:Int):St:=⟨sp 27 [(5,.ni a),(6,.ni b)],[],[]⟩
theorem zqd (a b:Int) (h1:(↑((aZ b).length):Int) > 0) (h2:pDv a b):LG zoe (zeV a b) (zeV b (a % b)):=Loops.go (LS.at okF7 60 [] [5,6] [] [1] (.t h1<|.c h2<|.e) [1,2])
theorem zjd (a b:Int) (h1:¬((↑((aZ b).length):Int) > 0)):zoe (zeV a b) (Ex.exit 0,(zhL a b)):=LF (LS.at okF7 60 [] [5,6] [] [0] (.f h1<|.e) [1])
theorem rgc_0 (x y:List Int) (a b:Int) (h1:pNm x) (h2:pNg (vl x)) (h3:pNm y) (h4:pNg (vl y)) (hL1:zoe (zeV ((↑((vl x).natAbs):Int)) ((↑((vl y).natAbs):Int))) (Ex.exit 0,(zhL a b))):FC tP 132 [.sq x,.sq y] (.ni a):=dZ okF7 60 [] (.c h1<|.c h2<|.c h3<|.c h4<|.v [5,6] [] hL1<|.e) [1,2,3,4,0,5]
end
theorem Sz_abs {k:Nat} {z:Int} (h:Sz k z):Sz k (z.natAbs:Int):=by unfold Sz at *;rw [Int.natAbs_natCast];exact h
theorem dm_neg {a b:Int} (hb:0<b):(a % b≠0→(-a) / b = -(a / b)-1∧(-a) % b = -(a % b)+b)∧(a % b=0→(-a) / b = -(a / b)∧(-a) % b = -(a % b)):=by
 have e1:=Int.mul_ediv_add_emod a b
 have e2:=Int.emod_nonneg a (show b≠0 by omega)
 have e3:=Int.emod_lt_of_pos a hb
 constructor
 ·intro h
  refine (Int.ediv_emod_unique hb).2 ⟨?_,by omega,by omega⟩
  have:b*(-(a / b)-1) = -(b*(a / b))-b:=by rw [Int.mul_sub,Int.mul_neg,Int.mul_one]
  rw [this];omega
 ·intro h
  refine (Int.ediv_emod_unique hb).2 ⟨?_,by omega,by omega⟩
  rw [Int.mul_neg];omega
theorem tup3 {P:Program} {f:FuncId} {args:List AV} {q r q' r':Int} {e:AV} (h:FC P f args (.tup [.ni q,.ni r,e])) (hq:q=q') (hr:r=r'):FC P f args (.tup [.ni q',.ni r',e]):=by rw [← hq,← hr];exact h
def pDM (x y:List Int):Prop:=pQ 80000 x∧pQ 80000 y
def pDM0 (x y:List Int):Prop:=pDM x y∧vl y=0
def pDM1 (x y:List Int):Prop:=pDM x y∧vl y≠0
theorem rdm0_fc (x y:List Int) (h:pDM0 x y):FC tP 133 [.sq x,.sq y] (.tup [.lit (.slice none 0 0),.lit (.slice none 0 0),lI 12]):=
 rdm_0 x y (h.1.1.mono (by decide)) (h.1.2.mono (by decide)) (by rw [h.2];rfl)
theorem rdm1_fc (x y:List Int) (h:pDM1 x y):FC tP 133 [.sq x,.sq y] (.tup [.ni (vl x / vl y),.ni (vl x % vl y),lI 0]):=by
 obtain ⟨⟨hx,hy⟩,h0⟩:=h
 have px:pNm x:=hx.mono (by decide)
 have py:pNm y:=hy.mono (by decide)
 have sx:=hx.sz
 have sy:=hy.sz
 have ly:=gZ (vl y)
 have hd0:dl (vl y)≠0:=fun h=>h0 (dl_zero.1 h)
 have gx:pNg (vl x):=sx.mono (by decide)
 have gy:pNg (vl y):=sy.mono (by decide)
 generalize hX:vl x=X at *
 generalize hY:vl y=Y at *
 have sX:Sz 80003 (X.natAbs:Int):=Sz_abs sx
 have sY:Sz 80003 (Y.natAbs:Int):=Sz_abs sy
 have hb:0<(Y.natAbs:Int):=by omega
 have pd:pDv (X.natAbs:Int) (Y.natAbs:Int):=⟨⟨by omega,hb⟩,sX.mono (by decide),sY.mono (by decide)⟩
 have sq:Sz 80003 ((X.natAbs:Int) / (Y.natAbs:Int)):=div_sz sX
 have sr:Sz 80003 ((X.natAbs:Int) % (Y.natAbs:Int)):=mod_sz sY (by omega)
 have s1:Sz 1 (1:Int):=by unfold Sz;decide
 have pxq:pX (aZ ((X.natAbs:Int) / (Y.natAbs:Int))):=fZ sq (by decide)
 have pxr:pX (aZ ((X.natAbs:Int) % (Y.natAbs:Int))):=fZ sr (by decide)
 have hdn:=dm_neg (a:=(X.natAbs:Int)) hb
 have p1:pQ 390000 (List.take 1 [(1:Int)]):=⟨by simp,fun e he=>by rw [List.mem_singleton.1 he];unfold cZ;omega⟩
 subst hX hY
 by_cases hx0:vl x<0
 ·have eX:vl x = -((vl x).natAbs:Int):=by omega
  have lr:=gZ (-vl (aZ (((vl x).natAbs:Int) % ((vl y).natAbs:Int))))
  by_cases hr0:((vl x).natAbs:Int) % ((vl y).natAbs:Int)=0
  ·obtain ⟨k1,k2⟩:=hdn.2 hr0
   have hlen:¬(((aZ (-vl (aZ (((vl x).natAbs:Int) % ((vl y).natAbs:Int))))).length:Int) > 0):=by
    rw [lr,bZ,hr0];decide
   by_cases hy0:vl y<0
   ·have eY:vl y = -((vl y).natAbs:Int):=by omega
    have:=rdm_3 x y px py (by omega) gx gy pd hx0 pxq pxr hlen hy0 (by rw [bZ];exact fZ sq.neg (by decide))
    refine tup3 this ?_ ?_
    ·rw [bZ,bZ];conv=>rhs;rw [eX,eY,Int.ediv_neg,k1]
    ·rw [bZ];conv=>rhs;rw [eX,eY,Int.emod_neg,k2]
   ·have eY:vl y=((vl y).natAbs:Int):=by omega
    have:=rdm_4 x y px py (by omega) gx gy pd hx0 pxq pxr hlen hy0
    refine tup3 this ?_ ?_
    ·rw [bZ];conv=>rhs;rw [eX,eY,k1]
    ·rw [bZ];conv=>rhs;rw [eX,eY,k2]
  ·obtain ⟨k1,k2⟩:=hdn.1 hr0
   have hne:dl (-(((vl x).natAbs:Int) % ((vl y).natAbs:Int)))≠0:=fun h=>hr0 (by have:=dl_zero.1 h;omega)
   have hlen:(((aZ (-vl (aZ (((vl x).natAbs:Int) % ((vl y).natAbs:Int))))).length:Int) > 0):=by
    rw [lr,bZ];omega
   have hsu:pSu (aZ (-vl (aZ (((vl x).natAbs:Int) / ((vl y).natAbs:Int))))) (List.take 1 [(1:Int)]):=⟨by rw [bZ];exact fZ sq.neg (by decide),p1⟩
   have had:pAd (aZ (-vl (aZ (((vl x).natAbs:Int) % ((vl y).natAbs:Int))))) (aZ ((vl y).natAbs:Int)):=⟨by rw [bZ];exact fZ sr.neg (by decide),fZ sY (by decide)⟩
   by_cases hy0:vl y<0
   ·have eY:vl y = -((vl y).natAbs:Int):=by omega
    have:=rdm_1 x y px py (by omega) gx gy pd hx0 pxq pxr hlen (by omega) hsu had hy0 (by
     rw [bZ,bZ,Int.sub_eq_add_neg];exact fZ (Sz.add sq.neg s1.neg (show 80003<100000 by decide) (by decide)) (by decide))
    refine tup3 this ?_ ?_
    ·rw [bZ,bZ,bZ];conv=>rhs;rw [eX,eY,Int.ediv_neg,k1]
    ·rw [bZ,bZ,bZ];conv=>rhs;rw [eX,eY,Int.emod_neg,k2]
   ·have eY:vl y=((vl y).natAbs:Int):=by omega
    have:=rdm_2 x y px py (by omega) gx gy pd hx0 pxq pxr hlen (by omega) hsu had hy0
    refine tup3 this ?_ ?_
    ·rw [bZ,bZ];conv=>rhs;rw [eX,eY,k1]
    ·rw [bZ,bZ,bZ];conv=>rhs;rw [eX,eY,k2]
 ·have eX:vl x=((vl x).natAbs:Int):=by omega
  by_cases hy0:vl y<0
  ·have eY:vl y = -((vl y).natAbs:Int):=by omega
   have:=rdm_5 x y px py (by omega) gx gy pd hx0 hy0 pxq
   refine tup3 this ?_ ?_
   ·rw [bZ];conv=>rhs;rw [eX,eY,Int.ediv_neg]
   ·conv=>rhs;rw [eX,eY,Int.emod_neg]
  ·have eY:vl y=((vl y).natAbs:Int):=by omega
   have:=rdm_6 x y px py (by omega) gx gy pd hx0 hy0
   refine tup3 this ?_ ?_
   ·conv=>rhs;rw [eX,eY]
   ·conv=>rhs;rw [eX,eY]
theorem Sz.abs {k:Nat} {z:Int} (h:Sz k z):Sz k (z.natAbs:Int):=by unfold Sz at *;rw [Int.natAbs_natCast];exact h
theorem rg_loop:∀(m:Nat) (a b:Int),b.toNat≤m→0≤a→0≤b→Sz 85000 a→Sz 85000 b→zoe (zeV a b) (.exit 0,zhL (Int.gcd a b:Int) 0):=by
 intro m
 induction m with
 | zero=>
  intro a b hm ha hb sa sb
  have:b=0:=by omega
  subst this
  have e:(Int.gcd a 0:Int)=a:=by rw [Int.gcd_zero_right];omega
  rw [e]
  exact zjd a 0 (by rw [gZ];decide)
 | succ m ih=>
  intro a b hm ha hb sa sb
  by_cases h0:b=0
  ·subst h0
   have e:(Int.gcd a 0:Int)=a:=by rw [Int.gcd_zero_right];omega
   rw [e]
   exact zjd a 0 (by rw [gZ];decide)
  ·have h1:=Int.emod_nonneg a h0
   have h2:=Int.emod_lt_of_pos a (show 0<b by omega)
   have hne:dl b≠0:=fun h=>h0 (dl_zero.1 h)
   have:=ih b (a % b) (by omega) hb h1 sb (mod_sz sb h0)
   rw [znL] at this
   exact zqd a b (by rw [gZ];omega) ⟨⟨ha,by omega⟩,sa.mono (by decide),sb.mono (by decide)⟩ this
theorem rGcd_fc (x y:List Int) (h:pDM x y):FC tP 132 [.sq x,.sq y] (.ni (Int.gcd (vl x) (vl y):Int)):=by
 obtain ⟨hx,hy⟩:=h
 have sx:=hx.sz
 have sy:=hy.sz
 have sX:Sz 85000 ((vl x).natAbs:Int):=(Sz.abs sx).mono (show 80000+3≤85000 by decide)
 have sY:Sz 85000 ((vl y).natAbs:Int):=(Sz.abs sy).mono (show 80000+3≤85000 by decide)
 have hl:=rg_loop _ ((vl x).natAbs:Int) ((vl y).natAbs:Int) (Nat.le_refl _) (by omega) (by omega) sX sY
 have:=rgc_0 x y _ _ (hx.mono (by decide)) (sx.mono (by decide)) (hy.mono (by decide)) (sy.mono (by decide)) hl
 have e:Int.gcd ((vl x).natAbs:Int) ((vl y).natAbs:Int)=Int.gcd (vl x) (vl y):=by
  unfold Int.gcd;simp
 rwa [e] at this
def inI (z:Int):Prop:=-9223372036854775808≤z∧z≤9223372036854775807
instance {z:Int}:Decidable (inI z):=inferInstanceAs (Decidable (_∧_))
def ctrF8:Ctr:=(133,twoC tZero (cLL pDM0 (fun _ _=>.tup [.lit (.slice none 0 0),.lit (.slice none 0 0),lI 12])) (cLL pDM1 (fun x y=>.tup [.ni (vl x / vl y),.ni (vl x % vl y),lI 0]))) ::
 (132,cLL pDM (fun x y=>.ni (Int.gcd (vl x) (vl y):Int))) ::
 ctrF7
theorem zkV:∀p∈ctrF8,jZ tP p.1 p.2:=CAll.cons (twoC_ok (zbu rdm0_fc) (zbu rdm1_fc))<|CAll.cons (zbu rGcd_fc) <|
 zkU
def ctrG:Ctr:=ctrF8++ctrX
theorem znz:∀p∈ctrG,jZ tP p.1 p.2:=fun p hp=>by
 rcases List.mem_append.1 hp with h | h
 ·exact zkV p h
 ·exact znC p h
theorem okG:(eZ tP ctrG bw).OK:=JZ znz
noncomputable section
end
noncomputable section
abbrev rv_L0 (s:St) (r:Ex × St):Prop:=Loops 0 tP (kZ tP 140 0) s r
abbrev zh3 (a:List Int) (b c d:Int):St:=⟨sp 23 [(0,.sq a),(1,aI b),(5,aI c),(6,aI d)],[],[]⟩
abbrev zkm (a:List Int) (b c d:Int):St:=⟨sp 23 [(0,.sq a),(1,aI b),(5,aI c),(6,aI d)],[],[]⟩
theorem rv_L0_0_0 (a:List Int) (b c d:Int) (h1:d≥0) (h2:r64 (c*b)) (h3:0≤d) (h4:d<(a.length:Int)) (h5:d.toNat<a.length) (h6:r64 (c*b+a.getD d.toNat 0)) (h7:r64 (d-1)):LG rv_L0 (zh3 a b c d) (zh3 a b (c*b+a.getD d.toNat 0) (d-1)):=Loops.go (LS.at okG 60 [] [0,1,5,6] [] [1] (.t h1<|.i h2<|.t h3<|.t h4<|.t h5<|.i h6<|.i h7<|.e) [1,2,3,4,5,6,7])
theorem rv_L0_0_1 (a:List Int) (b c d:Int) (h1:¬(d≥0)):rv_L0 (zh3 a b c d) (Ex.exit 0,(zkm a b c d)):=LF (LS.at okG 60 [] [0,1,5,6] [] [0] (.f h1<|.e) [1])
theorem rv_0 (p:List Int) (x a b:Int) (h1:r64 ((p.length:Int)-1)) (hL1:rv_L0 (zh3 p x (0) ((p.length:Int)-1)) (Ex.exit 0,(zkm p x a b))):FC tP 140 [.sq p,lI x] (aI a):=dZ okG 60 [] (.i h1<|.v [0,1,5,6] [] hL1<|.e) [1,0,2]
theorem fv2_0 (a b x:Int):FunI (eZ tP ctrG bw) 60 150 [.sq [a,b],lI x] [] [] [0,1,2,3,4] (aI ((0*x+List.getD [a,b] 1 0)*x+List.getD [a,b] 0 0)) [inR .i64 (0*x)=true,inR .i64 (0*x+List.getD [a,b] 1 0)=true,inR .i64 ((0*x+List.getD [a,b] 1 0)*x)=true,inR .i64 ((0*x+List.getD [a,b] 1 0)*x+List.getD [a,b] 0 0)=true]:={}
theorem fv3_0 (a b c x:Int):FunI (eZ tP ctrG bw) 60 150 [.sq [a,b,c],lI x] [] [] [0,1,2,3,4,5,6] (aI (((0*x+List.getD [a,b,c] 2 0)*x+List.getD [a,b,c] 1 0)*x+List.getD [a,b,c] 0 0)) [inR .i64 (0*x)=true,inR .i64 (0*x+List.getD [a,b,c] 2 0)=true,inR .i64 ((0*x+List.getD [a,b,c] 2 0)*x)=true,inR .i64 ((0*x+List.getD [a,b,c] 2 0)*x+List.getD [a,b,c] 1 0)=true,inR .i64 (((0*x+List.getD [a,b,c] 2 0)*x+List.getD [a,b,c] 1 0)*x)=true,inR .i64 (((0*x+List.getD [a,b,c] 2 0)*x+List.getD [a,b,c] 1 0)*x+List.getD [a,b,c] 0 0)=true]:={}
theorem fv4_0 (a b c d x:Int):FunI (eZ tP ctrG bw) 60 150 [.sq [a,b,c,d],lI x] [] [] [0,1,2,3,4,5,6,7,8] (aI ((((0*x+List.getD [a,b,c,d] 3 0)*x+List.getD [a,b,c,d] 2 0)*x+List.getD [a,b,c,d] 1 0)*x+List.getD [a,b,c,d] 0 0)) [inR .i64 (0*x)=true,inR .i64 (0*x+List.getD [a,b,c,d] 3 0)=true,inR .i64 ((0*x+List.getD [a,b,c,d] 3 0)*x)=true,inR .i64 ((0*x+List.getD [a,b,c,d] 3 0)*x+List.getD [a,b,c,d] 2 0)=true,inR .i64 (((0*x+List.getD [a,b,c,d] 3 0)*x+List.getD [a,b,c,d] 2 0)*x)=true,inR .i64 (((0*x+List.getD [a,b,c,d] 3 0)*x+List.getD [a,b,c,d] 2 0)*x+List.getD [a,b,c,d] 1 0)=true,inR .i64 ((((0*x+List.getD [a,b,c,d] 3 0)*x+List.getD [a,b,c,d] 2 0)*x+List.getD [a,b,c,d] 1 0)*x)=true,inR .i64 ((((0*x+List.getD [a,b,c,d] 3 0)*x+List.getD [a,b,c,d] 2 0)*x+List.getD [a,b,c,d] 1 0)*x+List.getD [a,b,c,d] 0 0)=true]:={}
theorem fv5_0 (a b c d e x:Int):FunI (eZ tP ctrG bw) 60 150 [.sq [a,b,c,d,e],lI x] [] [] [0,1,2,3,4,5,6,7,8,9,10] (aI (((((0*x+List.getD [a,b,c,d,e] 4 0)*x+List.getD [a,b,c,d,e] 3 0)*x+List.getD [a,b,c,d,e] 2 0)*x+List.getD [a,b,c,d,e] 1 0)*x+List.getD [a,b,c,d,e] 0 0)) [inR .i64 (0*x)=true,inR .i64 (0*x+List.getD [a,b,c,d,e] 4 0)=true,inR .i64 ((0*x+List.getD [a,b,c,d,e] 4 0)*x)=true,inR .i64 ((0*x+List.getD [a,b,c,d,e] 4 0)*x+List.getD [a,b,c,d,e] 3 0)=true,inR .i64 (((0*x+List.getD [a,b,c,d,e] 4 0)*x+List.getD [a,b,c,d,e] 3 0)*x)=true,inR .i64 (((0*x+List.getD [a,b,c,d,e] 4 0)*x+List.getD [a,b,c,d,e] 3 0)*x+List.getD [a,b,c,d,e] 2 0)=true,inR .i64 ((((0*x+List.getD [a,b,c,d,e] 4 0)*x+List.getD [a,b,c,d,e] 3 0)*x+List.getD [a,b,c,d,e] 2 0)*x)=true,inR .i64 ((((0*x+List.getD [a,b,c,d,e] 4 0)*x+List.getD [a,b,c,d,e] 3 0)*x+List.getD [a,b,c,d,e] 2 0)*x+List.getD [a,b,c,d,e] 1 0)=true,inR .i64 (((((0*x+List.getD [a,b,c,d,e] 4 0)*x+List.getD [a,b,c,d,e] 3 0)*x+List.getD [a,b,c,d,e] 2 0)*x+List.getD [a,b,c,d,e] 1 0)*x)=true,inR .i64 (((((0*x+List.getD [a,b,c,d,e] 4 0)*x+List.getD [a,b,c,d,e] 3 0)*x+List.getD [a,b,c,d,e] 2 0)*x+List.getD [a,b,c,d,e] 1 0)*x+List.getD [a,b,c,d,e] 0 0)=true]:={}
end
def pv:List Int→Int→Int
 | [],_=>0
 | c :: l,x=>pv l x*x+c
theorem vb {v x c:Int} {k:Nat} (hv:v.natAbs+1≤1001 ^ k) (hx:x.natAbs≤1001) (hc:c.natAbs≤1000):(v*x).natAbs+1001≤1001 ^ (k+1)∧(v*x+c).natAbs+1≤1001 ^ (k+1):=by
 have h1:(v*x).natAbs≤v.natAbs*1001:=by rw [Int.natAbs_mul];exact Nat.mul_le_mul_left _ hx
 have h2:v.natAbs*1001+1001≤1001 ^ (k+1):=by rw [Nat.pow_succ];omega
 omega
theorem pow5 {k:Nat} (h:k≤5):1001 ^ k≤1005010010005001:=Nat.le_trans (Nat.pow_le_pow_right (by decide) h) (by decide)
theorem pv_le {x:Int} (hx:x.natAbs≤1001):∀(l:List Int),(∀c∈l,c.natAbs≤1000)→(pv l x).natAbs+1≤1001 ^ l.length
 | [],_=>by simp [pv]
 | c :: l,h=>(vb (pv_le hx l fun d hd=>h d (by simp [hd])) hx (h c (by simp))).2
def cnd (x:Int):Int→List Int→List Prop
 | _,[]=>[]
 | v,c :: l=>(inR IntKind.i64 (v*x)=true) :: (inR IntKind.i64 (v*x+c)=true) :: cnd x (v*x+c) l
theorem zkH {x:Int}:∀ {l:List Int} {v:Int} {k:Nat},v.natAbs+1≤1001 ^ k→x.natAbs≤1001→k+l.length≤5→(∀c∈l,c.natAbs≤1000)→AllC (cnd x v l)
 | [],_,_,_,_,_,_=>.nil
 | c :: l,v,k,hv,hx,hk,h=>by
  simp only [List.length_cons] at hk
  obtain ⟨h1,h2⟩:=vb hv hx (h c (by simp))
  have:=pow5 (k:=k+1) (by omega)
  exact .cons (inR64.2 (by omega)) (.cons (inR64.2 (by omega)) (zkH h2 hx (by omega) fun d hd=>h d (by simp [hd])))
def pPv (p:List Int) (x:Int):Prop:=2≤p.length∧p.length≤5∧(∀c∈p,c.natAbs≤1000)∧x.natAbs≤1001
theorem fval_fc (p:List Int) (x:Int) (h:pPv p x):FC tP 150 [.sq p,lI x] (lI (pv p x)):=by
 obtain ⟨h2,h5,ha,hx⟩:=h
 match p,h2,h5,ha,hx with
 | [a,b],_,_,ha,hx=>exact lZ okG (fv2_0 a b x) ((zkH (l:=[b,a]) (k:=0) (by decide) hx (by simp) (fun c hc=>ha c (by simp at hc ⊢;omega))))
 | [a,b,c],_,_,ha,hx=>exact lZ okG (fv3_0 a b c x) ((zkH (l:=[c,b,a]) (k:=0) (by decide) hx (by simp) (fun c hc=>ha c (by simp at hc ⊢;omega))))
 | [a,b,c,d],_,_,ha,hx=>exact lZ okG (fv4_0 a b c d x) ((zkH (l:=[d,c,b,a]) (k:=0) (by decide) hx (by simp) (fun c hc=>ha c (by simp at hc ⊢;omega))))
 | [a,b,c,d,e],_,_,ha,hx=>exact lZ okG (fv5_0 a b c d e x) ((zkH (l:=[e,d,c,b,a]) (k:=0) (by decide) hx (by simp) (fun c hc=>ha c (by simp at hc ⊢;omega))))
 | _ :: _ :: _ :: _ :: _ :: _ :: _,_,h5,_,_=>simp at h5
theorem zfG {l:List Int} {n:Nat} (h:n<l.length):l.drop n=l.getD n 0 :: l.drop (n+1):=by
 rw [List.drop_eq_getElem_cons h];simp [List.getD,h]
theorem zgi (p:List Int) (x:Int) (hp:p.length≤5) (ha:∀c∈p,c.natAbs≤1000) (hx:x.natAbs≤1001):∀(n:Nat),n≤p.length→rv_L0 (zh3 p x (pv (p.drop n) x) ((n:Int)-1)) (Ex.exit 0,zkm p x (pv p x) (-1))
 | 0,_=>by have:=rv_L0_0_1 p x (pv (p.drop 0) x) (((0:Nat):Int)-1) (by simp);exact this
 | n + 1,hn=>by
  have hlt:n<p.length:=by omega
  have e1:((n+1:Nat):Int)-1=(n:Int):=by omega
  have hv:=pv_le hx (p.drop (n+1)) fun c hc=>ha c (List.mem_of_mem_drop hc)
  have hg:(p.getD n 0).natAbs≤1000:=by
   rw [List.getD_eq_getElem?_getD,List.getElem?_eq_getElem hlt];exact ha _ (List.getElem_mem hlt)
  obtain ⟨b1,b2⟩:=vb hv hx hg
  have hk:(p.drop (n+1)).length+1≤5:=by simp;omega
  have:=pow5 hk
  have ih:=zgi p x hp ha hx n (by omega)
  rw [zfG hlt] at ih
  rw [e1]
  refine rv_L0_0_0 p x _ _ (by omega) (by omega) (by omega) (by omega) (by omega) ?_ (by omega) ?_
  ·rw [Int.toNat_natCast];omega
  ·rw [Int.toNat_natCast];exact ih
theorem rvalue_fc (p:List Int) (x:Int) (h:pPv p x):FC tP 140 [.sq p,lI x] (lI (pv p x)):=by
 have l:=zgi p x h.2.1 h.2.2.1 h.2.2.2 p.length (Nat.le_refl _)
 rw [List.drop_length] at l
 exact rv_0 p x (pv p x) (-1) (by have:=h.2.1;omega) l
def ctrH:Ctr:=(150,cLI pPv (fun p x=>lI (pv p x))) :: (140,cLI pPv (fun p x=>lI (pv p x))) :: ctrG
theorem zjx:∀p∈ctrH,jZ tP p.1 p.2:=CAll.cons (cLI_ok fval_fc) (CAll.cons (cLI_ok rvalue_fc) znz)
theorem okH:(eZ tP ctrH bw).OK:=JZ zjx
def cIP (p:List Int→Int→Prop) (r:List Int→Int→AV) (args:List AV):M AV:=match args with
 | [.lit (.int .i64 n),.pd [.sq l] 0]=>do
  tell (p l n)
  M.pure (r l n)
 | _=>fail 218
theorem cIP_ok {P:Program} {f:FuncId} {p:List Int→Int→Prop} {r:List Int→Int→AV} (h:∀l n,p l n→FC P f [lI n,.pd [.sq l] 0] (r l n)):jZ P f (cIP p r):=by
 intro args _
 unfold cIP
 split
 ·exact Spec.bind (Spec.tell fun hp=>Spec.pure' (h _ _ hp))
 ·exact Spec.fail
noncomputable section
theorem d1_0 (x:Int) (p:List Int) (h1:pPv p x):FC tP 149 [lI x,.pd [.sq p] 0] (.lit (.bool (pv p x==0))):=dZ okH 60 [] (.c h1<|.e) [1]
theorem d2_0 (x:Int) (p:List Int) (h1:0<(p.length:Int)) (h2:0<p.length) (h3:¬(x=0)) (h4:r64 (Int.tdiv (p.getD 0 0) x)) (h5:x≠Int.tdiv (p.getD 0 0) x) (h6:1<(p.length:Int)) (h7:1<p.length) (h8:3<(p.length:Int)) (h9:3<p.length) (h10:r64 (x*p.getD 3 0)) (h11:r64 (p.getD 1 0-x*p.getD 3 0)) (h12:r64 (Int.tdiv (p.getD 0 0) x-x)) (h13:¬(Int.tdiv (p.getD 0 0) x-x=0)) (h14:r64 (Int.tdiv (p.getD 1 0-x*p.getD 3 0) (Int.tdiv (p.getD 0 0) x-x))) (h15:Int.tmod (p.getD 1 0-x*p.getD 3 0) (Int.tdiv (p.getD 0 0) x-x)=0) (h16:r64 (x+Int.tdiv (p.getD 0 0) x)) (h17:r64 (p.getD 3 0-Int.tdiv (p.getD 1 0-x*p.getD 3 0) (Int.tdiv (p.getD 0 0) x-x))) (h18:r64 (Int.tdiv (p.getD 1 0-x*p.getD 3 0) (Int.tdiv (p.getD 0 0) x-x)*(p.getD 3 0-Int.tdiv (p.getD 1 0-x*p.getD 3 0) (Int.tdiv (p.getD 0 0) x-x)))) (h19:r64 (x+Int.tdiv (p.getD 0 0) x+Int.tdiv (p.getD 1 0-x*p.getD 3 0) (Int.tdiv (p.getD 0 0) x-x)*(p.getD 3 0-Int.tdiv (p.getD 1 0-x*p.getD 3 0) (Int.tdiv (p.getD 0 0) x-x)))) (h20:2<(p.length:Int)) (h21:2<p.length):FC tP 151 [lI x,.pd [.sq p] 0] (.lit (.bool (x+Int.tdiv (p.getD 0 0) x+Int.tdiv (p.getD 1 0-x*p.getD 3 0) (Int.tdiv (p.getD 0 0) x-x)*(p.getD 3 0-Int.tdiv (p.getD 1 0-x*p.getD 3 0) (Int.tdiv (p.getD 0 0) x-x))==p.getD 2 0))):=dZ okH 60 [1,1] (.t h1<|.t h2<|.y h3<|.i h4<|.c (bne_iff_ne.2 h5)<|.t h6<|.t h7<|.t h8<|.t h9<|.i h10<|.i h11<|.i h12<|.y h13<|.i h14<|.c (beq_iff_eq.2 h15)<|.i h16<|.i h17<|.i h18<|.i h19<|.t h20<|.t h21<|.e) [0,1,2,3,4,5,0,6,7,0,8,9,10,11,12,13,14,12,13,15,16,0,8,9,17,18,19,0,20,21]
theorem d2_1 (x:Int) (p:List Int) (h1:0<(p.length:Int)) (h2:0<p.length) (h3:¬(x=0)) (h4:r64 (Int.tdiv (p.getD 0 0) x)) (h5:x≠Int.tdiv (p.getD 0 0) x) (h6:1<(p.length:Int)) (h7:1<p.length) (h8:3<(p.length:Int)) (h9:3<p.length) (h10:r64 (x*p.getD 3 0)) (h11:r64 (p.getD 1 0-x*p.getD 3 0)) (h12:r64 (Int.tdiv (p.getD 0 0) x-x)) (h13:¬(Int.tdiv (p.getD 0 0) x-x=0)) (h14:r64 (Int.tdiv (p.getD 1 0-x*p.getD 3 0) (Int.tdiv (p.getD 0 0) x-x))) (h15:Int.tmod (p.getD 1 0-x*p.getD 3 0) (Int.tdiv (p.getD 0 0) x-x)≠0):FC tP 151 [lI x,.pd [.sq p] 0] (.ff):=dZ okH 60 [1,0] (.t h1<|.t h2<|.y h3<|.i h4<|.c (bne_iff_ne.2 h5)<|.t h6<|.t h7<|.t h8<|.t h9<|.i h10<|.i h11<|.i h12<|.y h13<|.i h14<|.c (beq_false_of_ne h15)<|.e) [0,1,2,3,4,5,0,6,7,0,8,9,10,11,12,13,14,12,13,15]
theorem d2_2 (x:Int) (p:List Int) (h1:0<(p.length:Int)) (h2:0<p.length) (h3:¬(x=0)) (h4:r64 (Int.tdiv (p.getD 0 0) x)) (h5:x=Int.tdiv (p.getD 0 0) x) (h6:1<(p.length:Int)) (h7:1<p.length) (h8:3<(p.length:Int)) (h9:3<p.length) (h10:r64 (x*p.getD 3 0)) (h11:p.getD 1 0≠x*p.getD 3 0):FC tP 151 [lI x,.pd [.sq p] 0] (.ff):=dZ okH 60 [0,1] (.t h1<|.t h2<|.y h3<|.i h4<|.c (bne_eq_false_iff_eq.2 h5)<|.t h6<|.t h7<|.t h8<|.t h9<|.i h10<|.c (bne_iff_ne.2 h11)<|.e) [0,1,2,3,4,5,0,6,7,0,8,9,10,11]
abbrev zmw (s:St) (r:Ex × St):Prop:=Loops 0 tP (kZ tP 151 0) s r
abbrev zcY (a:Int) (b:List Int) (c:Int):St:=⟨sp 83 [(0,aI a),(1,.pd [.sq b] 0),(7,aI c)],[],[]⟩
abbrev zjz (a:Int) (b:List Int):St:=⟨sp 83 [(3,.tt)],[],[]⟩
abbrev zjA (a:Int) (b:List Int) (c:Int):St:=⟨sp 83 [(0,aI a),(1,.pd [.sq b] 0),(7,aI c)],[],[]⟩
theorem d2_L0_0_0 (a:Int) (b:List Int) (d:Int) (h1:d≤3000) (h2:r64 (d*d)) (h3:3<(b.length:Int)) (h4:3<b.length) (h5:r64 (b.getD 3 0*d)) (h6:r64 (d*d-b.getD 3 0*d)) (h7:2<(b.length:Int)) (h8:2<b.length) (h9:r64 (d*d-b.getD 3 0*d+b.getD 2 0)) (h10:r64 (2*a)) (h11:r64 (d*d-b.getD 3 0*d+b.getD 2 0-2*a)) (h12:d*d-b.getD 3 0*d+b.getD 2 0-2*a=0):zmw (zcY a b d) (Ex.ret,(zjz a b)):=LF (LS.at okH 60 [] [3] [] [1,1] (.t h1<|.i h2<|.t h3<|.t h4<|.i h5<|.i h6<|.t h7<|.t h8<|.i h9<|.i h10<|.i h11<|.c (beq_iff_eq.2 h12)<|.e) [1,2,0,3,4,5,6,0,7,8,9,10,11,12])
theorem d2_L0_0_1 (a:Int) (b:List Int) (d:Int) (h1:d≤3000) (h2:r64 (d*d)) (h3:3<(b.length:Int)) (h4:3<b.length) (h5:r64 (b.getD 3 0*d)) (h6:r64 (d*d-b.getD 3 0*d)) (h7:2<(b.length:Int)) (h8:2<b.length) (h9:r64 (d*d-b.getD 3 0*d+b.getD 2 0)) (h10:r64 (2*a)) (h11:r64 (d*d-b.getD 3 0*d+b.getD 2 0-2*a)) (h12:d*d-b.getD 3 0*d+b.getD 2 0-2*a≠0) (h13:r64 (d+1)):LG zmw (zcY a b d) (zcY a b (d+1)):=Loops.go (LS.at okH 60 [] [0,1,7] [] [1,0] (.t h1<|.i h2<|.t h3<|.t h4<|.i h5<|.i h6<|.t h7<|.t h8<|.i h9<|.i h10<|.i h11<|.c (beq_false_of_ne h12)<|.i h13<|.e) [1,2,0,3,4,5,6,0,7,8,9,10,11,12,13])
theorem d2_L0_0_2 (a:Int) (b:List Int) (c:Int) (h1:¬(c≤3000)):zmw (zcY a b c) (Ex.exit 0,(zjA a b c)):=LF (LS.at okH 60 [] [0,1,7] [] [0] (.f h1<|.e) [1])
theorem d2_3 (x:Int) (p:List Int) (h1:0<(p.length:Int)) (h2:0<p.length) (h3:¬(x=0)) (h4:r64 (Int.tdiv (p.getD 0 0) x)) (h5:x=Int.tdiv (p.getD 0 0) x) (h6:1<(p.length:Int)) (h7:1<p.length) (h8:3<(p.length:Int)) (h9:3<p.length) (h10:r64 (x*p.getD 3 0)) (h11:p.getD 1 0=x*p.getD 3 0) (hL1:zmw (zcY x p (-3000)) (Ex.ret,(zjz x p))):FC tP 151 [lI x,.pd [.sq p] 0] (.tt):=dZ okH 60 [0,0] (.t h1<|.t h2<|.y h3<|.i h4<|.c (bne_eq_false_iff_eq.2 h5)<|.t h6<|.t h7<|.t h8<|.t h9<|.i h10<|.c (bne_eq_false_iff_eq.2 h11)<|.v [0,1,7] [] hL1<|.e) [0,1,2,3,4,5,0,6,7,0,8,9,10,11,0,12]
theorem d2_4 (x:Int) (p:List Int) (a:Int) (h1:0<(p.length:Int)) (h2:0<p.length) (h3:¬(x=0)) (h4:r64 (Int.tdiv (p.getD 0 0) x)) (h5:x=Int.tdiv (p.getD 0 0) x) (h6:1<(p.length:Int)) (h7:1<p.length) (h8:3<(p.length:Int)) (h9:3<p.length) (h10:r64 (x*p.getD 3 0)) (h11:p.getD 1 0=x*p.getD 3 0) (hL1:zmw (zcY x p (-3000)) (Ex.exit 0,(zjA x p a))):FC tP 151 [lI x,.pd [.sq p] 0] (.ff):=dZ okH 60 [0,0] (.t h1<|.t h2<|.y h3<|.i h4<|.c (bne_eq_false_iff_eq.2 h5)<|.t h6<|.t h7<|.t h8<|.t h9<|.i h10<|.c (bne_eq_false_iff_eq.2 h11)<|.v [0,1,7] [] hL1<|.e) [0,1,2,3,4,5,0,6,7,0,8,9,10,11,0,12]
end
theorem zlp {a b:Int} {A B:Nat} (ha:a.natAbs≤A) (hb:b.natAbs≤B):(a*b).natAbs≤A*B:=by
 rw [Int.natAbs_mul];exact Nat.mul_le_mul ha hb
theorem tdivB (a b:Int):(Int.tdiv a b).natAbs≤a.natAbs:=by
 rw [Int.natAbs_tdiv];exact Nat.div_le_self _ _
theorem zeb {p:List Int} (h:∀c∈p,c.natAbs≤1000) (i:Nat):(p.getD i 0).natAbs≤1000:=by
 rw [List.getD_eq_getElem?_getD]
 by_cases hi:i<p.length
 ·rw [List.getElem?_eq_getElem hi];exact h _ (List.getElem_mem hi)
 ·rw [List.getElem?_eq_none (by omega)];decide
def Q2 (p:List Int) (b:Int):Prop:=∃a:Int,b+Int.tdiv (p.getD 0 0) b+a*(p.getD 3 0-a)=p.getD 2 0∧a*Int.tdiv (p.getD 0 0) b+b*(p.getD 3 0-a)=p.getD 1 0
noncomputable def q2 (p:List Int) (b:Int):Bool:=@decide (Q2 p b) (Classical.propDecidable _)
theorem q2_t {p:List Int} {b:Int} (h:Q2 p b):q2 p b=true:=by unfold q2;exact @decide_eq_true _ (Classical.propDecidable _) h
theorem zrW {p:List Int} {b:Int} (h:¬Q2 p b):q2 p b=false:=by unfold q2;exact @decide_eq_false _ (Classical.propDecidable _) h
theorem q2_iff {p:List Int} {b:Int}:q2 p b=true↔Q2 p b:=by unfold q2;exact @decide_eq_true_iff _ (Classical.propDecidable _)
def pD2 (p:List Int) (b:Int):Prop:=p.length=5∧(∀c∈p,c.natAbs≤1000)∧b≠0∧b.natAbs≤1000
theorem d2_loop {p:List Int} {b:Int} (h:pD2 p b):∀(n:Nat) (t:Int),t+n=3001→-3000≤t →
 (∃a,t≤a∧a≤3000∧a*a-p.getD 3 0*a+p.getD 2 0-2*b=0)∧zmw (zcY b p t) (Ex.ret,zjz b p) ∨
 (¬ ∃a,t≤a∧a≤3000∧a*a-p.getD 3 0*a+p.getD 2 0-2*b=0)∧zmw (zcY b p t) (Ex.exit 0,zjA b p 3001)
 | 0,t,ht,_=>by
  obtain rfl:t=3001:=by omega
  exact .inr ⟨fun ⟨a,h1,h2,_⟩=>by omega,d2_L0_0_2 b p 3001 (by omega)⟩
 | n + 1,t,ht,hm=>by
  obtain ⟨hl,ha,h0,hb⟩:=h
  have g3:=zeb ha 3
  have g2:=zeb ha 2
  have b1:=zlp (a:=t) (b:=t) (A:=3000) (B:=3000) (by omega) (by omega)
  have b2:=zlp (a:=p.getD 3 0) (b:=t) (A:=1000) (B:=3000) g3 (by omega)
  by_cases e:t*t-p.getD 3 0*t+p.getD 2 0-2*b=0
  ·exact .inl ⟨⟨t,by omega,by omega,e⟩,d2_L0_0_0 b p t (by omega) (by omega) (by omega) (by omega) (by omega) (by omega) (by omega) (by omega) (by omega) (by omega) (by omega) e⟩
  ·have go:=fun r=>@d2_L0_0_1 b p t (by omega) (by omega) (by omega) (by omega) (by omega) (by omega) (by omega) (by omega) (by omega) (by omega) (by omega) e (by omega) r
   rcases d2_loop ⟨hl,ha,h0,hb⟩ n (t+1) (by omega) (by omega) with ⟨⟨a,h1,h2,h3⟩,k⟩ | ⟨hn,k⟩
   ·exact .inl ⟨⟨a,by omega,h2,h3⟩,go _ k⟩
   ·refine .inr ⟨fun ⟨a,h1,h2,h3⟩=>?_,go _ k⟩
    rcases Int.lt_or_eq_of_le h1 with h | h
    ·exact hn ⟨a,by omega,h2,h3⟩
    ·subst h;exact e h3
theorem zmy (p:List Int) (x:Int) (h:pPv p x):FC tP 149 [lI x,.pd [.sq p] 0] (.lit (.bool (pv p x==0))):=d1_0 x p h
theorem zmz (p:List Int) (b:Int) (h:pD2 p b):FC tP 151 [lI b,.pd [.sq p] 0] (.lit (.bool (q2 p b))):=by
  have h':=h
  obtain ⟨hl,ha,h0,hb⟩:=h'
  have g0:=zeb ha 0
  have g1:=zeb ha 1
  have g2:=zeb ha 2
  have g3:=zeb ha 3
  have bd:=tdivB (p.getD 0 0) b
  have bm:=zlp hb g3
  by_cases e:b=Int.tdiv (p.getD 0 0) b
  · by_cases e1:p.getD 1 0=b*p.getD 3 0
    · rcases d2_loop h 6001 (-3000) (by omega) (by omega) with ⟨⟨a,h1,h2,h3⟩,k⟩ | ⟨hn,k⟩
      · have hq:Q2 p b:=⟨a,by rw [← e];grind,by rw [← e];grind⟩
        rw [q2_t hq]
        exact(d2_3 b p (by omega) (by omega) h0 (by omega) e (by omega) (by omega) (by omega) (by omega) (by omega) e1 k).res fun E v hv=>by cases hv;exact .lit _
      · have hq:¬Q2 p b:=fun ⟨a,h1,h2⟩=>by
          rw [← e] at h1 h2
          by_cases hr:-3000≤a∧a≤3000
          · exact hn ⟨a,hr.1,hr.2,by grind⟩
          · have k1:(a*(p.getD 3 0-a)).natAbs≤3000:=by omega
            rw [Int.natAbs_mul] at k1
            have k2:3001*2001≤a.natAbs*(p.getD 3 0-a).natAbs:=Nat.mul_le_mul (by omega) (by omega)
            omega
        rw [zrW hq]
        exact(d2_4 b p 3001 (by omega) (by omega) h0 (by omega) e (by omega) (by omega) (by omega) (by omega) (by omega) e1 k).res fun E v hv=>by cases hv;exact .lit _
    · have hq:¬Q2 p b:=fun ⟨a,h1,h2⟩=>by rw [← e] at h2;grind
      rw [zrW hq]
      exact(d2_2 b p (by omega) (by omega) h0 (by omega) e (by omega) (by omega) (by omega) (by omega) (by omega) e1).res fun E v hv=>by cases hv;exact .lit _
  · have e0:¬(Int.tdiv (p.getD 0 0) b-b=0):=by omega
    have bt:=tdivB (p.getD 1 0-b*p.getD 3 0) (Int.tdiv (p.getD 0 0) b-b)
    have hm:=Int.mul_tdiv_add_tmod (p.getD 1 0-b*p.getD 3 0) (Int.tdiv (p.getD 0 0) b-b)
    by_cases er:Int.tmod (p.getD 1 0-b*p.getD 3 0) (Int.tdiv (p.getD 0 0) b-b)=0
    · have bp:=zlp (a:=Int.tdiv (p.getD 1 0-b*p.getD 3 0) (Int.tdiv (p.getD 0 0) b-b)) (b:=p.getD 3 0-Int.tdiv (p.getD 1 0-b*p.getD 3 0) (Int.tdiv (p.getD 0 0) b-b)) (A:=1001000) (B:=1002000) (by omega) (by omega)
      have k:=d2_0 b p (by omega) (by omega) h0 (by omega) e (by omega) (by omega) (by omega) (by omega) (by omega) (by omega) (by omega) e0 (by omega) er (by omega) (by omega) (by omega) (by omega) (by omega) (by omega)
      rw [er] at hm
      generalize Int.tdiv (p.getD 1 0-b*p.getD 3 0) (Int.tdiv (p.getD 0 0) b-b)=a0 at *
      have hq:q2 p b=(b+Int.tdiv (p.getD 0 0) b+a0*(p.getD 3 0-a0)==p.getD 2 0):=by
        rw [Bool.eq_iff_iff,q2_iff,beq_iff_eq]
        constructor
        · rintro ⟨a,h1,h2⟩
          have:(Int.tdiv (p.getD 0 0) b-b)*a=(Int.tdiv (p.getD 0 0) b-b)*a0:=by grind
          rw [← Int.eq_of_mul_eq_mul_left e0 this];exact h1
        · intro h1
          exact ⟨a0,h1,by grind⟩
      rw [hq];exact k
    · have hq:¬Q2 p b:=fun ⟨a,h1,h2⟩=>by
        apply er
        apply Int.tmod_eq_zero_of_dvd
        exact ⟨a,by grind⟩
      rw [zrW hq]
      exact(d2_1 b p (by omega) (by omega) h0 (by omega) e (by omega) (by omega) (by omega) (by omega) (by omega) (by omega) (by omega) e0 (by omega) er).res fun E v hv=>by cases hv;exact .lit _
noncomputable def ctrH2:Ctr:=(149,cIP pPv (fun p x=>.lit (.bool (pv p x==0)))) :: (151,cIP pD2 (fun p x=>.lit (.bool (q2 p x)))) :: ctrH
theorem ctrH2_all:∀p∈ctrH2,jZ tP p.1 p.2:=CAll.cons (cIP_ok zmy) (CAll.cons (cIP_ok zmz) zjx)
theorem za6:(eZ tP ctrH2 bw).OK:=JZ ctrH2_all
end Go.Proofs.YtagbldogmjhdpaaGreatDoor
end
