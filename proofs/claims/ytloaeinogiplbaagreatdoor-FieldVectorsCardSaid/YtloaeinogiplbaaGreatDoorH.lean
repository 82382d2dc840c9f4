/- Part of a proof about a given program: see the last module of the claim. -/
import Derived.Test.YtloaeinogiplbaaGreatDoorG
section
open Go Go.Ev Go.RowKit
namespace Go.Proofs.YtloaeinogiplbaaGreatDoor
open Go.Proofs
set_option maxRecDepth 100000
set_option maxHeartbeats 1000000
set_option linter.unusedVariables false
set_option linter.unusedSimpArgs false
def cLWW (p:List Int→Int→Int→Prop) [∀l a b,Tst (p l a b)] (r:List Int→Int→Int→AV) (args:List AV):M AV:=match args with
 | [x,y,z]=>do
  let l ← asK (.sl .whole) x
  let a ← asW y
  let b ← asW z
  tellD (p l a b) (Tst.b (p l a b))
  gives (r l a b)
 | _=>fail 302
abbrev fieldK:EK:=.pr (.sl (.int .i64)) (.pr (.int .i64) (.pr (.int .i64) (.int .i64)))
def pPo (f:fieldK.ty):Prop:=zdA f.1
instance tPo {f:fieldK.ty}:Tst (pPo f):=⟨false,fun h=>by cases h⟩
noncomputable def ctrP1:Ctr:=(153,cLWW zdz (fun l a b=>.lit (.int .i64 (zai l a b).sign))) :: (105,cD1 fieldK pPo (fun f=>.lst .whole f.1)) :: (192,cD1 (.sl .whole) zdA (fun p=>.lst .whole (der p))) :: ctrH7
abbrev kdP:List (TypeId × EK):=[(100,.whole),(124,.sl .whole)]
theorem cLWW_ok {P:Program} {f:FuncId} {p:List Int→Int→Int→Prop} [∀l a b,Tst (p l a b)] {r:List Int→Int→Int→AV} (h:∀l a b,p l a b→FC P f [.lst .whole l,W a,W b] (r l a b)):kZ P f (cLWW p r):=by
 intro args _
 unfold cLWW
 split
 ·exact Spec.bind (asK_spec.mono fun l hl=>Spec.bind (asW_spec.mono fun a ha=>Spec.bind (asW_spec.mono fun b hb=>Spec.bind (Spec.tellD Tst.ok fun hp=>Spec.gives ((h l a b hp).le (.cons hl (.cons ha (.cons hb .nil))) (Le.refl _))))))
 ·exact Spec.fail
theorem zlF:∀p∈ctrP1,kZ Tryz.prog p.1 p.2:=CAll.cons (cLWW_ok zjT)<|CAll.cons (zhR fun f h=>ziE f.1 f.2.1 f.2.2.1 f.2.2.2 h)<|CAll.cons (zhR zpq) zhY
theorem okP1:(dZ Tryz.prog ctrP1 bw [] kdP).OK:=DZ zbQ mixed zlF zbM
noncomputable section
abbrev zkK (s:St) (r:Ex × St):Prop:=Loops 0 Tryz.prog (lZ Tryz.prog 194 0) s r
abbrev zdI (a b:Int) (c:List (List Int)) (d e f g:Int):St:=⟨sp 33 [(0,aI a),(2,.pd [aI b] 0),(5,aI e),(6,aI f),(10,.lst (EK.sl EK.whole) c),(11,aI d),(12,aI g)],[],[]⟩
abbrev zkL (a b:Int) (c:List (List Int)) (d e f g:Int):St:=⟨sp 33 [(0,aI a),(2,.pd [aI b] 0),(5,aI e),(6,aI f),(10,.lst (EK.sl EK.whole) c),(11,aI d),(12,aI g)],[],[]⟩
theorem rc_L0_0_0 (a b:Int) (d:List (List Int)) (f g j l:Int) (h1:l<f) (h2:0≤l) (h3:l<(d.length:Int)) (h4:cZ a) (h5:cZ b) (h6:zdz (d.getD l.toNat (EK.dflt (EK.sl EK.whole))) a b) (h7:r64 ((zai (d.getD l.toNat (EK.dflt (EK.sl EK.whole))) a b).sign*j)) (h8:(zai (d.getD l.toNat (EK.dflt (EK.sl EK.whole))) a b).sign*j<0) (h9:r64 (g+1)) (h10:(zai (d.getD l.toNat (EK.dflt (EK.sl EK.whole))) a b).sign≠0) (h11:r64 (l+1)) {r:Ex × St} (k:zkK (zdI a b d f (g+1) (zai (d.getD l.toNat (EK.dflt (EK.sl EK.whole))) a b).sign (l+1)) r):zkK (zdI a b d f g j l) r:=Loops.go (LS.at okP1 60 [] [0,2,5,6,10,11,12] [] [1,1,1] (.t h1<|.t h2<|.t h3<|.c h4<|.c h5<|.c h6<|.i h7<|.t h8<|.i h9<|.c (bne_iff_ne.2 h10)<|.i h11<|.e) [1,2,3,4,5,0,0,6,7,8,9,10,11]) k
theorem rc_L0_0_2 (a b:Int) (d:List (List Int)) (g j l m:Int) (h1:m<g) (h2:0≤m) (h3:m<(d.length:Int)) (h4:cZ a) (h5:cZ b) (h6:zdz (d.getD m.toNat (EK.dflt (EK.sl EK.whole))) a b) (h7:r64 ((zai (d.getD m.toNat (EK.dflt (EK.sl EK.whole))) a b).sign*l)) (h8:¬((zai (d.getD m.toNat (EK.dflt (EK.sl EK.whole))) a b).sign*l<0)) (h9:(zai (d.getD m.toNat (EK.dflt (EK.sl EK.whole))) a b).sign≠0) (h10:r64 (m+1)) {r:Ex × St} (k:zkK (zdI a b d g j (zai (d.getD m.toNat (EK.dflt (EK.sl EK.whole))) a b).sign (m+1)) r):zkK (zdI a b d g j l m) r:=Loops.go (LS.at okP1 60 [] [0,2,5,6,10,11,12] [] [1,0,1] (.t h1<|.t h2<|.t h3<|.c h4<|.c h5<|.c h6<|.i h7<|.f h8<|.c (bne_iff_ne.2 h9)<|.i h10<|.e) [1,2,3,4,5,0,0,6,7,8,9,10]) k
theorem rc_L0_0_3 (a b:Int) (d:List (List Int)) (g j l m:Int) (h1:m<g) (h2:0≤m) (h3:m<(d.length:Int)) (h4:cZ a) (h5:cZ b) (h6:zdz (d.getD m.toNat (EK.dflt (EK.sl EK.whole))) a b) (h7:r64 ((zai (d.getD m.toNat (EK.dflt (EK.sl EK.whole))) a b).sign*l)) (h8:¬((zai (d.getD m.toNat (EK.dflt (EK.sl EK.whole))) a b).sign*l<0)) (h9:(zai (d.getD m.toNat (EK.dflt (EK.sl EK.whole))) a b).sign=0) (h10:r64 (m+1)) {r:Ex × St} (k:zkK (zdI a b d g j l (m+1)) r):zkK (zdI a b d g j l m) r:=Loops.go (LS.at okP1 60 [] [0,2,5,6,10,11,12] [] [1,0,0] (.t h1<|.t h2<|.t h3<|.c h4<|.c h5<|.c h6<|.i h7<|.f h8<|.c (bne_eq_false_iff_eq.2 h9)<|.i h10<|.e) [1,2,3,4,5,0,0,6,7,8,9,10]) k
theorem rc_L0_0_4 (a b:Int) (c:List (List Int)) (d g i j:Int) (h1:¬(j<d)):zkK (zdI a b c d g i j) (Ex.exit 0,(zkL a b c d g i j)):=Loops.fin (LS.at okP1 60 [] [0,2,5,6,10,11,12] [] [0] (.f h1<|.e) [1]) (fun h=>nomatch h)
theorem rc_0 (a:Int) (L:List (List Int)) (d b c f:Int) (hL1:zkK (zdI a d L ((L.length:Int)) (0) (0) (0)) (Ex.exit 0,(zkL a d L ((L.length:Int)) b c f))):FC Tryz.prog 194 [.lit (.int .i64 a),.pd [.lst (.sl .whole) L] 0,.pd [.lit (.int .i64 d)] 0] (aI b):=eZ okP1 60 [] (.v [0,2,5,6,10,11,12] [] hL1<|.e) [0,1]
end
open Go.Kf
def svZ (L:List (List Int)) (a b:Int):List Int:=L.map fun p=>zai p a b
theorem sgn3 (z:Int):z.sign = -1∨z.sign=0∨z.sign=1:=by
 rcases Int.lt_trichotomy z 0 with h | h | h
 ·exact .inl (Int.sign_eq_neg_one_of_neg h)
 ·exact .inr (.inl (by rw [h];rfl))
 ·exact .inr (.inr (Int.sign_eq_one_of_pos h))
theorem zkM {L:List (List Int)} {a d:Int} (ha:a.natAbs≤1000000) (hd:d.natAbs≤1000000) (hL:∀p∈L,zdz p a d) (hl:L.length≤1000):∀(m i:Nat) (n l:Int),i+m=L.length→0≤n→n≤i→(l = -1∨l=0∨l=1) →
 ∃x y z,zkK (zdI a d L L.length n l i) (Ex.exit 0,zkL a d L L.length x y z)∧x=(zbk ((svZ L a d).drop i) n l).1
 | 0,i,n,l,hi,h0,h1,_=>by
  obtain rfl:i=L.length:=by omega
  refine ⟨n,l,L.length,rc_L0_0_4 a d L L.length n l _ (by omega),?_⟩
  rw [List.drop_of_length_le (by simp [svZ])];rfl
 | m + 1, i,n,l,hi,h0,h1,h3=>by
  have hlt:i<L.length:=by omega
  have hg:L.getD i []=L[i]:=by simp [List.getD,hlt]
  have hp:zdz (L.getD i []) a d:=by rw [hg];exact hL _ (List.getElem_mem hlt)
  have hx:(svZ L a d).drop i=zai (L.getD i []) a d :: (svZ L a d).drop (i+1):=by
   rw [List.drop_eq_getElem_cons (by simpa [svZ] using hlt),hg];simp [svZ]
  have f1:cZ a:=by unfold cZ;omega
  have f2:cZ d:=by unfold cZ;omega
  rw [hx]
  unfold zbk
  generalize hv:zai (L.getD i []) a d=v at *
  have hs:=sgn3 v
  have ev:zai (L.getD (Int.toNat (i:Int)) (EK.dflt (EK.sl EK.whole))) a d=v:=hv
  by_cases hz:v.sign=0
  ·rw [if_pos hz]
   obtain ⟨x,y,z,ih,e⟩:=zkM ha hd hL hl m (i+1) n l (by omega) h0 (by omega) h3
   refine ⟨x,y,z,?_,e⟩
   exact rc_L0_0_3 a d L L.length n l i (by omega) (by omega) (by omega) f1 f2 hp (by rw [ev,hz];omega) (by rw [ev,hz];omega) (by rw [ev];exact hz) (by omega) ih
  ·rw [if_neg hz]
   have hr:-9223372036854775808≤v.sign*l∧v.sign*l≤9223372036854775807:=by rcases hs with e | e | e<;>rcases h3 with f | f | f<;>rw [e,f]<;>decide
   by_cases hc:l≠0∧v.sign≠l
   ·rw [if_pos hc]
    have hneg:v.sign*l<0:=by
     obtain ⟨c1,c2⟩:=hc
     rcases hs with e | e | e<;>rcases h3 with f | f | f<;>first | exact absurd e hz | exact absurd f c1 | exact absurd (e.trans f.symm) c2 | (rw [e,f];decide)
    obtain ⟨x,y,z,ih,e⟩:=zkM ha hd hL hl m (i+1) (n+1) v.sign (by omega) (by omega) (by omega) hs
    refine ⟨x,y,z,?_,e⟩
    refine rc_L0_0_0 a d L L.length n l i (by omega) (by omega) (by omega) f1 f2 hp (by rw [ev];exact hr) (by rw [ev];exact hneg) (by omega) (by rw [ev];exact hz) (by omega) ?_
    rw [ev];exact ih
   ·rw [if_neg hc]
    have hneg:¬v.sign*l<0:=by
     rcases hs with e | e | e<;>rcases h3 with f | f | f<;>first | (rw [e,f];decide) | (exfalso;exact hc ⟨by rw [f];decide,by rw [e,f];decide⟩)
    obtain ⟨x,y,z,ih,e⟩:=zkM ha hd hL hl m (i+1) n v.sign (by omega) h0 (by omega) hs
    refine ⟨x,y,z,?_,e⟩
    refine rc_L0_0_2 a d L L.length n l i (by omega) (by omega) (by omega) f1 f2 hp (by rw [ev];exact hr) (by rw [ev];exact hneg) (by rw [ev];exact hz) (by omega) ?_
    rw [ev];exact ih
def pRc (L:List (List Int)) (a d:Int):Prop:=a.natAbs≤1000000∧d.natAbs≤1000000∧(∀p∈L,zdz p a d)∧L.length≤1000
theorem roots1_fc (L:List (List Int)) (a d:Int) (h:pRc L a d):FC Tryz.prog 194 [.lit (.int .i64 a),.pd [.lst (.sl .whole) L] 0,.pd [.lit (.int .i64 d)] 0] (.lit (.int .i64 (zbk (svZ L a d) 0 0).1)):=by
 obtain ⟨x,y,z,k,e⟩:=zkM h.1 h.2.1 h.2.2.1 h.2.2.2 L.length 0 0 0 (by omega) (by omega) (by omega) (.inr (.inl rfl))
 have:=rc_0 a L d x y z k
 rw [e] at this
 exact this
def cRcl (args:List AV):M AV:=match args with
 | [.lit (.int .i64 a),.pd [x] 0,.pd [.lit (.int .i64 d)] 0]=>do
  let L ← asK (.sl (.sl .whole)) x
  tell (pRc L a d)
  M.pure (.lit (.int .i64 (zbk (svZ L a d) 0 0).1))
 | _=>fail 303
noncomputable def ctrP2:Ctr:=(194,cRcl) :: ctrP1
theorem cRcl_ok:kZ Tryz.prog 194 cRcl:=by
 intro args _
 unfold cRcl
 split
 ·exact Spec.bind (asK_spec.mono fun L hL=>Spec.bind (Spec.tell fun h=>Spec.pure' ((roots1_fc L _ _ h).le (.cons (Le.refl _) (.cons (Le.pd (.cons hL .nil)) (LeL.refl _))) (Le.refl _))))
 ·exact Spec.fail
theorem zlG:∀p∈ctrP2,kZ Tryz.prog p.1 p.2:=CAll.cons cRcl_ok zlF
theorem okP2:(dZ Tryz.prog ctrP2 bw [] kdP).OK:=DZ zbQ mixed zlG zbM
noncomputable section
abbrev zkV (s:St) (r:Ex × St):Prop:=Loops 3 Tryz.prog (lZ Tryz.prog 159 0) s r
abbrev zkW (a b c:Int) (d:List (List Int)):St:=⟨sp 44 [(1,aI a),(2,aI b),(7,.ref 0 0),(9,.ref 2 0)],[.flat [aI c] true,.lst (EK.sl EK.whole) d true,.flat [.own 1 0 2 1] true],[2,1]⟩
abbrev ziW (a b c:Int) (d:List (List Int)) (e:Nat) (f:List (List Int)):St:=⟨sp 44 [(1,aI a),(2,aI b),(7,.ref 0 0),(9,.ref 2 0)],[.flat [aI c] true,.dead,.flat [.own 3 0 e 1] true,.lst (EK.sl EK.whole) f true],[2,1]⟩
abbrev zoL (a b c:Int) (d:List (List Int)):St:=⟨sp 44 [(1,aI a),(2,aI b),(7,.ref 0 0),(9,.ref 2 0)],[.flat [aI c] true,.lst (EK.sl EK.whole) d true,.flat [.own 1 0 2 1] true],[2,1]⟩
abbrev zhw (a b c:Int) (d:List (List Int)) (e:Nat) (f:List (List Int)):St:=⟨sp 44 [(1,aI a),(2,aI b),(7,.ref 0 0),(9,.ref 2 0)],[.flat [aI c] true,.dead,.flat [.own 3 0 e 1] true,.lst (EK.sl EK.whole) f true],[2,1]⟩
theorem ro_L0_0_0 (a b d:Int) (f:List (List Int)) (h1:0<f.length) (h2:1<f.length) (h3:pAg (f.getD 0 (EK.dflt (EK.sl EK.whole))) (f.getD 1 (EK.dflt (EK.sl EK.whole)))) (h4:(↑((Kf.agst (f.getD 0 (EK.dflt (EK.sl EK.whole))) (f.getD 1 (EK.dflt (EK.sl EK.whole)))).length):Int)=0):zkV (zkW a b d f) (Ex.exit 0,(zoL a b d f)):=Loops.fin (LS.at okP2 60 [] [1,2,7,9] [2,1] [1] (.t h1<|.t h2<|.c h3<|.c (beq_iff_eq.2 h4)<|.e) [0,0,0,1,0,0,0,2,3,4]) (fun h=>nomatch h)
theorem ro_L0_0_1 (a b d:Int) (f:List (List Int)) (h1:0<f.length) (h2:1<f.length) (h3:pAg (f.getD 0 (EK.dflt (EK.sl EK.whole))) (f.getD 1 (EK.dflt (EK.sl EK.whole)))) (h4:(↑((Kf.agst (f.getD 0 (EK.dflt (EK.sl EK.whole))) (f.getD 1 (EK.dflt (EK.sl EK.whole)))).length):Int)≠0) (h5:1≤List.length [Kf.agst (f.getD 0 (EK.dflt (EK.sl EK.whole))) (f.getD 1 (EK.dflt (EK.sl EK.whole)))]) (h6:(2+(List.take 1 [Kf.agst (f.getD 0 (EK.dflt (EK.sl EK.whole))) (f.getD 1 (EK.dflt (EK.sl EK.whole)))]).length)*24≤140737488355328) (h7:2+(List.take 1 [Kf.agst (f.getD 0 (EK.dflt (EK.sl EK.whole))) (f.getD 1 (EK.dflt (EK.sl EK.whole)))]).length≤4611686018427387904) (h8:2≤f.length) {r:Ex × St} (k:zkV (ziW a b d f (3) (f.take 2++List.take 1 [Kf.agst (f.getD 0 (EK.dflt (EK.sl EK.whole))) (f.getD 1 (EK.dflt (EK.sl EK.whole)))])) r):zkV (zkW a b d f) r:=Loops.go (LS.at okP2 60 [4] [1,2,7,9] [2,1] [0] (.t h1<|.t h2<|.c h3<|.c (beq_false_of_ne h4)<|.c h5<|.t h6<|.t h7<|.t h8<|.e) [0,0,0,1,0,0,0,2,3,4,5,6,7,8]) k
theorem ro_L0_1_0 (a b d:Int) (f:List (List Int)) (g:Nat) (j:List (List Int)) (h1:r64 ((g:Int)-2)) (h2:0≤(g:Int)-2) (h3:(g:Int)-2<(g:Int)) (h4:((g:Int)-2).toNat<j.length) (h5:r64 ((g:Int)-1)) (h6:0≤(g:Int)-1) (h7:(g:Int)-1<(g:Int)) (h8:((g:Int)-1).toNat<j.length) (h9:pAg (j.getD ((g:Int)-2).toNat (EK.dflt (EK.sl EK.whole))) (j.getD ((g:Int)-1).toNat (EK.dflt (EK.sl EK.whole)))) (h10:(↑((Kf.agst (j.getD ((g:Int)-2).toNat (EK.dflt (EK.sl EK.whole))) (j.getD ((g:Int)-1).toNat (EK.dflt (EK.sl EK.whole)))).length):Int)=0):zkV (ziW a b d f g j) (Ex.exit 0,(zhw a b d f g j)):=Loops.fin (LS.at okP2 60 [3] [1,2,7,9] [2,1] [1] (.i h1<|.t h2<|.t h3<|.t h4<|.i h5<|.t h6<|.t h7<|.t h8<|.c h9<|.c (beq_iff_eq.2 h10)<|.e) [1,2,3,4,5,6,7,8,9,10]) (fun h=>nomatch h)
theorem ro_L0_1_1 (a b d:Int) (f:List (List Int)) (g:Nat) (j:List (List Int)) (h1:r64 ((g:Int)-2)) (h2:0≤(g:Int)-2) (h3:(g:Int)-2<(g:Int)) (h4:((g:Int)-2).toNat<j.length) (h5:r64 ((g:Int)-1)) (h6:0≤(g:Int)-1) (h7:(g:Int)-1<(g:Int)) (h8:((g:Int)-1).toNat<j.length) (h9:pAg (j.getD ((g:Int)-2).toNat (EK.dflt (EK.sl EK.whole))) (j.getD ((g:Int)-1).toNat (EK.dflt (EK.sl EK.whole)))) (h10:(↑((Kf.agst (j.getD ((g:Int)-2).toNat (EK.dflt (EK.sl EK.whole))) (j.getD ((g:Int)-1).toNat (EK.dflt (EK.sl EK.whole)))).length):Int)≠0) (h11:1≤List.length [Kf.agst (j.getD ((g:Int)-2).toNat (EK.dflt (EK.sl EK.whole))) (j.getD ((g:Int)-1).toNat (EK.dflt (EK.sl EK.whole)))]) (h12:(g+(List.take 1 [Kf.agst (j.getD ((g:Int)-2).toNat (EK.dflt (EK.sl EK.whole))) (j.getD ((g:Int)-1).toNat (EK.dflt (EK.sl EK.whole)))]).length)*24≤140737488355328) (h13:g+(List.take 1 [Kf.agst (j.getD ((g:Int)-2).toNat (EK.dflt (EK.sl EK.whole))) (j.getD ((g:Int)-1).toNat (EK.dflt (EK.sl EK.whole)))]).length≤4611686018427387904) (h14:g≤j.length) {r:Ex × St} (k:zkV (ziW a b d f (g+(List.take 1 [Kf.agst (j.getD ((g:Int)-2).toNat (EK.dflt (EK.sl EK.whole))) (j.getD ((g:Int)-1).toNat (EK.dflt (EK.sl EK.whole)))]).length) (j.take g++List.take 1 [Kf.agst (j.getD ((g:Int)-2).toNat (EK.dflt (EK.sl EK.whole))) (j.getD ((g:Int)-1).toNat (EK.dflt (EK.sl EK.whole)))])) r):zkV (ziW a b d f g j) r:=Loops.go (LS.at okP2 60 [5] [1,2,7,9] [2,1] [0] (.i h1<|.t h2<|.t h3<|.t h4<|.i h5<|.t h6<|.t h7<|.t h8<|.c h9<|.c (beq_false_of_ne h10)<|.c h11<|.t h12<|.t h13<|.t h14<|.e) [1,2,3,4,5,6,7,8,9,10,11,12,13,14]) k
theorem ro_0 (p:List Int) (a b d:Int) (h1:zdA p) (hL1:zkV (zkW a b d ([p,der p])) (Ex.exit 0,(zoL a b d ([p,der p])))) (h3:2≤List.length [p,der p]) (h4:pRc (List.take 2 [p,der p]) a d) (h5:pRc (List.take 2 [p,der p]) b d) (h6:r64 ((zbk (svZ (List.take 2 [p,der p]) a d) 0 0).fst-(zbk (svZ (List.take 2 [p,der p]) b d) 0 0).fst)):FC Tryz.prog 159 [.lst .whole p,.lit (.int .i64 a),.lit (.int .i64 b),.lit (.int .i64 d)] (aI ((zbk (svZ (List.take 2 [p,der p]) a d) 0 0).fst-(zbk (svZ (List.take 2 [p,der p]) b d) 0 0).fst)):=eZ okP2 60 [] (.c h1<|.v [1,2,7,9] [2,1] hL1<|.c h3<|.c h4<|.c h5<|.i h6<|.e) [1,0,2,3,4,3,5,6]
theorem ro_1 (p:List Int) (a b d:Int) (f:Nat) (g:List (List Int)) (h1:zdA p) (hL1:zkV (zkW a b d ([p,der p])) (Ex.exit 0,(zhw a b d ([p,der p]) f g))) (h3:f≤g.length) (h4:pRc (g.take f) a d) (h5:pRc (g.take f) b d) (h6:r64 ((zbk (svZ (g.take f) a d) 0 0).fst-(zbk (svZ (g.take f) b d) 0 0).fst)):FC Tryz.prog 159 [.lst .whole p,.lit (.int .i64 a),.lit (.int .i64 b),.lit (.int .i64 d)] (aI ((zbk (svZ (g.take f) a d) 0 0).fst-(zbk (svZ (g.take f) b d) 0 0).fst)):=eZ okP2 60 [] (.c h1<|.v [1,2,7,9] [2,1] hL1<|.c h3<|.c h4<|.c h5<|.i h6<|.e) [1,0,2,3,4,3,5,6]
end
open Go.Kf
def bz:Nat→Nat
 | 0=>1
 | 1=>1
 | 2=>16
 | 3=>133
 | _=>817
structure PInv (i:Nat) (a b:List Int):Prop where
 i3:i≤3
 la:a.length≤5-i
 lb:b.length≤4-i
 b1:1≤b.length
 a0:a≠[]
 sa:∀j,Sz (bz i) (a.getD j 0)
 sb:∀j,Sz (bz (i+1)) (b.getD j 0)
theorem zpd {p q:List Int} {a d:Nat} (hp:∀j,Sz a (p.getD j 0)) (hq:∀j,Sz d (q.getD j 0)) (h1:a+p.length*(2*d+1)≤300000) (h2:d≤50000) (hpl:p.length≤1000) (hq0:1≤q.length) :
    (agst p q).length<q.length∧∀j,Sz (a+p.length*(2*d+1)) ((agst p q).getD j 0):=by
  obtain ⟨_,i2,i3,i4,i5,i6⟩:=ag_l2 hq0 hq p.length p.length p a (Nat.le_refl _) (Nat.le_refl _) hpl hp h1 h2
  refine ⟨?_,fun j=>?_⟩
  · unfold agst
    rw [List.length_take,zgF]
    by_cases h:q.length≤p.length
    · have:=i5 h;omega
    · omega
  · unfold agst
    by_cases h:j<(agN q p.length p.length p).1
    · have e3:∀(n:Nat) (L:List Int),j<n→(L.take n).getD j 0=L.getD j 0:=fun n L h=>by simp [List.getD,List.getElem?_take,h]
      rw [e3 _ _ h,zkz _ _ _ i2,if_pos h]
      exact(i6 j).neg
    · have:(List.take (agN q p.length p.length p).1 (ngR (agN q p.length p.length p).2 (agN q p.length p.length p).1)).getD j 0=0:=by
        simp [List.getD,List.getElem?_take,h]
      rw [this];exact Sz.zero
theorem PInv.ag {i:Nat} {a b:List Int} (h:PInv i a b):pAg a b:=by
 obtain ⟨i3,la,lb,b1,a0,sa,sb⟩:=h
 have hi:i=0∨i=1∨i=2∨i=3:=by omega
 refine ⟨⟨bz i,bz (i+1),sa,sb,?_,?_⟩,a0,by omega,b1,by omega⟩
 ·have:a.length*(2*bz (i+1)+1)≤(5-i)*(2*bz (i+1)+1):=Nat.mul_le_mul_right _ la
  refine Nat.le_trans (Nat.add_le_add_left this _) ?_
  rcases hi with rfl | rfl | rfl | rfl<;>decide
 ·rcases hi with rfl | rfl | rfl | rfl<;>decide
theorem PInv.step {i:Nat} {a b:List Int} (h:PInv i a b) (hne:agst a b≠[]):i≤2∧PInv (i+1) b (agst a b):=by
 obtain ⟨i3,la,lb,b1,a0,sa,sb⟩:=h
 have hi:i=0∨i=1∨i=2∨i=3:=by omega
 have hm:bz i+a.length*(2*bz (i+1)+1)≤bz i+(5-i)*(2*bz (i+1)+1):=Nat.add_le_add_left (Nat.mul_le_mul_right _ la) _
 obtain ⟨f1,f2⟩:=zpd sa sb (Nat.le_trans hm (by rcases hi with rfl | rfl | rfl | rfl<;>decide)) (by rcases hi with rfl | rfl | rfl | rfl<;>decide) (by omega) b1
 have hp:1≤(agst a b).length:=List.length_pos_iff.2 hne
 have i2:i≤2:=by omega
 refine ⟨i2,⟨by omega,by omega,by omega,hp,fun e=>by rw [e] at b1;simp at b1,sb,fun j=>(f2 j).mono (Nat.le_trans hm ?_)⟩⟩
 have hi:i=0∨i=1∨i=2:=by omega
 rcases hi with rfl | rfl | rfl<;>decide
theorem chn_ok:∀(k i:Nat) (a b:List Int),PInv i a b→(chn k a b).length≤k∧∀q∈chn k a b,q.length≤5∧∀j,Sz 817 (q.getD j 0)
 | 0,_,_,_,_=>⟨Nat.le_refl _,fun _ h=>by cases h⟩
 | k + 1,i,a,b,h=>by
  unfold chn
  by_cases hne:agst a b=[]
  ·rw [if_pos hne];exact ⟨Nat.zero_le _,fun _ h=>by cases h⟩
  ·rw [if_neg hne]
   obtain ⟨i2,hs⟩:=h.step hne
   obtain ⟨c1,c2⟩:=chn_ok k (i+1) b (agst a b) hs
   refine ⟨by simp only [List.length_cons];omega,fun q hq=>?_⟩
   rcases List.mem_cons.1 hq with rfl | hq
   ·refine ⟨by have:=hs.lb;omega,fun j=>(hs.sb j).mono ?_⟩
    have hi:i=0∨i=1∨i=2:=by omega
    rcases hi with rfl | rfl | rfl<;>decide
   ·exact c2 q hq
theorem zpv {L:List (List Int)} {i:Nat} (h:L.length=i+2) (x:List Int):(L++[x]).getD (i+1) []=L.getD (i+1) []∧(L++[x]).getD (i+2) []=x:=by
 constructor
 ·simp only [List.getD_eq_getElem?_getD];rw [List.getElem?_append_left (by omega)]
 ·simp only [List.getD_eq_getElem?_getD];rw [List.getElem?_append_right (by omega)];simp [h]
theorem ro_loop {t1 t2 d:Int} {lr1:List (List Int)}:∀(k i:Nat) (L:List (List Int)) (a b:List Int),i+k=4→L.length=i+2→L.getD i []=a→L.getD (i+1) []=b→PInv i a b →
 zkV (ziW t1 t2 d lr1 L.length L) (Ex.exit 0,zhw t1 t2 d lr1 (L++chn k a b).length (L++chn k a b))
 | 0,i,L,a,b,hk,hL,ha,hb,h=>by have:=h.i3;omega
 | k + 1,i,L,a,b,hk,hL,ha,hb,h=>by
  have e1:Int.toNat ((L.length:Int)-2)=i:=by omega
  have e2:Int.toNat ((L.length:Int)-1)=i+1:=by omega
  have g1:L.getD (Int.toNat ((L.length:Int)-2)) (EK.dflt (EK.sl EK.whole))=a:=by rw [e1];exact ha
  have g2:L.getD (Int.toNat ((L.length:Int)-1)) (EK.dflt (EK.sl EK.whole))=b:=by rw [e2];exact hb
  have hag:=h.ag
  unfold chn
  by_cases hne:agst a b=[]
  ·rw [if_pos hne,List.append_nil]
   exact ro_L0_1_0 t1 t2 d lr1 L.length L (by omega) (by omega) (by omega) (by omega) (by omega) (by omega) (by omega) (by omega) (by rw [g1,g2];exact hag) (by rw [g1,g2,hne];rfl)
  ·rw [if_neg hne]
   obtain ⟨i2,hs⟩:=h.step hne
   obtain ⟨l1,l2⟩:=zpv hL (agst a b)
   have ih:=ro_loop (t1:=t1) (t2:=t2) (d:=d) (lr1:=lr1) k (i+1) (L++[agst a b]) b (agst a b) (by omega) (by rw [List.length_append];simp;omega) (by rw [l1];exact hb) l2 hs
   have go:=@ro_L0_1_1 t1 t2 d lr1 L.length L (by omega) (by omega) (by omega) (by omega) (by omega) (by omega) (by omega) (by omega) (by rw [g1,g2];exact hag)
    (by rw [g1,g2];have:=List.length_pos_iff.2 hne;omega) (by simp) (by simp;omega) (by simp;omega) (Nat.le_refl _) (Ex.exit 0,zhw t1 t2 d lr1 (L++agst a b :: chn k b (agst a b)).length (L++agst a b :: chn k b (agst a b)))
   rw [g1,g2,List.take_length] at go
   refine go ?_
   have e3:L.length+(List.take 1 [agst a b]).length=(L++[agst a b]).length:=by rw [List.length_append];rfl
   have e4:L++agst a b :: chn k b (agst a b)=(L++[agst a b])++chn k b (agst a b):=by rw [List.append_assoc];rfl
   rw [e3,e4]
   exact ih
def chZ (p:List Int):List (List Int):=p :: der p :: chn 4 p (der p)
def zdV (p:List Int) (a b d:Int):Int:=(zbk (svZ (chZ p) a d) 0 0).1-(zbk (svZ (chZ p) b d) 0 0).1
theorem zhD {l:List Int} {k:Nat} (h:∀c∈l,Sz k c) (j:Nat):Sz k (l.getD j 0):=by
 rw [List.getD_eq_getElem?_getD]
 by_cases hi:j<l.length
 ·rw [List.getElem?_eq_getElem hi];exact h _ (List.getElem_mem hi)
 ·rw [List.getElem?_eq_none (by omega)];exact Sz.zero
theorem szL_of {k:Nat}:∀ {l:List Int},(∀j,Sz k (l.getD j 0))→SzL k l
 | [],_=>trivial
 | z :: l,h=>⟨h 0,szL_of fun j=>h (j+1)⟩
theorem pinv0 {p:List Int} (h:zdA p):PInv 0 p (der p):=by
 obtain ⟨h2,h5,ha⟩:=h
 refine ⟨by omega,by omega,by rw [ze8];omega,by rw [ze8];omega,fun e=>by rw [e] at h2;simp at h2,zhD fun c hc=>?_,zhD fun c hc=>?_⟩
 ·have:=ha c hc;exact Sz.lit (by omega) (by decide)
 ·unfold der at hc
  obtain ⟨i,hi,rfl⟩:=List.mem_map.1 hc
  have hi:=List.mem_range.1 hi
  have g:=zfb ha (i+1)
  have m:=zl3 (a:=p.getD (i+1) 0) (b:=((i+1:Nat):Int)) (A:=1000) (B:=5) g (by omega)
  exact Sz.lit (by omega) (by decide)
theorem zhU:∀(l:List Int) (n x:Int),n≤(zbk l n x).1∧(zbk l n x).1≤n+l.length
 | [],n,x=>by simp [zbk]
 | v :: l,n,x=>by
  unfold zbk
  have a:=zhU l n x
  have b:=zhU l (n+1) v.sign
  have c:=zhU l n v.sign
  simp only [List.length_cons]
  split
  ·omega
  ·split
   ·omega
   ·omega
theorem chZ_ok {p:List Int} (h:zdA p):(chZ p).length≤6∧∀q∈chZ p,q.length≤5∧∀j,Sz 817 (q.getD j 0):=by
 have hi:=pinv0 h
 obtain ⟨c1,c2⟩:=chn_ok 4 0 p (der p) hi
 refine ⟨by unfold chZ;simp only [List.length_cons];omega,fun q hq=>?_⟩
 unfold chZ at hq
 rcases List.mem_cons.1 hq with rfl | hq
 ·exact ⟨hi.la,fun j=>(hi.sa j).mono (by decide)⟩
 rcases List.mem_cons.1 hq with rfl | hq
 ·exact ⟨by have:=hi.lb;omega,fun j=>(hi.sb j).mono (by decide)⟩
 ·exact c2 q hq
theorem chZ_pRc {p:List Int} (h:zdA p) {a d:Int} (ha:a.natAbs≤1000000) (hd:d.natAbs≤1000000):pRc (chZ p) a d:=by
 obtain ⟨c1,c2⟩:=chZ_ok h
 refine ⟨ha,hd,fun q hq=>?_,by omega⟩
 obtain ⟨d1,d2⟩:=c2 q hq
 exact ⟨Nat.ble_eq_true_of_le d1,szL_of fun j=>(d2 j).mono (by decide),Sz.lit (by omega) (by decide),Sz.lit (by omega) (by decide)⟩
theorem svZ_len (L:List (List Int)) (a b:Int):(svZ L a b).length=L.length:=by simp [svZ]
theorem zmC {p:List Int} (h:zdA p) (a b d:Int):(zdV p a b d).natAbs≤6:=by
 have c:=(chZ_ok h).1
 have x:=zhU (svZ (chZ p) a d) 0 0
 have y:=zhU (svZ (chZ p) b d) 0 0
 rw [svZ_len] at x y
 unfold zdV
 omega
def zg2 (p:List Int) (a b d:Int):Prop:=zdA p∧a.natAbs≤1000000∧b.natAbs≤1000000∧d.natAbs≤1000000
theorem roots_fc (p:List Int) (a b d:Int) (h:zg2 p a b d):FC Tryz.prog 159 [.lst .whole p,.lit (.int .i64 a),.lit (.int .i64 b),.lit (.int .i64 d)] (.lit (.int .i64 (zdV p a b d))):=by
 obtain ⟨hp,ha,hb,hd⟩:=h
 have hi:=pinv0 hp
 have hle:=zmC hp a b d
 have ra:=chZ_pRc hp ha hd
 have rb:=chZ_pRc hp hb hd
 by_cases hne:agst p (der p)=[]
 ·have e:chZ p=[p,der p]:=by unfold chZ chn;rw [if_pos hne]
  unfold zdV at hle ⊢
  rw [e] at hle ra rb ⊢
  exact ro_0 p a b d hp (ro_L0_0_0 a b d [p,der p] (by simp) (by simp) hi.ag (by show((agst p (der p)).length:Int)=0;rw [hne];rfl)) (by simp) ra rb (by show -9223372036854775808≤(zbk (svZ [p,der p] a d) 0 0).1-(zbk (svZ [p,der p] b d) 0 0).1∧(zbk (svZ [p,der p] a d) 0 0).1-(zbk (svZ [p,der p] b d) 0 0).1≤9223372036854775807;omega)
 ·obtain ⟨i2,hs⟩:=hi.step hne
  have e:chZ p=[p,der p,agst p (der p)]++chn 3 (der p) (agst p (der p)):=by
   unfold chZ
   conv=>lhs;unfold chn
   rw [if_neg hne];rfl
  have L:=ro_loop (t1:=a) (t2:=b) (d:=d) (lr1:=[p,der p]) 3 1 [p,der p,agst p (der p)] (der p) (agst p (der p)) rfl rfl rfl rfl hs
  rw [← e] at L
  have go:=@ro_L0_0_1 a b d [p,der p] (by simp) (by simp) hi.ag (by have:=List.length_pos_iff.2 hne;show((agst p (der p)).length:Int)≠0;omega) (by simp) (by simp) (by simp) (by simp) _ L
  have:=ro_1 p a b d (chZ p).length (chZ p) hp go (Nat.le_refl _) (by rw [List.take_length];exact ra) (by rw [List.take_length];exact rb) (by rw [List.take_length];unfold zdV at hle;omega)
  rw [List.take_length] at this
  exact this
def cRoots (args:List AV):M AV:=match args with
 | [x,.lit (.int .i64 a),.lit (.int .i64 b),.lit (.int .i64 d)]=>do
  let p ← asK (.sl .whole) x
  tell (zg2 p a b d)
  M.pure (.lit (.int .i64 (zdV p a b d)))
 | _=>fail 304
noncomputable def ctrP3:Ctr:=(159,cRoots) :: ctrP2
theorem cRoots_ok:kZ Tryz.prog 159 cRoots:=by
 intro args _
 unfold cRoots
 split
 ·exact Spec.bind (asK_spec.mono fun L hL=>Spec.bind (Spec.tell fun h=>Spec.pure' ((roots_fc L _ _ _ h).le (.cons hL (LeL.refl _)) (Le.refl _))))
 ·exact Spec.fail
theorem zlH:∀p∈ctrP3,kZ Tryz.prog p.1 p.2:=CAll.cons cRoots_ok zlG
theorem okP3:(dZ Tryz.prog ctrP3 bw [] kdP).OK:=DZ zbQ mixed zlH zbM
noncomputable section
theorem on_0 (p:List Int) (a b d:Int) (h1:(p.length:Int)=2) (h2:0<(p.length:Int)) (h3:0<p.length) (h4:r64 (0-p.getD 0 0)) (h5:r64 ((0-p.getD 0 0)*d)) (h6:(0-p.getD 0 0)*d≥a):FC Tryz.prog 115 [.agg [.sq p,.lit (.int .i64 a),.lit (.int .i64 b),.lit (.int .i64 d)]] (.lit (.bool (decide ((0-p.getD 0 0)*d≤b)))):=eZ okP3 60 [1,1] (.c (beq_iff_eq.2 h1)<|.t h2<|.t h3<|.i h4<|.i h5<|.t h6<|.e) [1,0,2,3,4,5,6]
theorem on_1 (p:List Int) (a b d:Int) (h1:(p.length:Int)=2) (h2:0<(p.length:Int)) (h3:0<p.length) (h4:r64 (0-p.getD 0 0)) (h5:r64 ((0-p.getD 0 0)*d)) (h6:¬((0-p.getD 0 0)*d≥a)):FC Tryz.prog 115 [.agg [.sq p,.lit (.int .i64 a),.lit (.int .i64 b),.lit (.int .i64 d)]] (.ff):=eZ okP3 60 [1,0] (.c (beq_iff_eq.2 h1)<|.t h2<|.t h3<|.i h4<|.i h5<|.f h6<|.e) [1,0,2,3,4,5,6]
theorem on_2 (p:List Int) (a b d:Int) (h1:(p.length:Int)≠2) (h2:pPo (p,a,b,d)) (h3:zg2 (p,a,b,d).fst a b d):FC Tryz.prog 115 [.agg [.sq p,.lit (.int .i64 a),.lit (.int .i64 b),.lit (.int .i64 d)]] (.lit (.bool (zdV (p,a,b,d).fst a b d==1))):=eZ okP3 60 [0] (.c (beq_false_of_ne h1)<|.c h2<|.c h3<|.e) [1,2,3]
abbrev zkb (s:St) (r:Ex × St):Prop:=Loops 0 Tryz.prog (lZ Tryz.prog 154 0) s r
abbrev zdl (a:List Int) (b c:Int):St:=⟨sp 19 [(0,.sq a),(1,.fn 113 []),(7,aI b),(8,aI c)],[],[]⟩
abbrev zhg (a:List Int) (b c:Int):St:=⟨sp 19 [(4,aI c)],[],[]⟩
abbrev zkc (a:List Int) (b c:Int):St:=⟨sp 19 [(0,.sq a),(1,.fn 113 []),(7,aI b),(8,aI c)],[],[]⟩
theorem cx_L0_0_0 (a:List Int) (b c:Int) (h1:c<b) (h2:0≤c) (h3:c<(a.length:Int)) (h4:c.toNat<a.length) (h5:a.getD c.toNat 0≥-1000) (h6:¬(a.getD c.toNat 0≤1000)):zkb (zdl a b c) (Ex.ret,(zhg a b c)):=Loops.fin (LS.at okP3 60 [] [4] [] [1,1,1] (.t h1<|.t h2<|.t h3<|.t h4<|.t h5<|.y h6<|.e) [1,2,3,4,5,6]) (fun h=>nomatch h)
theorem cx_L0_0_1 (a:List Int) (b c:Int) (h1:c<b) (h2:0≤c) (h3:c<(a.length:Int)) (h4:c.toNat<a.length) (h5:a.getD c.toNat 0≥-1000) (h6:a.getD c.toNat 0≤1000) (h7:r64 (c+1)) {r:Ex × St} (k:zkb (zdl a b (c+1)) r):zkb (zdl a b c) r:=Loops.go (LS.at okP3 60 [] [0,1,7,8] [] [1,1,0] (.t h1<|.t h2<|.t h3<|.t h4<|.t h5<|.x h6<|.i h7<|.e) [1,2,3,4,5,6,7]) k
theorem cx_L0_0_2 (a:List Int) (b c:Int) (h1:c<b) (h2:0≤c) (h3:c<(a.length:Int)) (h4:c.toNat<a.length) (h5:¬(a.getD c.toNat 0≥-1000)):zkb (zdl a b c) (Ex.ret,(zhg a b c)):=Loops.fin (LS.at okP3 60 [] [4] [] [1,0] (.t h1<|.t h2<|.t h3<|.t h4<|.f h5<|.e) [1,2,3,4,5]) (fun h=>nomatch h)
theorem cx_L0_0_3 (a:List Int) (b c:Int) (h1:¬(c<b)):zkb (zdl a b c) (Ex.exit 0,(zkc a b c)):=Loops.fin (LS.at okP3 60 [] [0,1,7,8] [] [0] (.f h1<|.e) [1]) (fun h=>nomatch h)
theorem cx_0 (p:List Int) (a:Int) (hL1:zkb (zdl p ((p.length:Int)) (0)) (Ex.ret,(zhg p ((p.length:Int)) a))):FC Tryz.prog 112 [.sq p,.fn 113 []] (.lit (.bool (decide (a≥0)))):=eZ okP3 60 [] (.v [0,1,7,8] [] hL1<|.e) [0,1]
theorem cx_1 (p:List Int) (a:Int) (hL1:zkb (zdl p ((p.length:Int)) (0)) (Ex.exit 0,(zkc p ((p.length:Int)) a))):FC Tryz.prog 112 [.sq p,.fn 113 []] (aF):=eZ okP3 60 [] (.v [0,1,7,8] [] hL1<|.e) [0,1]
end
open Go.Kf
def zm2 (p:List Int) (a b d:Int):Bool:=if p.length=2 then decide (a≤-(p.getD 0 0)*d)&&decide (-(p.getD 0 0)*d≤b) else zdV p a b d==1
theorem one_fc (p:List Int) (a b d:Int) (h:zg2 p a b d):FC Tryz.prog 115 [.agg [.sq p,.lit (.int .i64 a),.lit (.int .i64 b),.lit (.int .i64 d)]] (.lit (.bool (zm2 p a b d))):=by
 have h':=h
 obtain ⟨hp,ha,hb,hd⟩:=h'
 have g0:=zfb hp.2.2 0
 have m:=zl3 (a:=0-p.getD 0 0) (b:=d) (A:=1000) (B:=1000000) (by omega) hd
 have hl:=hp.1
 by_cases h2:p.length=2
 ·have e:0-p.getD 0 0 = -(p.getD 0 0):=by omega
  by_cases h3:a≤-(p.getD 0 0)*d
  ·have:=on_0 p a b d (by omega) (by omega) (by omega) (by omega) (by omega) (by rw [e];exact h3)
   rw [e] at this
   have e2:zm2 p a b d=decide (-(p.getD 0 0)*d≤b):=by unfold zm2;rw [if_pos h2,decide_eq_true h3,Bool.true_and]
   rw [e2];exact this
  ·exact ffF (on_1 p a b d (by omega) (by omega) (by omega) (by omega) (by omega) (by rw [e];exact h3)) (by unfold zm2;rw [if_pos h2,decide_eq_false h3,Bool.false_and])
 ·have e2:zm2 p a b d=(zdV p a b d==1):=by unfold zm2;rw [if_neg h2]
  rw [e2]
  exact on_2 p a b d (by omega) hp h
def ze2 (p:List Int):Bool:=p.any fun c=>decide (c < -1000)||decide (1000<c)
theorem bigc_f {p:List Int} (h:ze2 p=false):∀c∈p,c.natAbs≤1000:=by
 unfold ze2 at h
 intro c hc
 have:=List.any_eq_false.1 h c hc
 simp only [Bool.or_eq_true,decide_eq_true_eq,not_or] at this
 omega
theorem zli {p:List Int} {i:Nat} (h:i<p.length):ze2 (p.drop i)=((decide (p.getD i 0 < -1000)||decide (1000<p.getD i 0))||ze2 (p.drop (i+1))):=by
 rw [zgB h];rfl
theorem cx_loop {p:List Int} (hl:p.length≤1000):∀(m i:Nat),i+m=p.length →
 (ze2 (p.drop i)=true∧∃t,0≤t∧zkb (zdl p p.length i) (Ex.ret,zhg p p.length t))∨(ze2 (p.drop i)=false∧∃t,zkb (zdl p p.length i) (Ex.exit 0,zkc p p.length t))
 | 0,i,hi=>by
  obtain rfl:i=p.length:=by omega
  exact .inr ⟨by rw [List.drop_length];rfl,p.length,cx_L0_0_3 p p.length p.length (by omega)⟩
 | m + 1,i,hi=>by
  have hlt:i<p.length:=by omega
  have e1:Int.toNat (i:Int)=i:=rfl
  rw [zli hlt]
  by_cases h1:p.getD i 0≥-1000
  ·by_cases h2:p.getD i 0≤1000
   ·have go:=fun r=>@cx_L0_0_1 p p.length i (by omega) (by omega) (by omega) (by omega) h1 h2 (by omega) r
    rw [decide_eq_false (show ¬p.getD i 0 < -1000 by omega),decide_eq_false (show ¬1000<p.getD i 0 by omega),Bool.false_or,Bool.false_or]
    rcases cx_loop hl m (i+1) (by omega) with ⟨a,t,ht,k⟩ | ⟨a,t,k⟩
    ·exact .inl ⟨a,t,ht,go _ k⟩
    ·exact .inr ⟨a,t,go _ k⟩
   ·exact .inl ⟨by rw [decide_eq_true (show 1000<p.getD i 0 by omega)];simp,i,by omega,cx_L0_0_0 p p.length i (by omega) (by omega) (by omega) (by omega) h1 h2⟩
  ·exact .inl ⟨by rw [decide_eq_true (show p.getD i 0 < -1000 by omega)];simp,i,by omega,cx_L0_0_2 p p.length i (by omega) (by omega) (by omega) (by omega) h1⟩
theorem zng (p:List Int) (hl:p.length≤1000):FC Tryz.prog 112 [.sq p,.fn 113 []] (.lit (.bool (ze2 p))):=by
 rcases cx_loop hl p.length 0 (by omega) with ⟨a,t,ht,k⟩ | ⟨a,t,k⟩
 ·rw [List.drop_zero] at a
  rw [a]
  have:=cx_0 p t k
  rw [decide_eq_true (show t≥0 from ht)] at this
  exact this
 ·rw [List.drop_zero] at a
  rw [a]
  exact cx_1 p t k
def pOne (f:fieldK.ty):Prop:=zg2 f.1 f.2.1 f.2.2.1 f.2.2.2
instance tOne {f:fieldK.ty}:Tst (pOne f):=⟨false,fun h=>by cases h⟩
def cCo (args:List AV):M AV:=match args with
 | [x,.fn f []]=>if f=113 then do
  let l ← ofOpt 212 (ints? x)
  tell (l.length≤1000)
  M.pure (.lit (.bool (ze2 l)))
  else fail 305
 | _=>fail 305
noncomputable def ctrP4:Ctr:=(112,cCo) :: (115,cD1 fieldK pOne (fun f=>.lit (.bool (zm2 f.1 f.2.1 f.2.2.1 f.2.2.2)))) :: ctrP3
theorem cCo_ok:kZ Tryz.prog 112 cCo:=by
 intro args _
 unfold cCo
 split
 ·split
  ·rename_i hf
   subst hf
   exact Spec.bind (Spec.ofOpt fun l hl=>Spec.bind (Spec.tell fun hp=>Spec.pure' ((zng l hp).arg2 (fun E v hv=>hv.toSq hl) (fun E v hv=>hv))))
  ·exact Spec.fail
 ·exact Spec.fail
theorem zlI:∀p∈ctrP4,kZ Tryz.prog p.1 p.2:=CAll.cons cCo_ok<|CAll.cons (zhR fun f h=>one_fc f.1 f.2.1 f.2.2.1 f.2.2.2 h) zlH
theorem znE:(dZ Tryz.prog ctrP4 bw [] kdP).OK:=DZ zbQ mixed zlI zbM
noncomputable section
theorem ck_0 (p:List Int) (a b d:Int) (h1:(p.length:Int)≥2) (h2:¬((p.length:Int)≤5)):FC Tryz.prog 36 [.agg [.sq p,.lit (.int .i64 a),.lit (.int .i64 b),.lit (.int .i64 d)]] (aI 10):=eZ znE 60 [1,1] (.t h1<|.y h2<|.e) [1,2]
theorem ck_1 (p:List Int) (a b d:Int) (h1:(p.length:Int)≥2) (h2:(p.length:Int)≤5) (h3:p.length≤1000) (h4:ze2 p=true):FC Tryz.prog 36 [.agg [.sq p,.lit (.int .i64 a),.lit (.int .i64 b),.lit (.int .i64 d)]] (aI 2):=eZ znE 60 [1,0,1] (.t h1<|.x h2<|.c h3<|.c h4<|.e) [1,2,3,4]
theorem ck_2 (p:List Int) (a b d:Int) (h1:(p.length:Int)≥2) (h2:(p.length:Int)≤5) (h3:p.length≤1000) (h4:ze2 p=false) (h5:d≥1) (h6:¬(d≤1000000)):FC Tryz.prog 36 [.agg [.sq p,.lit (.int .i64 a),.lit (.int .i64 b),.lit (.int .i64 d)]] (aI 2):=eZ znE 60 [1,0,0,1,1] (.t h1<|.x h2<|.c h3<|.c h4<|.t h5<|.y h6<|.e) [1,2,3,4,5,6]
theorem ck_3 (p:List Int) (a b d:Int) (h1:(p.length:Int)≥2) (h2:(p.length:Int)≤5) (h3:p.length≤1000) (h4:ze2 p=false) (h5:d≥1) (h6:d≤1000000) (h7:a≥-1000000) (h8:¬(a≤1000000)):FC Tryz.prog 36 [.agg [.sq p,.lit (.int .i64 a),.lit (.int .i64 b),.lit (.int .i64 d)]] (aI 2):=eZ znE 60 [1,0,0,1,0,1,1] (.t h1<|.x h2<|.c h3<|.c h4<|.t h5<|.x h6<|.t h7<|.y h8<|.e) [1,2,3,4,5,6,7,8]
theorem ck_4 (p:List Int) (a b d:Int) (h1:(p.length:Int)≥2) (h2:(p.length:Int)≤5) (h3:p.length≤1000) (h4:ze2 p=false) (h5:d≥1) (h6:d≤1000000) (h7:a≥-1000000) (h8:a≤1000000) (h9:b≥-1000000) (h10:¬(b≤1000000)):FC Tryz.prog 36 [.agg [.sq p,.lit (.int .i64 a),.lit (.int .i64 b),.lit (.int .i64 d)]] (aI 2):=eZ znE 60 [1,0,0,1,0,1,0,1,1] (.t h1<|.x h2<|.c h3<|.c h4<|.t h5<|.x h6<|.t h7<|.x h8<|.t h9<|.y h10<|.e) [1,2,3,4,5,6,7,8,9,10]
theorem ck_5 (p:List Int) (a b d:Int) (h1:(p.length:Int)≥2) (h2:(p.length:Int)≤5) (h3:p.length≤1000) (h4:ze2 p=false) (h5:d≥1) (h6:d≤1000000) (h7:a≥-1000000) (h8:a≤1000000) (h9:b≥-1000000) (h10:b≤1000000) (h11:r64 ((p.length:Int)-1)) (h12:0≤(p.length:Int)-1) (h13:(p.length:Int)-1<(p.length:Int)) (h14:((p.length:Int)-1).toNat<p.length) (h15:p.getD ((p.length:Int)-1).toNat 0≠1):FC Tryz.prog 36 [.agg [.sq p,.lit (.int .i64 a),.lit (.int .i64 b),.lit (.int .i64 d)]] (aI 3):=eZ znE 60 [1,0,0,1,0,1,0,1,0,1] (.t h1<|.x h2<|.c h3<|.c h4<|.t h5<|.x h6<|.t h7<|.x h8<|.t h9<|.x h10<|.i h11<|.t h12<|.t h13<|.t h14<|.c (bne_iff_ne.2 h15)<|.e) [1,2,3,4,5,6,7,8,9,10,11,12,13,14,15]
theorem ck_6 (p:List Int) (a b d:Int) (h1:(p.length:Int)≥2) (h2:(p.length:Int)≤5) (h3:p.length≤1000) (h4:ze2 p=false) (h5:d≥1) (h6:d≤1000000) (h7:a≥-1000000) (h8:a≤1000000) (h9:b≥-1000000) (h10:b≤1000000) (h11:r64 ((p.length:Int)-1)) (h12:0≤(p.length:Int)-1) (h13:(p.length:Int)-1<(p.length:Int)) (h14:((p.length:Int)-1).toNat<p.length) (h15:p.getD ((p.length:Int)-1).toNat 0=1) (h16:zdA p) (h17:red p=true):FC Tryz.prog 36 [.agg [.sq p,.lit (.int .i64 a),.lit (.int .i64 b),.lit (.int .i64 d)]] (aI 3):=eZ znE 60 [1,0,0,1,0,1,0,1,0,0,1] (.t h1<|.x h2<|.c h3<|.c h4<|.t h5<|.x h6<|.t h7<|.x h8<|.t h9<|.x h10<|.i h11<|.t h12<|.t h13<|.t h14<|.c (bne_eq_false_iff_eq.2 h15)<|.c h16<|.c h17<|.e) [1,2,3,4,5,6,7,8,9,10,11,12,13,14,15,16,17]
theorem ck_7 (p:List Int) (a b d:Int) (h1:(p.length:Int)≥2) (h2:(p.length:Int)≤5) (h3:p.length≤1000) (h4:ze2 p=false) (h5:d≥1) (h6:d≤1000000) (h7:a≥-1000000) (h8:a≤1000000) (h9:b≥-1000000) (h10:b≤1000000) (h11:r64 ((p.length:Int)-1)) (h12:0≤(p.length:Int)-1) (h13:(p.length:Int)-1<(p.length:Int)) (h14:((p.length:Int)-1).toNat<p.length) (h15:p.getD ((p.length:Int)-1).toNat 0=1) (h16:zdA p) (h17:red p=false) (h18:a > b):FC Tryz.prog 36 [.agg [.sq p,.lit (.int .i64 a),.lit (.int .i64 b),.lit (.int .i64 d)]] (aI 9):=eZ znE 60 [1,0,0,1,0,1,0,1,0,0,0,1] (.t h1<|.x h2<|.c h3<|.c h4<|.t h5<|.x h6<|.t h7<|.x h8<|.t h9<|.x h10<|.i h11<|.t h12<|.t h13<|.t h14<|.c (bne_eq_false_iff_eq.2 h15)<|.c h16<|.c h17<|.t h18<|.e) [1,2,3,4,5,6,7,8,9,10,11,12,13,14,15,16,17,18]
theorem ck_8 (p:List Int) (a b d:Int) (h1:(p.length:Int)≥2) (h2:(p.length:Int)≤5) (h3:p.length≤1000) (h4:ze2 p=false) (h5:d≥1) (h6:d≤1000000) (h7:a≥-1000000) (h8:a≤1000000) (h9:b≥-1000000) (h10:b≤1000000) (h11:r64 ((p.length:Int)-1)) (h12:0≤(p.length:Int)-1) (h13:(p.length:Int)-1<(p.length:Int)) (h14:((p.length:Int)-1).toNat<p.length) (h15:p.getD ((p.length:Int)-1).toNat 0=1) (h16:zdA p) (h17:red p=false) (h18:¬(a > b)) (h19:pOne (p,a,b,d)) (h20:zm2 (p,a,b,d).fst (p,a,b,d).snd.fst (p,a,b,d).snd.snd.fst (p,a,b,d).snd.snd.snd=false):FC Tryz.prog 36 [.agg [.sq p,.lit (.int .i64 a),.lit (.int .i64 b),.lit (.int .i64 d)]] (aI 11):=eZ znE 60 [1,0,0,1,0,1,0,1,0,0,0,0,1] (.t h1<|.x h2<|.c h3<|.c h4<|.t h5<|.x h6<|.t h7<|.x h8<|.t h9<|.x h10<|.i h11<|.t h12<|.t h13<|.t h14<|.c (bne_eq_false_iff_eq.2 h15)<|.c h16<|.c h17<|.f h18<|.c h19<|.c (congrArg Bool.not h20)<|.e) [1,2,3,4,5,6,7,8,9,10,11,12,13,14,15,16,17,18,19,20]
theorem ck_9 (p:List Int) (a b d:Int) (h1:(p.length:Int)≥2) (h2:(p.length:Int)≤5) (h3:p.length≤1000) (h4:ze2 p=false) (h5:d≥1) (h6:d≤1000000) (h7:a≥-1000000) (h8:a≤1000000) (h9:b≥-1000000) (h10:b≤1000000) (h11:r64 ((p.length:Int)-1)) (h12:0≤(p.length:Int)-1) (h13:(p.length:Int)-1<(p.length:Int)) (h14:((p.length:Int)-1).toNat<p.length) (h15:p.getD ((p.length:Int)-1).toNat 0=1) (h16:zdA p) (h17:red p=false) (h18:¬(a > b)) (h19:pOne (p,a,b,d)) (h20:zm2 (p,a,b,d).fst (p,a,b,d).snd.fst (p,a,b,d).snd.snd.fst (p,a,b,d).snd.snd.snd=true):FC Tryz.prog 36 [.agg [.sq p,.lit (.int .i64 a),.lit (.int .i64 b),.lit (.int .i64 d)]] (aI 0):=eZ znE 60 [1,0,0,1,0,1,0,1,0,0,0,0,0] (.t h1<|.x h2<|.c h3<|.c h4<|.t h5<|.x h6<|.t h7<|.x h8<|.t h9<|.x h10<|.i h11<|.t h12<|.t h13<|.t h14<|.c (bne_eq_false_iff_eq.2 h15)<|.c h16<|.c h17<|.f h18<|.c h19<|.c (congrArg Bool.not h20)<|.e) [1,2,3,4,5,6,7,8,9,10,11,12,13,14,15,16,17,18,19,20]
theorem ck_10 (p:List Int) (a b d:Int) (h1:(p.length:Int)≥2) (h2:(p.length:Int)≤5) (h3:p.length≤1000) (h4:ze2 p=false) (h5:d≥1) (h6:d≤1000000) (h7:a≥-1000000) (h8:a≤1000000) (h9:¬(b≥-1000000)):FC Tryz.prog 36 [.agg [.sq p,.lit (.int .i64 a),.lit (.int .i64 b),.lit (.int .i64 d)]] (aI 2):=eZ znE 60 [1,0,0,1,0,1,0,0] (.t h1<|.x h2<|.c h3<|.c h4<|.t h5<|.x h6<|.t h7<|.x h8<|.f h9<|.e) [1,2,3,4,5,6,7,8,9]
theorem ck_11 (p:List Int) (a b d:Int) (h1:(p.length:Int)≥2) (h2:(p.length:Int)≤5) (h3:p.length≤1000) (h4:ze2 p=false) (h5:d≥1) (h6:d≤1000000) (h7:¬(a≥-1000000)):FC Tryz.prog 36 [.agg [.sq p,.lit (.int .i64 a),.lit (.int .i64 b),.lit (.int .i64 d)]] (aI 2):=eZ znE 60 [1,0,0,1,0,0] (.t h1<|.x h2<|.c h3<|.c h4<|.t h5<|.x h6<|.f h7<|.e) [1,2,3,4,5,6,7]
theorem ck_12 (p:List Int) (a b d:Int) (h1:(p.length:Int)≥2) (h2:(p.length:Int)≤5) (h3:p.length≤1000) (h4:ze2 p=false) (h5:¬(d≥1)):FC Tryz.prog 36 [.agg [.sq p,.lit (.int .i64 a),.lit (.int .i64 b),.lit (.int .i64 d)]] (aI 2):=eZ znE 60 [1,0,0,0] (.t h1<|.x h2<|.c h3<|.c h4<|.f h5<|.e) [1,2,3,4,5]
theorem ck_13 (p:List Int) (a b d:Int) (h1:¬((p.length:Int)≥2)):FC Tryz.prog 36 [.agg [.sq p,.lit (.int .i64 a),.lit (.int .i64 b),.lit (.int .i64 d)]] (aI 10):=eZ znE 60 [0] (.f h1<|.e) [1]
end
open Go.Kf
noncomputable def zcw (p:List Int) (a b d:Int):Int:=
 if p.length<2∨5<p.length then 10
 else if ze2 p=true then 2
 else if d<1∨1000000<d∨a < -1000000∨1000000<a∨b < -1000000∨1000000<b then 2
 else if p.getD (p.length-1) 0≠1∨red p=true then 3
 else if b<a then 9
 else if zm2 p a b d=false then 11 else 0
theorem znd {p:List Int} {a b d:Int} (h:p.length<2∨5<p.length):zcw p a b d=10:=if_pos h
theorem znc {p:List Int} {a b d:Int} (h:2≤p.length∧p.length≤5) (h2:ze2 p=true):zcw p a b d=2:=by
 unfold zcw;rw [if_neg (by omega),if_pos h2]
theorem zne {p:List Int} {a b d:Int} (h:2≤p.length∧p.length≤5) (h3:d<1∨1000000<d∨a < -1000000∨1000000<a∨b < -1000000∨1000000<b):zcw p a b d=2:=by
 unfold zcw;rw [if_neg (by omega)]
 by_cases h2:ze2 p=true
 ·rw [if_pos h2]
 ·rw [if_neg h2,if_pos h3]
structure ChkR (p:List Int) (a b d:Int):Prop where
 l2:2≤p.length
 l5:p.length≤5
 bg:ze2 p=false
 d1:1≤d
 d2:d≤1000000
 a1:-1000000≤a
 a2:a≤1000000
 b1:-1000000≤b
 b2:b≤1000000
theorem ChkR.eq {p:List Int} {a b d:Int} (h:ChkR p a b d):zcw p a b d=if p.getD (p.length-1) 0≠1∨red p=true then 3 else if b<a then 9 else if zm2 p a b d=false then 11 else 0:=by
 obtain ⟨l2,l5,bg,d1,d2,a1,a2,b1,b2⟩:=h
 conv=>lhs;unfold zcw
 rw [if_neg (by omega),if_neg (by rw [bg];decide),if_neg (by omega)]
theorem ChkR.rd {p:List Int} {a b d:Int} (h:ChkR p a b d):zdA p:=⟨h.l2,h.l5,bigc_f h.bg⟩
theorem ChkR.ro {p:List Int} {a b d:Int} (h:ChkR p a b d):zg2 p a b d:=⟨h.rd,by have:=h.a1;have:=h.a2;omega,by have:=h.b1;have:=h.b2;omega,by have:=h.d1;have:=h.d2;omega⟩
theorem zhV (p:List Int) (a b d:Int):ChkR p a b d∨(p.length<2∨5<p.length)∨(2≤p.length∧p.length≤5∧ze2 p=true)∨(2≤p.length∧p.length≤5∧ze2 p=false∧(d<1∨1000000<d∨a < -1000000∨1000000<a∨b < -1000000∨1000000<b)):=by
 by_cases h:p.length<2∨5<p.length
 ·exact .inr (.inl h)
 cases h2:ze2 p with
 | true=>exact .inr (.inr (.inl ⟨by omega,by omega,rfl⟩))
 | false=>
  by_cases h3:d<1∨1000000<d∨a < -1000000∨1000000<a∨b < -1000000∨1000000<b
  ·exact .inr (.inr (.inr ⟨by omega,by omega,rfl,h3⟩))
  ·exact .inl ⟨by omega,by omega,h2,by omega,by omega,by omega,by omega,by omega,by omega⟩
theorem check_fc (p:List Int) (a b d:Int):FC Tryz.prog 36 [.agg [.sq p,.lit (.int .i64 a),.lit (.int .i64 b),.lit (.int .i64 d)]] (.lit (.int .i64 (zcw p a b d))):=by
 rcases zhV p a b d with h | h | ⟨l2,l5,bg⟩ | ⟨l2,l5,bg,h⟩
 ·have hrd:=h.rd
  have hro:=h.ro
  rw [h.eq]
  obtain ⟨l2,l5,bg,d1,d2,a1,a2,b1,b2⟩:=h
  have e1:Int.toNat ((p.length:Int)-1)=p.length-1:=by omega
  by_cases c1:p.getD (p.length-1) 0=1
  ·cases c2:red p with
   | true=>
    rw [if_pos (.inr rfl)]
    exact ck_6 p a b d (by omega) (by omega) (by omega) bg (by omega) (by omega) (by omega) (by omega) (by omega) (by omega) (by omega) (by omega) (by omega) (by omega) (by rw [e1];exact c1) hrd c2
   | false=>
    rw [if_neg (by simp only [c1,ne_eq,not_true_eq_false,false_or,Bool.false_eq_true,not_false_eq_true])]
    by_cases c3:b<a
    ·rw [if_pos c3]
     exact ck_7 p a b d (by omega) (by omega) (by omega) bg (by omega) (by omega) (by omega) (by omega) (by omega) (by omega) (by omega) (by omega) (by omega) (by omega) (by rw [e1];exact c1) hrd c2 c3
    ·rw [if_neg c3]
     cases c4:zm2 p a b d with
     | false=>
      rw [if_pos rfl]
      exact ck_8 p a b d (by omega) (by omega) (by omega) bg (by omega) (by omega) (by omega) (by omega) (by omega) (by omega) (by omega) (by omega) (by omega) (by omega) (by rw [e1];exact c1) hrd c2 c3 hro c4
     | true=>
      rw [if_neg (by decide)]
      exact ck_9 p a b d (by omega) (by omega) (by omega) bg (by omega) (by omega) (by omega) (by omega) (by omega) (by omega) (by omega) (by omega) (by omega) (by omega) (by rw [e1];exact c1) hrd c2 c3 hro c4
  ·rw [if_pos (.inl c1)]
   exact ck_5 p a b d (by omega) (by omega) (by omega) bg (by omega) (by omega) (by omega) (by omega) (by omega) (by omega) (by omega) (by omega) (by omega) (by omega) (by rw [e1];exact c1)
 ·rw [znd h]
  by_cases l2:p.length<2
  ·exact ck_13 p a b d (by omega)
  ·exact ck_0 p a b d (by omega) (by omega)
 ·rw [znc ⟨l2,l5⟩ bg]
  exact ck_1 p a b d (by omega) (by omega) (by omega) bg
 ·rw [zne ⟨l2,l5⟩ h]
  by_cases d1:1≤d
  ·by_cases d2:d≤1000000
   ·by_cases a1:-1000000≤a
    ·by_cases a2:a≤1000000
     ·by_cases b1:-1000000≤b
      ·exact ck_4 p a b d (by omega) (by omega) (by omega) bg d1 d2 a1 a2 b1 (by omega)
      ·exact ck_10 p a b d (by omega) (by omega) (by omega) bg d1 d2 a1 a2 b1
     ·exact ck_3 p a b d (by omega) (by omega) (by omega) bg d1 d2 a1 a2
    ·exact ck_11 p a b d (by omega) (by omega) (by omega) bg d1 d2 a1
   ·exact ck_2 p a b d (by omega) (by omega) (by omega) bg d1 d2
  ·exact ck_12 p a b d (by omega) (by omega) (by omega) bg d1
def cFd (p:List Int→Int→Int→Int→Prop) [∀l a b d,Tst (p l a b d)] (r:List Int→Int→Int→Int→AV) (args:List AV):M AV:=match args with
 | [x]=>do
  let f ← asK fieldK x
  match f with
  | (l,a,b,d)=>do
   tellD (p l a b d) (Tst.b (p l a b d))
   gives (r l a b d)
 | _=>fail 306
theorem zjy {P:Program} {f:FuncId} {p:List Int→Int→Int→Int→Prop} [∀l a b d,Tst (p l a b d)] {r:List Int→Int→Int→Int→AV} (h:∀l a b d,p l a b d→FC P f [.agg [.sq l,.lit (.int .i64 a),.lit (.int .i64 b),.lit (.int .i64 d)]] (r l a b d)):kZ P f (cFd p r):=by
 intro args _
 unfold cFd
 split
 ·refine Spec.bind (asK_spec.mono fun f hf=>?_)
  obtain ⟨l,a,b,d⟩:=f
  exact Spec.bind (Spec.tellD Tst.ok fun hp=>Spec.gives ((h l a b d hp).le (.cons hf .nil) (Le.refl _)))
 ·exact Spec.fail
noncomputable section
theorem cli_0 (p:List Int) (h1:p≠[]) (h2:(0+p.length)*8≤140737488355328) (h3:0+p.length≤4611686018427387904) (h4:0+p.length≤(List.take 0 []++p).length):FC Tryz.prog 104 [.sq p] (.sq ((List.take 0 []++p).take (0+p.length))):=eZ znE 60 [] (.c (congrArg Bool.not (zbz h1))<|.t h2<|.t h3<|.c (show decide (p.length=p.length)=true from decide_eq_true rfl)<|.c h4<|.e) [1,2,3,0,4,5]
end
def pCl (p:List Int):Prop:=p≠[]∧p.length≤100000
instance tCl {p:List Int}:Tst (pCl p):=⟨match p with | []=>false | _ :: _=>Nat.ble p.length 100000,fun h=>by
 cases p with
 | nil=>cases h
 | cons x l=>exact ⟨by simp,Nat.le_of_ble_eq_true h⟩⟩
theorem clone_fc (p:List Int) (h:pCl p):FC Tryz.prog 104 [.sq p] (.sq p):=by
 have:=cli_0 p h.1 (by have:=h.2;omega) (by have:=h.2;omega) (by simp)
 rw [show List.take (0+p.length) (List.take 0 []++p)=p by simp] at this
 exact this
theorem Le.lst_slW (l:List Int):Le (.lst .whole l) (.sl (yZ .W l) l.length):=fun E v h=>by
 cases h with
 | lst h=>rw [← ze6];exact h
def pRdT (p:List Int) (_ _ _:Int):Prop:=zdA p
instance tRdT {p:List Int} {a b d:Int}:Tst (pRdT p a b d):=⟨false,fun h=>by cases h⟩
noncomputable def ctrP5:Ctr:=(153,cPWW zdz (fun l a b=>.lit (.int .i64 (zai l a b).sign))) :: (105,cFd pRdT (fun l _ _ _=>.sl (yZ .W l) l.length)) :: (104,cL pCl (fun p=>.sq p)) ::
 (36,cFd (fun _ _ _ _=>True) (fun l a b d=>.lit (.int .i64 (zcw l a b d)))) :: ctrP4
theorem zhZ:∀p∈ctrP5,kZ Tryz.prog p.1 p.2:=CAll.cons (cPWW_ok zi2)<|CAll.cons (zjy fun l a b d h=>(ziE l a b d h).le (LeL.refl _) (Le.lst_slW l))<|CAll.cons (zj6 clone_fc)<|CAll.cons (zjy fun l a b d _=>check_fc l a b d) zlI
theorem okP5:(dZ Tryz.prog ctrP5 bw).OK:=TZ zhZ
noncomputable def ctrP7:Ctr:=(153,cLWW zdz (fun l a b=>.lit (.int .i64 (zai l a b).sign))) :: (105,cFd pRdT (fun l _ _ _=>.lst .whole l)) :: ctrP5
theorem ctrP7_all:∀p∈ctrP7,kZ Tryz.prog p.1 p.2:=CAll.cons (cLWW_ok zjT)<|CAll.cons (zjy fun l a b d h=>ziE l a b d h) zhZ
theorem zr1:(dZ Tryz.prog ctrP7 bw [] kdP).OK:=DZ zbQ mixed ctrP7_all zbM
noncomputable section
abbrev zkC (s:St) (r:Ex × St):Prop:=Loops 3 Tryz.prog (lZ Tryz.prog 35 0) s r
abbrev zkD (a:Int) (b:List Int) (c d e:Int) (f:List Int):St:=⟨sp 103 [(5,.ref 1 0),(6,aI a),(7,aI 1)],[.flat [.sq b,aI c,aI d,aI e] true,.flat [.sq b,aI c,aI d,aI e,.lst EK.whole b,.own 2 0 1 2,aD c,.wd c,aD d,.wd d,aD e,.wd e] true,.lst EK.whole f true],[1,0,2]⟩
abbrev ziA (a:Int) (b:List Int) (c d e:Int) (f:List Int) (g:Int) (i:Nat) (j:List Int):St:=⟨sp 103 [(5,.ref 1 0),(6,aI a),(7,aI g)],[.flat [.sq b,aI c,aI d,aI e] true,.flat [.sq b,aI c,aI d,aI e,.lst EK.whole b,.own 3 0 i 2,aD c,.wd c,aD d,.wd d,aD e,.wd e] true,.dead,.lst EK.whole j true],[1,0,2]⟩
abbrev zot (a:Int) (b:List Int) (c d e:Int) (f:List Int):St:=⟨sp 103 [(5,.ref 1 0),(6,aI a),(7,aI 1)],[.flat [.sq b,aI c,aI d,aI e] true,.flat [.sq b,aI c,aI d,aI e,.lst EK.whole b,.own 2 0 1 2,aD c,.wd c,aD d,.wd d,aD e,.wd e] true,.lst EK.whole f true],[1,0,2]⟩
abbrev zfB (a:Int) (b:List Int) (c d e:Int) (f:List Int) (g:Int) (i:Nat) (j:List Int):St:=⟨sp 103 [(5,.ref 1 0),(6,aI a),(7,aI g)],[.flat [.sq b,aI c,aI d,aI e] true,.flat [.sq b,aI c,aI d,aI e,.lst EK.whole b,.own 3 0 i 2,aD c,.wd c,aD d,.wd d,aD e,.wd e] true,.dead,.lst EK.whole j true],[1,0,2]⟩
abbrev op_L1 (s:St) (r:Ex × St):Prop:=Loops 4 Tryz.prog (lZ Tryz.prog 35 1) s r
abbrev op_L1_0 (a:Int) (b:List Int) (c d e:Int) (f:List Int) (g:Int):St:=⟨sp 103 [(5,.ref 1 0),(6,aI a),(7,aI 1),(8,.ref 3 0),(9,aI 1)],[.flat [.sq b,aI c,aI d,aI e] true,.flat [.sq b,aI c,aI d,aI e,.lst EK.whole b,.own 2 0 1 2,aD c,.wd c,aD d,.wd d,aD e,.wd e] true,.lst EK.whole f true,.flat [aD g,.wd g] true],[0,1,2]⟩
abbrev zos (a:Int) (b:List Int) (c d e:Int) (f:List Int) (g:Int):St:=⟨sp 103 [(5,.ref 1 0),(6,aI a),(7,aI 1),(8,.ref 3 0),(9,aI 1)],[.flat [.sq b,aI c,aI d,aI e] true,.flat [.sq b,aI c,aI d,aI e,.lst EK.whole b,.own 2 0 1 2,aD c,.wd c,aD d,.wd d,aD e,.wd e] true,.lst EK.whole f true,.flat [aD g,.wd g] true],[0,1,2]⟩
theorem op_L1_0_0 (a:Int) (b:List Int) (c d f:Int) (g:List Int) (i:Int):op_L1 (op_L1_0 a b c d f g i) (Ex.exit 2,(zos a b c d f g i)):=Loops.fin (LS.at zr1 60 [] [5,6,7,8,9] [0,1,2] [] (.e) []) (fun h=>nomatch h)
abbrev zgY (a:Int) (b:List Int):Row:=.flat [.lit (.bool (decide (b.getD (a-1).toNat (EK.dflt EK.whole)*1<0))),.wd (b.getD (a-1).toNat (EK.dflt EK.whole)*1)] true
abbrev zgZ (a:Int) (b:List Int):AV:=.agg [.lit (.bool (decide (b.getD (a-1).toNat (EK.dflt EK.whole)*1<0))),.wd (b.getD (a-1).toNat (EK.dflt EK.whole)*1)]
abbrev zma (a:Int) (b:List Int) (c d e:Int) (f:List Int):St:=⟨sp 103 [(5,.ref 1 0),(6,aI a),(7,aI 1),(8,.ref 3 0),(41,aI 1),(42,aI a),(43,.lit (.bool (decide (1<a)))),(46,.ref 1 0),(47,.ref 1 0),(48,.ref 1 4),(49,.lst EK.whole b),(50,aI a),(51,aI 1),(52,aI (a-1)),(53,.pd [.lit (.bool (decide (b.getD (a-1).toNat (EK.dflt EK.whole)<OfNat.ofNat 0))),.wd (b.getD (a-1).toNat (EK.dflt EK.whole))] 0),(54,.agg [.lit (.bool (decide (b.getD (a-1).toNat (EK.dflt EK.whole)<OfNat.ofNat 0))),.wd (b.getD (a-1).toNat (EK.dflt EK.whole))]),(55,aI 1),(56,.agg [aF,.wd 1]),(57,(zgZ a b))],[.flat [.sq b,aI c,aI d,aI e] true,.flat [.sq b,aI c,aI d,aI e,.lst EK.whole b,.own 2 0 1 2,aD c,.wd c,aD d,.wd d,aD e,.wd e] true,.lst EK.whole f true,(zgY a b)],[0,1,2]⟩
abbrev zmb (a:Int) (b:List Int) (c d e:Int) (f:List Int):St:=⟨sp 103 [(5,.ref 1 0),(6,aI a),(7,aI 1),(8,.ref 3 0),(9,aI 1),(84,.ref 1 0),(85,.ref 1 0),(86,.ref 1 0),(87,.ref 1 5),(88,.own 2 0 1 2),(89,(zgZ a b)),(90,.agg [.lit (.bool (decide (-(b.getD (a-1).toNat (EK.dflt EK.whole)*1)<0))),.wd (-(b.getD (a-1).toNat (EK.dflt EK.whole)*1))]),(91,.own 4 0 1 2),(92,.own 5 0 2 2),(93,.ref 1 0),(94,.ref 1 5)],[.flat [.sq b,aI c,aI d,aI e] true,.flat [.sq b,aI c,aI d,aI e,.lst EK.whole b,.own 5 0 2 2,aD c,.wd c,aD d,.wd d,aD e,.wd e] true,.dead,(zgY a b),.lst EK.whole [-(b.getD (a-1).toNat (EK.dflt EK.whole)*1)] false,.lst EK.whole (f.take 1++List.take 1 [-(b.getD (a-1).toNat (EK.dflt EK.whole)*1)]) true],[0,1,2]⟩
theorem op_L4_0_0 (a:Int) (b:List Int) (d f g:Int) (j:List Int) (h1:1<a) (h2:r64 (a-1)) (h3:0≤a-1) (h4:a-1<(b.length:Int)) (h5:cZ 1) (h6:decide (b.getD (a-1).toNat (EK.dflt EK.whole)<OfNat.ofNat 0)=decide (b.getD (a-1).toNat (EK.dflt EK.whole)<0)) (h7:pDD (b.getD (a-1).toNat (EK.dflt EK.whole)) 1) (hL1:op_L1 (op_L1_0 a b d f g j (b.getD (a-1).toNat (EK.dflt EK.whole)*1)) (Ex.exit 2,(zos a b d f g j (b.getD (a-1).toNat (EK.dflt EK.whole)*1)))) (h9:1≤List.length [-(b.getD (a-1).toNat (EK.dflt EK.whole)*1)]) (h10:(1+(List.take 1 [-(b.getD (a-1).toNat (EK.dflt EK.whole)*1)]).length)*32≤140737488355328) (h11:1+(List.take 1 [-(b.getD (a-1).toNat (EK.dflt EK.whole)*1)]).length≤4611686018427387904) (h12:1≤j.length) {r:Ex × St} (k:zkC (ziA a b d f g j (2) (2) (j.take 1++List.take 1 [-(b.getD (a-1).toNat (EK.dflt EK.whole)*1)])) r):zkC (zkD a b d f g j) r:=Loops.go (LS.at zr1 60 [5] [5,6,7] [1,0,2] [1] (.t h1<|.i h2<|.t h3<|.t h4<|.c h5<|.c h6<|.c h7<|.s (zma a b d f g j)<|.v [5,6,7,8,9] [0,1,2] hL1<|.c h9<|.t h10<|.t h11<|.t h12<|.s (zmb a b d f g j)<|.e) [1,2,3,4,5,6,0,7,6,0,7,8,5,6,0,7,8,0,9,0,0,0,10,11,12,13,0,0,0,10,11,12,13,0,10,11,12,13,14,14,0]) k
theorem op_L4_0_1 (a:Int) (b:List Int) (c d g:Int) (i:List Int) (h1:¬(1<a)):zkC (zkD a b c d g i) (Ex.exit 0,(zot a b c d g i)):=Loops.fin (LS.at zr1 60 [] [5,6,7] [1,0,2] [0] (.f h1<|.e) [1]) (fun h=>nomatch h)
abbrev op_L3 (s:St) (r:Ex × St):Prop:=Loops 5 Tryz.prog (lZ Tryz.prog 35 1) s r
abbrev ziz (a b:Int) (c:List Int) (d e f:Int) (g:Nat) (i:List Int) (j l:Int):St:=⟨sp 103 [(5,.ref 1 0),(6,aI a),(7,aI b),(8,.ref 4 0),(9,aI j)],[.flat [.sq c,aI d,aI e,aI f] true,.flat [.sq c,aI d,aI e,aI f,.lst EK.whole c,.own 3 0 g 2,aD d,.wd d,aD e,.wd e,aD f,.wd f] true,.dead,.lst EK.whole i true,.flat [aD l,.wd l] true],[0,1,2,4]⟩
abbrev zhr (a b:Int) (c:List Int) (d e f:Int) (g:Nat) (i:List Int) (j l:Int):St:=⟨sp 103 [(5,.ref 1 0),(6,aI a),(7,aI b),(8,.ref 4 0),(9,aI j)],[.flat [.sq c,aI d,aI e,aI f] true,.flat [.sq c,aI d,aI e,aI f,.lst EK.whole c,.own 3 0 g 2,aD d,.wd d,aD e,.wd e,aD f,.wd f] true,.dead,.lst EK.whole i true,.flat [aD l,.wd l] true],[0,1,2,4]⟩
abbrev zl9 (a b:Int) (c:List Int) (d e f:Int) (g:Nat) (i:List Int) (j l:Int):St:=⟨sp 103 [(5,.ref 1 0),(6,aI a),(7,aI b),(8,.ref 4 0),(9,aI j),(58,aI j),(59,aI b),(60,.lit (.bool (decide (j<b)))),(63,.agg [aD l,.wd l]),(64,.ref 1 0),(65,.ref 1 0),(66,.ref 1 4),(67,.lst EK.whole c),(68,aI a),(69,aI j),(70,aI (a-j)),(71,.pd [.lit (.bool (decide (c.getD (a-j).toNat (EK.dflt EK.whole)<OfNat.ofNat 0))),.wd (c.getD (a-j).toNat (EK.dflt EK.whole))] 0),(72,.agg [.lit (.bool (decide (c.getD (a-j).toNat (EK.dflt EK.whole)<OfNat.ofNat 0))),.wd (c.getD (a-j).toNat (EK.dflt EK.whole))]),(73,.ref 1 0),(74,.ref 1 0),(75,.ref 1 5),(76,.own 3 0 g 2),(77,aI b),(78,aI j),(79,aI (b-j)),(80,.rel 3 (b-j).toNat 2 0),(81,.agg [.lit (.bool (decide (i.getD (b-j).toNat (EK.dflt EK.whole)<OfNat.ofNat 0))),.wd (i.getD (b-j).toNat (EK.dflt EK.whole))]),(82,.agg [.lit (.bool (decide (c.getD (a-j).toNat (EK.dflt EK.whole)*i.getD (b-j).toNat (EK.dflt EK.whole)<0))),.wd (c.getD (a-j).toNat (EK.dflt EK.whole)*i.getD (b-j).toNat (EK.dflt EK.whole))]),(83,.agg [.lit (.bool (decide (l+c.getD (a-j).toNat (EK.dflt EK.whole)*i.getD (b-j).toNat (EK.dflt EK.whole)<0))),.wd (l+c.getD (a-j).toNat (EK.dflt EK.whole)*i.getD (b-j).toNat (EK.dflt EK.whole))])],[.flat [.sq c,aI d,aI e,aI f] true,.flat [.sq c,aI d,aI e,aI f,.lst EK.whole c,.own 3 0 g 2,aD d,.wd d,aD e,.wd e,aD f,.wd f] true,.dead,.lst EK.whole i true,.flat [.lit (.bool (decide (l+c.getD (a-j).toNat (EK.dflt EK.whole)*i.getD (b-j).toNat (EK.dflt EK.whole)<0))),.wd (l+c.getD (a-j).toNat (EK.dflt EK.whole)*i.getD (b-j).toNat (EK.dflt EK.whole))] true],[4,0,1,2,4]⟩
theorem op_L3_0_0 (a b:Int) (d:List Int) (f g j:Int) (l:Nat) (m:List Int) (n o:Int) (h1:n<b) (h2:r64 (a-n)) (h3:0≤a-n) (h4:a-n<(d.length:Int)) (h5:r64 (b-n)) (h6:0≤b-n) (h7:b-n<(l:Int)) (h8:(b-n).toNat<m.length) (h9:decide (d.getD (a-n).toNat (EK.dflt EK.whole)<OfNat.ofNat 0)=decide (d.getD (a-n).toNat (EK.dflt EK.whole)<0)) (h10:decide (m.getD (b-n).toNat (EK.dflt EK.whole)<OfNat.ofNat 0)=decide (m.getD (b-n).toNat (EK.dflt EK.whole)<0)) (h11:pDD (d.getD (a-n).toNat (EK.dflt EK.whole)) (m.getD (b-n).toNat (EK.dflt EK.whole))) (h12:pDD o (d.getD (a-n).toNat (EK.dflt EK.whole)*m.getD (b-n).toNat (EK.dflt EK.whole))) (h13:r64 (n+1)) {r:Ex × St} (k:op_L3 (ziz a b d f g j l m (n+1) (o+d.getD (a-n).toNat (EK.dflt EK.whole)*m.getD (b-n).toNat (EK.dflt EK.whole))) r):op_L3 (ziz a b d f g j l m n o) r:=Loops.go (LS.at zr1 60 [] [5,6,7,8,9] [0,1,2,4] [1] (.t h1<|.i h2<|.t h3<|.t h4<|.i h5<|.t h6<|.t h7<|.t h8<|.c h9<|.c h10<|.c h11<|.c h12<|.s (zl9 a b d f g j l m n o)<|.i h13<|.e) [1,2,3,4,5,6,7,8,9,10,11,0,0,12,9,10,11,0,0,12,13,14]) k
theorem op_L3_0_1 (a b:Int) (c:List Int) (d g i:Int) (j:Nat) (l:List Int) (m n:Int) (h1:¬(m<b)):op_L3 (ziz a b c d g i j l m n) (Ex.exit 2,(zhr a b c d g i j l m n)):=Loops.fin (LS.at zr1 60 [] [5,6,7,8,9] [0,1,2,4] [0] (.f h1<|.e) [1]) (fun h=>nomatch h)
abbrev zmc (a:Int) (b:List Int) (c d e:Int) (f:List Int) (g:Int) (i:Nat) (j:List Int) (l m:Int):St:=⟨sp 103 [(5,.ref 1 0),(6,aI a),(7,aI g),(8,.ref 4 0),(41,aI g),(42,aI a),(43,.lit (.bool (decide (g<a)))),(46,.ref 1 0),(47,.ref 1 0),(48,.ref 1 4),(49,.lst EK.whole b),(50,aI a),(51,aI g),(52,aI (a-g)),(53,.pd [.lit (.bool (decide (b.getD (a-g).toNat (EK.dflt EK.whole)<OfNat.ofNat 0))),.wd (b.getD (a-g).toNat (EK.dflt EK.whole))] 0),(54,.agg [.lit (.bool (decide (b.getD (a-g).toNat (EK.dflt EK.whole)<OfNat.ofNat 0))),.wd (b.getD (a-g).toNat (EK.dflt EK.whole))]),(55,aI g),(56,.agg [aD g,.wd g]),(57,.agg [.lit (.bool (decide (b.getD (a-g).toNat (EK.dflt EK.whole)*g<0))),.wd (b.getD (a-g).toNat (EK.dflt EK.whole)*g)])],[.flat [.sq b,aI c,aI d,aI e] true,.flat [.sq b,aI c,aI d,aI e,.lst EK.whole b,.own 3 0 i 2,aD c,.wd c,aD d,.wd d,aD e,.wd e] true,.dead,.lst EK.whole j true,.flat [.lit (.bool (decide (b.getD (a-g).toNat (EK.dflt EK.whole)*g<0))),.wd (b.getD (a-g).toNat (EK.dflt EK.whole)*g)] true],[0,1,2]⟩
abbrev zmd (a:Int) (b:List Int) (c d e:Int) (f:List Int) (g:Int) (i:Nat) (j:List Int) (l m:Int):St:=⟨sp 103 [(5,.ref 1 0),(6,aI a),(7,aI g),(8,.ref 4 0),(9,aI l),(84,.ref 1 0),(85,.ref 1 0),(86,.ref 1 0),(87,.ref 1 5),(88,.own 3 0 i 2),(89,.agg [aD m,.wd m]),(90,.agg [.lit (.bool (decide (-m<0))),.wd (-m)]),(91,.own 5 0 1 2),(92,.own 6 0 (i+(List.take 1 [-m]).length) 2),(93,.ref 1 0),(94,.ref 1 5)],[.flat [.sq b,aI c,aI d,aI e] true,.flat [.sq b,aI c,aI d,aI e,.lst EK.whole b,.own 6 0 (i+(List.take 1 [-m]).length) 2,aD c,.wd c,aD d,.wd d,aD e,.wd e] true,.dead,.dead,.flat [aD m,.wd m] true,.lst EK.whole [-m] false,.lst EK.whole (j.take i++List.take 1 [-m]) true],[0,1,2,3,4]⟩
theorem op_L4_1_0 (a:Int) (b:List Int) (d f g:Int) (j:List Int) (l:Int) (m:Nat) (n:List Int) (o p:Int) (h1:l<a) (h2:r64 (a-l)) (h3:0≤a-l) (h4:a-l<(b.length:Int)) (h5:cZ l) (h6:decide (b.getD (a-l).toNat (EK.dflt EK.whole)<OfNat.ofNat 0)=decide (b.getD (a-l).toNat (EK.dflt EK.whole)<0)) (h7:pDD (b.getD (a-l).toNat (EK.dflt EK.whole)) l) (hL1:op_L3 (ziz a l b d f g m n (1) (b.getD (a-l).toNat (EK.dflt EK.whole)*l)) (Ex.exit 2,(zhr a l b d f g m n o p))) (h9:1≤List.length [-p]) (h10:(m+(List.take 1 [-p]).length)*32≤140737488355328) (h11:m+(List.take 1 [-p]).length≤4611686018427387904) (h12:m≤n.length) (h13:r64 (l+1)) {r:Ex × St} (k:zkC (ziA a b d f g j (l+1) (m+(List.take 1 [-p]).length) (n.take m++List.take 1 [-p])) r):zkC (ziA a b d f g j l m n) r:=Loops.go (LS.at zr1 60 [6] [5,6,7] [1,0,2] [1] (.t h1<|.i h2<|.t h3<|.t h4<|.c h5<|.c h6<|.c h7<|.s (zmc a b d f g j l m n o p)<|.v [5,6,7,8,9] [0,1,2,4] hL1<|.c h9<|.t h10<|.t h11<|.t h12<|.s (zmd a b d f g j l m n o p)<|.i h13<|.e) [1,2,3,4,5,6,0,7,6,0,7,8,5,6,0,7,8,0,9,0,0,0,10,11,12,13,0,0,0,10,11,12,13,0,10,11,12,13,14,14,15]) k
theorem op_L4_1_1 (a:Int) (b:List Int) (c d g:Int) (i:List Int) (j:Int) (l:Nat) (m:List Int) (h1:¬(j<a)):zkC (ziA a b c d g i j l m) (Ex.exit 0,(zfB a b c d g i j l m)):=Loops.fin (LS.at zr1 60 [3] [5,6,7] [1,0,2] [0] (.f h1<|.e) [1]) (fun h=>nomatch h)
theorem op_2 (p:List Int) (a b d:Int) (h1:zcw p a b d=0) (h2:pCl p) (h3:pRdT p a b d) (h4:cZ a) (h5:cZ b) (h6:cZ d) (h7:r64 ((p.length:Int)-1)) (h8:cZ ((p.length:Int)-1)) (hL1:zkC (zkD ((p.length:Int)-1) p a b d ([(p.length:Int)-1])) (Ex.exit 0,(zot ((p.length:Int)-1) p a b d ([(p.length:Int)-1])))) (h10:¬((p.length:Int)-1 > 1)) (h11:1≤List.length [(p.length:Int)-1]):FC Tryz.prog 35 [.agg [.sq p,.lit (.int .i64 a),.lit (.int .i64 b),.lit (.int .i64 d)]] (.tup [.pd [.sq p,aI a,aI b,aI d,.lst EK.whole p,.lst EK.whole [(p.length:Int)-1],aD a,.wd a,aD b,.wd b,aD d,.wd d] 0,aI 0]):=eZ zr1 60 [0,0] (.c (bne_eq_false_iff_eq.2 h1)<|.c h2<|.c h3<|.c h4<|.c h5<|.c h6<|.i h7<|.c h8<|.v [5,6,7] [1,0,2] hL1<|.f h10<|.c h11<|.e) [0,1,2,3,4,5,6,7,8,0,0,9,10,11]
abbrev znF (s:St) (r:Ex × St):Prop:=Loops 4 Tryz.prog (lZ Tryz.prog 35 2) s r
abbrev zfd (a:List Int) (b c d:Int) (e:Nat) (f:List Int) (g i j l:Int):St:=⟨sp 103 [(5,.ref 1 0),(97,aI g)],[.flat [.sq a,aI b,aI c,aI d] true,.flat [.sq a,aI b,aI c,aI d,.lst EK.whole a,.own 3 0 e 2,aD i,.wd i,aD j,.wd j,aD l,.wd l] true,.dead,.lst EK.whole f true],[1,0,2]⟩
abbrev zkE (a:List Int) (b c d:Int) (e:Nat) (f:List Int) (g i j l:Int):St:=⟨sp 103 [(5,.ref 1 0),(97,aI g)],[.flat [.sq a,aI b,aI c,aI d] true,.flat [.sq a,aI b,aI c,aI d,.lst EK.whole a,.own 3 0 e 2,aD i,.wd i,aD j,.wd j,aD l,.wd l] true,.dead,.lst EK.whole f true],[1,0,2]⟩
abbrev za7 (i:Int) (j:Int):AV:=.agg [.lit (.bool (decide (i+j<0))),.wd (i+j)]
abbrev zee (a:List Int) (b:Int) (c:Int) (d:Int) (e:Nat) (i:Int) (j:Int) (l:Int):Row:=.flat [.sq a,aI b,aI c,aI d,.lst EK.whole a,.own 3 0 e 2,aD i,.wd i,aD j,.wd j,aD l,.wd l] true
abbrev zbE (l:Int):AV:=.agg [.lit (.bool (decide (l+l<0))),.wd (l+l)]
abbrev zcG (i:Int) (j:Int):Row:=.flat [.lit (.bool (decide (i+j<0))),.wd (i+j)] true
abbrev zcH (l:Int):Row:=.flat [.lit (.bool (decide (l+l<0))),.wd (l+l)] true
abbrev zme (a:List Int) (b c d:Int) (e:Nat) (f:List Int) (g i j l:Int):St:=⟨sp 80 [(0,.ref 1 0),(2,.ref 4 0),(3,.ref 5 0),(4,.ref 1 0),(5,.ref 1 0),(6,.ref 1 6),(7,.agg [aD i,.wd i]),(8,.ref 1 0),(9,.ref 1 0),(10,.ref 1 8),(11,.agg [aD j,.wd j]),(12,(za7 i j)),(13,.ref 1 0),(14,.ref 1 0),(15,.ref 1 10),(16,.agg [aD l,.wd l]),(17,.ref 1 0),(18,.ref 1 0),(19,.ref 1 10),(20,.agg [aD l,.wd l]),(21,(zbE l))],[.flat [.sq a,aI b,aI c,aI d] true,(zee a b c d e i j l),.dead,.lst EK.whole f true,(zcG i j),(zcH l)],[0,1,2]⟩
abbrev zmf (a:List Int) (b c d:Int) (e:Nat) (f:List Int) (g i j l:Int):St:=⟨sp 80 [(0,.ref 1 0),(2,.ref 4 0),(3,.ref 5 0),(4,.ref 1 0),(5,.ref 1 0),(6,.ref 1 6),(7,.agg [aD i,.wd i]),(8,.ref 1 0),(9,.ref 1 0),(10,.ref 1 8),(11,.agg [aD j,.wd j]),(12,(za7 i j)),(13,.ref 1 0),(14,.ref 1 0),(15,.ref 1 10),(16,.agg [aD l,.wd l]),(17,.ref 1 0),(18,.ref 1 0),(19,.ref 1 10),(20,.agg [aD l,.wd l]),(21,(zbE l))],[.flat [.sq a,aI b,aI c,aI d] true,(zee a b c d e i j l),.dead,.lst EK.whole f true,(zcG i j),(zcH l)],[0,1,2,4]⟩
abbrev zmg (a:List Int) (b c d:Int) (e:Nat) (f:List Int) (g i j l:Int):St:=⟨sp 80 [(0,.ref 1 0),(2,.ref 5 0),(3,.ref 4 0),(4,.ref 1 0),(5,.ref 1 0),(6,.ref 1 6),(7,.agg [aD i,.wd i]),(8,.ref 1 0),(9,.ref 1 0),(10,.ref 1 8),(11,.agg [aD j,.wd j]),(12,(za7 i j)),(13,.ref 1 0),(14,.ref 1 0),(15,.ref 1 10),(16,.agg [aD l,.wd l]),(17,.ref 1 0),(18,.ref 1 0),(19,.ref 1 10),(20,.agg [aD l,.wd l]),(21,(zbE l))],[.flat [.sq a,aI b,aI c,aI d] true,(zee a b c d e i j l),.dead,.lst EK.whole f true,(zcH l),(zcG i j)],[0,1,2,4]⟩
abbrev zmh (a:List Int) (b c d:Int) (e:Nat) (f:List Int) (g i j l:Int):St:=⟨sp 80 [(0,.ref 1 0),(2,.ref 4 0),(3,.ref 5 0),(4,.ref 1 0),(5,.ref 1 0),(6,.ref 1 6),(7,.agg [aD i,.wd i]),(8,.ref 1 0),(9,.ref 1 0),(10,.ref 1 8),(11,.agg [aD j,.wd j]),(12,(za7 i j)),(13,.ref 1 0),(14,.ref 1 0),(15,.ref 1 10),(16,.agg [aD l,.wd l]),(17,.ref 1 0),(18,.ref 1 0),(19,.ref 1 10),(20,.agg [aD l,.wd l]),(21,(zbE l)),(22,.ref 1 0),(23,.ref 1 0),(24,.ref 1 4),(25,.lst EK.whole a),(26,.ref 1 0),(27,.ref 1 0),(28,.ref 1 6),(29,.agg [aD i,.wd i]),(30,.ref 1 0),(31,.ref 1 0),(32,.ref 1 10),(33,.agg [aD l,.wd l]),(34,aI (zai a i l).sign),(35,.ref 1 0),(36,.ref 1 0),(37,.ref 1 4),(38,.lst EK.whole a),(39,(za7 i j)),(40,(zbE l)),(41,aI (zai a (i+j) (l+l)).sign),(42,aI ((zai a i l).sign*(zai a (i+j) (l+l)).sign)),(43,.lit (.bool (decide ((zai a i l).sign*(zai a (i+j) (l+l)).sign<0)))),(44,.ref 1 0),(45,.ref 1 0),(46,.ref 1 0),(47,.ref 1 0),(48,.ref 1 6),(49,.agg [aD i,.wd i]),(50,.ref 1 0),(51,.ref 1 0),(52,.ref 1 6),(53,.agg [aD i,.wd i]),(54,.agg [.lit (.bool (decide (i+i<0))),.wd (i+i)]),(55,(za7 i j)),(56,.ref 1 0),(57,.ref 1 6),(58,.ref 1 0),(59,.ref 1 8)],[.flat [.sq a,aI b,aI c,aI d] true,.flat [.sq a,aI b,aI c,aI d,.lst EK.whole a,.own 3 0 e 2,.lit (.bool (decide (i+i<0))),.wd (i+i),.lit (.bool (decide (i+j<0))),.wd (i+j),aD l,.wd l] true,.dead,.lst EK.whole f true,(zcG i j),(zcH l)],[1,1,0,1,2]⟩
theorem op_L6_0_0 (a:List Int) (b d f:Int) (g:Nat) (j:List Int) (l m n o:Int) (h1:l<64) (h2:pDD m n) (h3:pDD o o) (h4:zdz a m o) (h5:zdz a (m+n) (o+o)) (h6:r64 ((zai a m o).sign*(zai a (m+n) (o+o)).sign)) (h7:(zai a m o).sign*(zai a (m+n) (o+o)).sign<0) (h8:pDD m m) (h9:r64 (l+1)) {r:Ex × St} (k:znF (zfd a b d f g j (l+1) (m+m) (m+n) (o+o)) r):znF (zfd a b d f g j l m n o) r:=Loops.go (LS.at zr1 60 [] [5,97] [1,0,2] [1,1] (.t h1<|.c h2<|.c h3<|.s (zme a b d f g j l m n o)<|.s (zmf a b d f g j l m n o)<|.s (zmg a b d f g j l m n o)<|.c h4<|.c h5<|.i h6<|.t h7<|.c h8<|.s (zmh a b d f g j l m n o)<|.i h9<|.e) [1,0,0,2,0,0,3,4,0,0,3,0,0,3,5,0,0,3,0,0,3,6,4,4,0,0,2,0,0,3,0,0,3,5,0,0,2,0,0,3,5,0,0,2,0,0,3,0,0,3,6,0,0,2,0,0,3,6,4,4,0,0,7,0,0,8,9,10,0,0,11,0,0,11,12,13]) k
abbrev za8 (i:Int) (j:Int):AV:=.agg [.lit (.bool (decide (i+j<0))),.wd (i+j)]
abbrev zef (a:List Int) (b:Int) (c:Int) (d:Int) (e:Nat) (i:Int) (j:Int) (l:Int):Row:=.flat [.sq a,aI b,aI c,aI d,.lst EK.whole a,.own 3 0 e 2,aD i,.wd i,aD j,.wd j,aD l,.wd l] true
abbrev zbF (l:Int):AV:=.agg [.lit (.bool (decide (l+l<0))),.wd (l+l)]
abbrev zcI (i:Int) (j:Int):Row:=.flat [.lit (.bool (decide (i+j<0))),.wd (i+j)] true
abbrev zcJ (l:Int):Row:=.flat [.lit (.bool (decide (l+l<0))),.wd (l+l)] true
abbrev zmi (a:List Int) (b c d:Int) (e:Nat) (f:List Int) (g i j l:Int):St:=⟨sp 80 [(0,.ref 1 0),(2,.ref 4 0),(3,.ref 5 0),(4,.ref 1 0),(5,.ref 1 0),(6,.ref 1 6),(7,.agg [aD i,.wd i]),(8,.ref 1 0),(9,.ref 1 0),(10,.ref 1 8),(11,.agg [aD j,.wd j]),(12,(za8 i j)),(13,.ref 1 0),(14,.ref 1 0),(15,.ref 1 10),(16,.agg [aD l,.wd l]),(17,.ref 1 0),(18,.ref 1 0),(19,.ref 1 10),(20,.agg [aD l,.wd l]),(21,(zbF l))],[.flat [.sq a,aI b,aI c,aI d] true,(zef a b c d e i j l),.dead,.lst EK.whole f true,(zcI i j),(zcJ l)],[0,1,2]⟩
abbrev zmj (a:List Int) (b c d:Int) (e:Nat) (f:List Int) (g i j l:Int):St:=⟨sp 80 [(0,.ref 1 0),(2,.ref 4 0),(3,.ref 5 0),(4,.ref 1 0),(5,.ref 1 0),(6,.ref 1 6),(7,.agg [aD i,.wd i]),(8,.ref 1 0),(9,.ref 1 0),(10,.ref 1 8),(11,.agg [aD j,.wd j]),(12,(za8 i j)),(13,.ref 1 0),(14,.ref 1 0),(15,.ref 1 10),(16,.agg [aD l,.wd l]),(17,.ref 1 0),(18,.ref 1 0),(19,.ref 1 10),(20,.agg [aD l,.wd l]),(21,(zbF l))],[.flat [.sq a,aI b,aI c,aI d] true,(zef a b c d e i j l),.dead,.lst EK.whole f true,(zcI i j),(zcJ l)],[0,1,2,4]⟩
abbrev zmk (a:List Int) (b c d:Int) (e:Nat) (f:List Int) (g i j l:Int):St:=⟨sp 80 [(0,.ref 1 0),(2,.ref 5 0),(3,.ref 4 0),(4,.ref 1 0),(5,.ref 1 0),(6,.ref 1 6),(7,.agg [aD i,.wd i]),(8,.ref 1 0),(9,.ref 1 0),(10,.ref 1 8),(11,.agg [aD j,.wd j]),(12,(za8 i j)),(13,.ref 1 0),(14,.ref 1 0),(15,.ref 1 10),(16,.agg [aD l,.wd l]),(17,.ref 1 0),(18,.ref 1 0),(19,.ref 1 10),(20,.agg [aD l,.wd l]),(21,(zbF l))],[.flat [.sq a,aI b,aI c,aI d] true,(zef a b c d e i j l),.dead,.lst EK.whole f true,(zcJ l),(zcI i j)],[0,1,2,4]⟩
abbrev zml (a:List Int) (b c d:Int) (e:Nat) (f:List Int) (g i j l:Int):St:=⟨sp 80 [(0,.ref 1 0),(2,.ref 4 0),(3,.ref 5 0),(4,.ref 1 0),(5,.ref 1 0),(6,.ref 1 6),(7,.agg [aD i,.wd i]),(8,.ref 1 0),(9,.ref 1 0),(10,.ref 1 8),(11,.agg [aD j,.wd j]),(12,(za8 i j)),(13,.ref 1 0),(14,.ref 1 0),(15,.ref 1 10),(16,.agg [aD l,.wd l]),(17,.ref 1 0),(18,.ref 1 0),(19,.ref 1 10),(20,.agg [aD l,.wd l]),(21,(zbF l)),(22,.ref 1 0),(23,.ref 1 0),(24,.ref 1 4),(25,.lst EK.whole a),(26,.ref 1 0),(27,.ref 1 0),(28,.ref 1 6),(29,.agg [aD i,.wd i]),(30,.ref 1 0),(31,.ref 1 0),(32,.ref 1 10),(33,.agg [aD l,.wd l]),(34,aI (zai a i l).sign),(35,.ref 1 0),(36,.ref 1 0),(37,.ref 1 4),(38,.lst EK.whole a),(39,(za8 i j)),(40,(zbF l)),(41,aI (zai a (i+j) (l+l)).sign),(42,aI ((zai a i l).sign*(zai a (i+j) (l+l)).sign)),(43,.lit (.bool (decide ((zai a i l).sign*(zai a (i+j) (l+l)).sign<0)))),(60,.ref 1 0),(61,.ref 1 0),(62,(za8 i j)),(63,.ref 1 0),(64,.ref 1 0),(65,.ref 1 8),(66,.agg [aD j,.wd j]),(67,.ref 1 0),(68,.ref 1 0),(69,.ref 1 8),(70,.agg [aD j,.wd j]),(71,.agg [.lit (.bool (decide (j+j<0))),.wd (j+j)]),(72,.ref 1 0),(73,.ref 1 6),(74,.ref 1 0),(75,.ref 1 8)],[.flat [.sq a,aI b,aI c,aI d] true,.flat [.sq a,aI b,aI c,aI d,.lst EK.whole a,.own 3 0 e 2,.lit (.bool (decide (i+j<0))),.wd (i+j),.lit (.bool (decide (j+j<0))),.wd (j+j),aD l,.wd l] true,.dead,.lst EK.whole f true,(zcI i j),(zcJ l)],[1,1,0,1,2]⟩
theorem op_L6_0_1 (a:List Int) (b d g:Int) (j:Nat) (l:List Int) (m n o p:Int) (h1:m<64) (h2:pDD n o) (h3:pDD p p) (h4:zdz a n p) (h5:zdz a (n+o) (p+p)) (h6:r64 ((zai a n p).sign*(zai a (n+o) (p+p)).sign)) (h7:¬((zai a n p).sign*(zai a (n+o) (p+p)).sign<0)) (h8:pDD o o) (h9:r64 (m+1)) {r:Ex × St} (k:znF (zfd a b d g j l (m+1) (n+o) (o+o) (p+p)) r):znF (zfd a b d g j l m n o p) r:=Loops.go (LS.at zr1 60 [] [5,97] [1,0,2] [1,0] (.t h1<|.c h2<|.c h3<|.s (zmi a b d g j l m n o p)<|.s (zmj a b d g j l m n o p)<|.s (zmk a b d g j l m n o p)<|.c h4<|.c h5<|.i h6<|.f h7<|.c h8<|.s (zml a b d g j l m n o p)<|.i h9<|.e) [1,0,0,2,0,0,3,4,0,0,3,0,0,3,5,0,0,3,0,0,3,6,4,4,0,0,2,0,0,3,0,0,3,5,0,0,2,0,0,3,5,0,0,2,0,0,3,0,0,3,6,0,0,2,0,0,3,6,4,4,0,0,7,0,0,8,9,10,0,0,11,0,0,11,12,13]) k
theorem op_L6_0_2 (a:List Int) (b c d:Int) (g:Nat) (i:List Int) (j l m n:Int) (h1:¬(j<64)):znF (zfd a b c d g i j l m n) (Ex.exit 4,(zkE a b c d g i j l m n)):=Loops.fin (LS.at zr1 60 [] [5,97] [1,0,2] [0] (.f h1<|.e) [1]) (fun h=>nomatch h)
theorem op_3 (p:List Int) (a b d f:Int) (g:Nat) (j:List Int) (l m n o:Int) (h1:zcw p a b d=0) (h2:pCl p) (h3:pRdT p a b d) (h4:cZ a) (h5:cZ b) (h6:cZ d) (h7:r64 ((p.length:Int)-1)) (h8:cZ ((p.length:Int)-1)) (hL1:zkC (zkD ((p.length:Int)-1) p a b d ([(p.length:Int)-1])) (Ex.exit 0,(zfB ((p.length:Int)-1) p a b d ([(p.length:Int)-1]) f g j))) (h10:(p.length:Int)-1 > 1) (hL2:znF (zfd p a b d g j (0) a b d) (Ex.exit 4,(zkE p a b d g j l m n o))) (h12:g≤j.length):FC Tryz.prog 35 [.agg [.sq p,.lit (.int .i64 a),.lit (.int .i64 b),.lit (.int .i64 d)]] (.tup [.pd [.sq p,aI a,aI b,aI d,.lst EK.whole p,.lst EK.whole (j.take g),aD m,.wd m,aD n,.wd n,aD o,.wd o] 0,aI 0]):=eZ zr1 60 [0,1] (.c (bne_eq_false_iff_eq.2 h1)<|.c h2<|.c h3<|.c h4<|.c h5<|.c h6<|.i h7<|.c h8<|.v [5,6,7] [1,0,2] hL1<|.t h10<|.v [5,97] [1,0,2] hL2<|.c h12<|.e) [0,1,2,3,4,5,6,7,8,0,0,9,10,0,11,12]
end
open Go.Kf
def hvG (p:List Int):Nat→Int→Int→Int→Int × Int × Int
 | 0,lo,hi,d=>(lo,hi,d)
 | k+1,lo,hi,d=>if(zai p lo d).sign*(zai p (lo+hi) (d+d)).sign<0 then hvG p k (lo+lo) (lo+hi) (d+d) else hvG p k (lo+hi) (hi+hi) (d+d)
def trI (p tr:List Int) (n k:Nat):Nat→Int
 | 0=>p.getD (n-k) 0*(k:Int)
 | j+1=>trI p tr n k j+p.getD (n-(j+1)) 0*tr.getD (k-(j+1)) 0
def trL (p:List Int) (n:Nat):Nat→List Int
 | 0=>[(n:Int)]
 | j+1=>trL p n j++[-(trI p (trL p n j) n (j+1) j)]
def trZ (p:List Int):List Int:=trL p (p.length-1) (p.length-2)
theorem zk8 (p:List Int) (n:Nat):∀j,(trL p n j).length=j+1
 | 0=>rfl
 | j+1=>by unfold trL;rw [List.length_append,zk8 p n j];rfl
theorem trI_sz {p tr:List Int} {n k A:Nat} (hp:∀j,Sz 1 (p.getD j 0)) (ht:∀j,Sz A (tr.getD j 0)) (hk:k≤100):∀j,Sz (A+3+j) (trI p tr n k j)
 | 0=>by
  unfold trI
  exact((hp _).mul (Sz.lit (z:=(k:Int)) (k:=1) (by omega) (by decide))).mono (by omega)
 | j+1=>by
  unfold trI
  exact Sz.add (trI_sz hp ht hk j) ((hp _).mul (ht _)) (by omega) (by omega)
theorem trL_sz {p:List Int} {n:Nat} (hp:∀j,Sz 1 (p.getD j 0)) (hn:n≤100):∀j,j≤90→∀i,Sz (1+100*j) ((trL p n j).getD i 0)
 | 0,_,i=>by
  unfold trL
  cases i with
  | zero=>exact Sz.lit (z:=(n:Int)) (by omega) (by decide)
  | succ i=>exact Sz.zero
 | j + 1,hj,i=>by
  have ih:=trL_sz hp hn j (by omega)
  have hl:=zk8 p n j
  unfold trL
  rw [List.getD_eq_getElem?_getD]
  by_cases h:i<j+1
  ·rw [List.getElem?_append_left (by omega),← List.getD_eq_getElem?_getD];exact(ih i).mono (by omega)
  ·rw [List.getElem?_append_right (by omega),hl]
   by_cases h2:i=j+1
   ·subst h2
    simp only [Nat.sub_self,List.getElem?_cons_zero,Option.getD_some]
    exact(trI_sz hp ih (by omega) j).neg.mono (by omega)
   ·rw [List.getElem?_eq_none (by simp;omega)];exact Sz.zero
def hvC (p:List Int):Nat:=if p.length=2 then 0 else 64
def oA (p:List Int) (a b d lo hi den:Int):AV:=.pd [.sq p,.lit (.int .i64 a),.lit (.int .i64 b),.lit (.int .i64 d),.lst .whole p,.lst .whole (trZ p),.lit (.bool (decide (lo<0))),.wd lo,.lit (.bool (decide (hi<0))),.wd hi,.lit (.bool (decide (den<0))),.wd den] 0
def openA (p:List Int) (a b d:Int):AV:=oA p a b d (hvG p (hvC p) a b d).1 (hvG p (hvC p) a b d).2.1 (hvG p (hvC p) a b d).2.2
theorem sgn_r64 (x y:Int):r64 (x.sign*y.sign):=by
 rcases sgn3 x with e | e | e<;>rcases sgn3 y with f | f | f<;>rw [e,f]<;>decide
theorem zp1 {x y:Int} {m:Nat} (h1:Sz m x) (h2:Sz m y) (hm:m≤1048576):pDD x y:=⟨vZ h1 hm,vZ h2 hm⟩
theorem chk_ok {p:List Int} {a b d:Int} (h:zcw p a b d=0):ChkR p a b d:=by
 rcases zhV p a b d with k | k | ⟨l2,l5,bg⟩ | ⟨l2,l5,bg,k⟩
 ·exact k
 ·rw [znd k] at h;cases h
 ·rw [znc ⟨l2,l5⟩ bg] at h;cases h
 ·rw [zne ⟨l2,l5⟩ k] at h;cases h
theorem op_hv {p:List Int} {tr:List Int} {a b d:Int} {m0:Nat} (hl:p.length≤5) (hp:SzL 20000 p):∀(k:Nat) (lo hi den i:Int) (m:Nat),i+k=64→0≤i→Sz m lo→Sz m hi→Sz m den→m+k≤1000 →
 znF (zfd p a b d m0 tr i lo hi den) (Ex.exit 4,zkE p a b d m0 tr 64 (hvG p k lo hi den).1 (hvG p k lo hi den).2.1 (hvG p k lo hi den).2.2)
 | 0,lo,hi,den,i,m,hi0,hi1,h1,h2,h3,hm=>by
  obtain rfl:i=64:=by omega
  exact op_L6_0_2 p a b d m0 tr 64 lo hi den (by omega)
 | k + 1,lo,hi,den,i,m,hi0,hi1,h1,h2,h3,hm=>by
  have a1:Sz (m+1) (lo+hi):=h1.add h2 (by omega) (by omega)
  have a2:Sz (m+1) (den+den):=h3.add h3 (by omega) (by omega)
  have a3:Sz (m+1) (lo+lo):=h1.add h1 (by omega) (by omega)
  have a4:Sz (m+1) (hi+hi):=h2.add h2 (by omega) (by omega)
  have hp1:zdz p lo den:=⟨Nat.ble_eq_true_of_le hl,hp,h1.mono (by omega),h3.mono (by omega)⟩
  have hp2:zdz p (lo+hi) (den+den):=⟨Nat.ble_eq_true_of_le hl,hp,a1.mono (by omega),a2.mono (by omega)⟩
  unfold hvG
  by_cases hb:(zai p lo den).sign*(zai p (lo+hi) (den+den)).sign<0
  ·rw [if_pos hb]
   have ih:=op_hv (tr:=tr) (a:=a) (b:=b) (d:=d) (m0:=m0) hl hp k (lo+lo) (lo+hi) (den+den) (i+1) (m+1) (by omega) (by omega) a3 a1 a2 (by omega)
   exact op_L6_0_0 p a b d m0 tr i lo hi den (by omega) (zp1 h1 h2 (by omega)) (zp1 h3 h3 (by omega)) hp1 hp2 (sgn_r64 _ _) hb (zp1 h1 h1 (by omega)) (by omega) ih
  ·rw [if_neg hb]
   have ih:=op_hv (tr:=tr) (a:=a) (b:=b) (d:=d) (m0:=m0) hl hp k (lo+hi) (hi+hi) (den+den) (i+1) (m+1) (by omega) (by omega) a1 a4 a2 (by omega)
   exact op_L6_0_1 p a b d m0 tr i lo hi den (by omega) (zp1 h1 h2 (by omega)) (zp1 h3 h3 (by omega)) hp1 hp2 (sgn_r64 _ _) hb (zp1 h2 h2 (by omega)) (by omega) ih
theorem op_in {p tr:List Int} {a b d:Int} {n k A:Nat} (hp:∀j,Sz 1 (p.getD j 0)) (ht:∀j,Sz A (tr.getD j 0)) (hA:A≤20000) (hk:k<n) (hn:n<p.length) (h5:p.length≤5) (hl:tr.length=k):∀(m j:Nat),j+1+m=k →
 op_L3 (ziz n k p a b d k tr ((j:Int)+1) (trI p tr n k j)) (Ex.exit 2,zhr n k p a b d k tr k (trI p tr n k (k-1)))
 | 0,j,hj=>by
  obtain rfl:k=j+1:=by omega
  exact op_L3_0_1 n (j+1:Nat) p a b d (j+1) tr ((j:Int)+1) _ (by omega)
 | m + 1,j,hj=>by
  have ih:=op_in (a:=a) (b:=b) (d:=d) hp ht hA hk hn h5 hl m (j+1) (by omega)
  have e1:Int.toNat ((n:Int)-((j:Int)+1))=n-(j+1):=by omega
  have e2:Int.toNat ((k:Int)-((j:Int)+1))=k-(j+1):=by omega
  have fz:∀ {z:Int} {j:Nat},Sz j z→j≤1048576→zaP z:=fun h h2=>vZ h h2
  have s1:=trI_sz (n:=n) (k:=k) hp ht (by omega) j
  have go:=@op_L3_0_0 n k p a b d k tr ((j:Int)+1) (trI p tr n k j) (by omega) (by omega) (by omega) (by omega) (by omega) (by omega) (by omega) (by rw [e2];omega) rfl rfl
   (by rw [e1,e2];exact ⟨fz (hp _) (by decide),fz (ht _) (by omega)⟩) (by rw [e1,e2];exact ⟨fz s1 (by omega),fz ((hp _).mul (ht _)) (by omega)⟩) (by omega) (Ex.exit 2,zhr n k p a b d k tr k (trI p tr n k (k-1)))
  rw [e1,e2] at go
  exact go ih
theorem op_out {p l2:List Int} {a b d:Int} {n:Nat} (hp:∀j,Sz 1 (p.getD j 0)) (hn:n<p.length) (h5:p.length≤5):∀(m j:Nat),j+2+m=n →
 zkC (ziA n p a b d l2 ((j:Int)+2) (j+2) (trL p n (j+1))) (Ex.exit 0,zfB n p a b d l2 n n (trL p n (n-1)))
 | 0,j,hj=>by
  obtain rfl:n=j+2:=by omega
  have:=op_L4_1_1 (j+2:Nat) p a b d l2 ((j:Int)+2) (j+2) (trL p (j+2) (j+1)) (by omega)
  exact this
 | m + 1,j,hj=>by
  have ih:=op_out (l2:=l2) (a:=a) (b:=b) (d:=d) hp hn h5 m (j+1) (by omega)
  have e1:Int.toNat ((n:Int)-((j:Int)+2))=n-(j+2):=by omega
  have hl:=zk8 p n (j+1)
  have hz:=trL_sz (p:=p) (n:=n) hp (by omega) (j+1) (by omega)
  have K:=op_in (a:=a) (b:=b) (d:=d) (n:=n) (k:=j+2) hp hz (by omega) (by omega) hn h5 (by omega) (j+1) 0 (by omega)
  have fz:∀ {z:Int} {j:Nat},Sz j z→j≤1048576→zaP z:=fun h h2=>vZ h h2
  have go:=@op_L4_1_0 n p a b d l2 ((j:Int)+2) (j+2) (trL p n (j+1)) ((j+2:Nat):Int) (trI p (trL p n (j+1)) n (j+2) (j+1)) (by omega) (by omega) (by omega) (by omega) (by unfold cZ;omega) rfl
   (by rw [e1];exact ⟨fz (hp _) (by decide),fz (j:=1) (Sz.lit (z:=(j:Int)+2) (by omega) (by decide)) (by decide)⟩)
   (by rw [e1];exact K) (by simp) (by simp;omega) (by simp;omega) (by omega) (by omega) (Ex.exit 0,zfB n p a b d l2 n n (trL p n (n-1)))
  rw [show List.take (j+2) (trL p n (j+1))=trL p n (j+1) from List.take_of_length_le (by omega)] at go
  refine go ?_
  rw [show((j+1:Nat):Int)+2=(j:Int)+2+1 by omega] at ih
  exact ih
theorem szL1 {p:List Int} (h:∀c∈p,c.natAbs≤1000):SzL 20000 p:=szL_of (zhD fun c hc=>by have:=h c hc;exact Sz.lit (by omega) (by decide))
theorem open_fc (p:List Int) (a b d:Int) (h0:zcw p a b d=0):FC Tryz.prog 35 [.agg [.sq p,.lit (.int .i64 a),.lit (.int .i64 b),.lit (.int .i64 d)]] (.tup [openA p a b d,.lit (.int .i64 0)]):=by
 have hr:=chk_ok h0
 have hrd:=hr.rd
 obtain ⟨r1,r2,r3,r4,r5,r6⟩:-1000000≤a∧a≤1000000∧-1000000≤b∧b≤1000000∧1≤d∧d≤1000000:=⟨hr.a1,hr.a2,hr.b1,hr.b2,hr.d1,hr.d2⟩
 have l2:=hr.l2
 have l5:=hr.l5
 have hp:∀j,Sz 1 (p.getD j 0):=zhD fun c hc=>by have:=hrd.2.2 c hc;exact Sz.lit (by omega) (by decide)
 have hne:p≠[]:=fun e=>by rw [e] at l2;simp at l2
 obtain ⟨n,hn⟩:∃n,p.length=n+1:=⟨p.length-1,by omega⟩
 have eN:(p.length:Int)-1=(n:Int):=by omega
 have fl:∀x:Int,x.natAbs≤1000000→cZ x:=fun x hx=>by unfold cZ;omega
 unfold openA
 by_cases h1:n=1
 ·have hc:hvC p=0:=if_pos (by omega)
  have ht:trZ p=[(n:Int)]:=by unfold trZ;rw [show p.length-2=0 by omega,show p.length-1=n by omega];rfl
  rw [hc]
  unfold oA
  rw [ht]
  have:=op_2 p a b d h0 ⟨hne,by omega⟩ hrd (fl a (by omega)) (fl b (by omega)) (fl d (by omega)) (by omega) (fl _ (by omega)) (op_L4_0_1 _ p a b d _ (by omega)) (by omega) (by simp)
  rw [eN] at this
  exact this
 ·have hc:hvC p=64:=if_neg (by omega)
  have ht:trZ p=trL p n (n-1):=by unfold trZ;rw [show p.length-2=n-1 by omega,show p.length-1=n by omega]
  rw [hc]
  unfold oA
  rw [ht]
  have e1:Int.toNat ((n:Int)-1)=n-1:=by omega
  have fz:∀ {z:Int} {j:Nat},Sz j z→j≤1048576→zaP z:=fun h h2=>vZ h h2
  have L:=op_out (n:=n) (l2:=[(n:Int)]) (a:=a) (b:=b) (d:=d) hp (by omega) l5 (n-2) 0 (by omega)
  have t1:trL p n 1=List.take 1 [(n:Int)]++List.take 1 [-(p.getD (n-1) 0*1)]:=rfl
  rw [show((0:Nat):Int)+2=2 from rfl,show 0+2=2 from rfl,show 0+1=1 from rfl,t1] at L
  have go:=@op_L4_0_0 n p a b d [(n:Int)] (by omega) (by omega) (by omega) (by omega) (by unfold cZ;omega) rfl (by rw [e1];exact ⟨fz (hp _) (by decide),fz (j:=1) (Sz.lit (z:=1) (by decide) (by decide)) (by decide)⟩)
   (op_L1_0_0 n p a b d [(n:Int)] _) (by simp) (by simp) (by simp) (by simp) (Ex.exit 0,zfB n p a b d [(n:Int)] n n (trL p n (n-1)))
  rw [e1] at go
  have K:=go L
  have H:=op_hv (p:=p) (tr:=trL p n (n-1)) (a:=a) (b:=b) (d:=d) (m0:=n) l5 (szL1 hrd.2.2) 64 a b d 0 3 (by omega) (by omega) (Sz.lit (by omega) (by decide)) (Sz.lit (by omega) (by decide)) (Sz.lit (by omega) (by decide)) (by omega)
  have hl:=zk8 p n (n-1)
  have:=op_3 p a b d n n (trL p n (n-1)) 64 _ _ _ h0 ⟨hne,by omega⟩ hrd (fl a (by omega)) (fl b (by omega)) (fl d (by omega)) (by omega) (fl _ (by omega)) (by rw [eN];exact K) (by omega) H (by omega)
  rw [show List.take n (trL p n (n-1))=trL p n (n-1) from List.take_of_length_le (by omega)] at this
  exact this
def cCh (args:List AV):M AV:=match args with
 | [x,y,z]=>do
  let p ← asK (.sl (.sl (.sl (.int .i64)))) x
  let a ← asK (.sl (.int .i64)) y
  let b ← asK (.sl (.int .i64)) z
  tellD (pCh p a b) (Tst.b (pCh p a b))
  gives (.lit (.int .i64 (zbk (svs p (vl a) (vl b)) 0 0).1))
 | _=>fail 301
noncomputable def ctrH8:Ctr:=(149,cCh) :: ctrH7
abbrev kdS:List (TypeId × EK):=[(100,.whole),(22,.sl (.int .i64)),(166,.sl (.sl (.int .i64)))]
theorem cCh_ok:kZ Tryz.prog 149 cCh:=by
 intro args _
 unfold cCh
 split
 ·exact Spec.bind (asK_spec.mono fun p hp=>Spec.bind (asK_spec.mono fun a ha=>Spec.bind (asK_spec.mono fun b hb=>Spec.bind (Spec.tellD Tst.ok fun h=>Spec.gives ((zpl p a b h).le (.cons hp (.cons ha (.cons hb .nil))) (Le.refl _))))))
 ·exact Spec.fail
theorem ctrH8_all:∀p∈ctrH8,kZ Tryz.prog p.1 p.2:=CAll.cons cCh_ok zhY
theorem zjp:(dZ Tryz.prog ctrH8 bw [] kdS).OK:=DZ zbQ mixed ctrH8_all zbM
noncomputable section
theorem rro_0 (p:List Int) (a b c:Int) (h1:(p.length:Int)=2) (h2:0<(p.length:Int)) (h3:0<p.length) (h4:r64 (0-p.getD 0 0)) (h5:r64 ((0-p.getD 0 0)*c)) (h6:(0-p.getD 0 0)*c≥a) (h7:(0-p.getD 0 0)*c≤b):FC Tryz.prog 103 [.agg [.sq p,.lit (.int .i64 a),.lit (.int .i64 b),.lit (.int .i64 c)]] (aI 1):=eZ zjp 60 [1,1,1] (.c (beq_iff_eq.2 h1)<|.t h2<|.t h3<|.i h4<|.i h5<|.t h6<|.t h7<|.e) [1,0,2,3,4,5,6,0,2,3,4,5,7]
theorem rro_1 (p:List Int) (a b c:Int) (h1:(p.length:Int)=2) (h2:0<(p.length:Int)) (h3:0<p.length) (h4:r64 (0-p.getD 0 0)) (h5:r64 ((0-p.getD 0 0)*c)) (h6:(0-p.getD 0 0)*c≥a) (h7:¬((0-p.getD 0 0)*c≤b)):FC Tryz.prog 103 [.agg [.sq p,.lit (.int .i64 a),.lit (.int .i64 b),.lit (.int .i64 c)]] (aI 0):=eZ zjp 60 [1,1,0] (.c (beq_iff_eq.2 h1)<|.t h2<|.t h3<|.i h4<|.i h5<|.t h6<|.f h7<|.e) [1,0,2,3,4,5,6,0,2,3,4,5,7]
theorem rro_2 (p:List Int) (a b c:Int) (h1:(p.length:Int)=2) (h2:0<(p.length:Int)) (h3:0<p.length) (h4:r64 (0-p.getD 0 0)) (h5:r64 ((0-p.getD 0 0)*c)) (h6:¬((0-p.getD 0 0)*c≥a)):FC Tryz.prog 103 [.agg [.sq p,.lit (.int .i64 a),.lit (.int .i64 b),.lit (.int .i64 c)]] (aI 0):=eZ zjp 60 [1,0] (.c (beq_iff_eq.2 h1)<|.t h2<|.t h3<|.i h4<|.i h5<|.f h6<|.e) [1,0,2,3,4,5,6]
abbrev zdX (s:St) (r:Ex × St):Prop:=Loops 1 Tryz.prog (lZ Tryz.prog 103 0) s r
abbrev zgh (a:List Int) (b c d:Int):St:=⟨sp 121 [(1,.ref 0 0),(3,aN),(4,aN),(5,aI 0)],[.flat [.sq a,aI b,aI c,aI d] true],[]⟩
abbrev zoN (a:List Int) (b c d:Int) (e:List (List Int)):St:=⟨sp 121 [(1,.ref 0 0),(3,.own 1 0 1 1),(4,aN),(5,aI 1)],[.flat [.sq a,aI b,aI c,aI d] true,.lst (EK.sl (.int .i64)) e true],[]⟩
abbrev zgi (a:List Int) (b c d:Int) (e f:Nat) (g:Int) (i j:List (List Int)):St:=⟨sp 121 [(1,.ref 0 0),(3,.own 1 0 e 1),(4,.own 2 0 f 1),(5,aI g)],[.flat [.sq a,aI b,aI c,aI d] true,.lst (EK.sl (.int .i64)) i true,.lst (EK.sl (.int .i64)) j true],[]⟩
abbrev rro_L0_E0 (a:List Int) (b c d:Int):St:=⟨sp 121 [(1,.ref 0 0),(3,aN),(4,aN),(5,aI 0)],[.flat [.sq a,aI b,aI c,aI d] true],[]⟩
abbrev zdc (a:List Int) (b c d:Int) (e f:Nat) (g:Int) (i j:List (List Int)):St:=⟨sp 121 [(1,.ref 0 0),(3,.own 1 0 e 1),(4,.own 2 0 f 1),(5,aI g)],[.flat [.sq a,aI b,aI c,aI d] true,.lst (EK.sl (.int .i64)) i true,.lst (EK.sl (.int .i64)) j true],[]⟩
theorem zrq (a:List Int) (b d f:Int) (h1:0<(a.length:Int)) (h2:0<a.length) (h3:1≤List.length [a.getD 0 0]) (h4:1≤List.length [List.take 1 [a.getD 0 0]]) (h5:0<(List.take 1 [List.take 1 [a.getD 0 0]]).length) (h6:(List.take 1 [List.take 1 [a.getD 0 0]]).length*24≤140737488355328) (h7:(List.take 1 [List.take 1 [a.getD 0 0]]).length≤4611686018427387904) {r:Ex × St} (k:zdX (zoN a b d f ([[a.getD 0 0]])) r):zdX (zgh a b d f) r:=Loops.go (LS.at zjp 60 [3] [1,3,4,5] [] [1] (.t h1<|.t h2<|.c h3<|.c h4<|.t h5<|.t h6<|.t h7<|.e) [1,0,1,2,3,4,5,6,7,0]) k
theorem rro_L0_0_1 (a:List Int) (b c d:Int) (h1:¬(0<(a.length:Int))):zdX (zgh a b c d) (Ex.exit 0,(rro_L0_E0 a b c d)):=Loops.fin (LS.at zjp 60 [] [1,3,4,5] [] [0] (.f h1<|.e) [1]) (fun h=>nomatch h)
theorem zrr (a:List Int) (b d f:Int) (g:List (List Int)) (h1:1<(a.length:Int)) (h2:1<a.length) (h3:1≤List.length [a.getD 1 0]) (h4:1≤List.length [List.take 1 [a.getD 1 0]]) (h5:(1+(List.take 1 [List.take 1 [a.getD 1 0]]).length)*24≤140737488355328) (h6:1+(List.take 1 [List.take 1 [a.getD 1 0]]).length≤4611686018427387904) (h7:1≤g.length) (h8:r64 (1*a.getD 1 0)) (h9:1≤List.length [1*a.getD 1 0]) (h10:1≤List.length [List.take 1 [1*a.getD 1 0]]) (h11:0<(List.take 1 [List.take 1 [1*a.getD 1 0]]).length) (h12:(List.take 1 [List.take 1 [1*a.getD 1 0]]).length*24≤140737488355328) (h13:(List.take 1 [List.take 1 [1*a.getD 1 0]]).length≤4611686018427387904) {r:Ex × St} (k:zdX (zgi a b d f (2) (1) (2) (g.take 1++List.take 1 [List.take 1 [a.getD 1 0]]) ([[1*a.getD 1 0]])) r):zdX (zoN a b d f g) r:=Loops.go (LS.at zjp 60 [4,7] [1,3,4,5] [] [1] (.t h1<|.t h2<|.c h3<|.c h4<|.t h5<|.t h6<|.t h7<|.i h8<|.c h9<|.c h10<|.t h11<|.t h12<|.t h13<|.e) [1,0,1,2,3,4,5,6,7,0,1,2,8,9,10,11,12,13,0]) k
theorem zrs (a:List Int) (b d f:Int) (g j:Nat) (l:Int) (m n:List (List Int)) (h1:l<(a.length:Int)) (h2:0≤l) (h3:l.toNat<a.length) (h4:1≤List.length [a.getD l.toNat 0]) (h5:1≤List.length [List.take 1 [a.getD l.toNat 0]]) (h6:(g+(List.take 1 [List.take 1 [a.getD l.toNat 0]]).length)*24≤140737488355328) (h7:g+(List.take 1 [List.take 1 [a.getD l.toNat 0]]).length≤4611686018427387904) (h8:g≤m.length) (h9:l > 0) (h10:r64 (l*a.getD l.toNat 0)) (h11:1≤List.length [l*a.getD l.toNat 0]) (h12:1≤List.length [List.take 1 [l*a.getD l.toNat 0]]) (h13:(j+(List.take 1 [List.take 1 [l*a.getD l.toNat 0]]).length)*24≤140737488355328) (h14:j+(List.take 1 [List.take 1 [l*a.getD l.toNat 0]]).length≤4611686018427387904) (h15:j≤n.length) (h16:r64 (l+1)) {r:Ex × St} (k:zdX (zgi a b d f (g+(List.take 1 [List.take 1 [a.getD l.toNat 0]]).length) (j+(List.take 1 [List.take 1 [l*a.getD l.toNat 0]]).length) (l+1) (m.take g++List.take 1 [List.take 1 [a.getD l.toNat 0]]) (n.take j++List.take 1 [List.take 1 [l*a.getD l.toNat 0]])) r):zdX (zgi a b d f g j l m n) r:=Loops.go (LS.at zjp 60 [5,8] [1,3,4,5] [] [1,1] (.t h1<|.t h2<|.t h3<|.c h4<|.c h5<|.t h6<|.t h7<|.t h8<|.t h9<|.i h10<|.c h11<|.c h12<|.t h13<|.t h14<|.t h15<|.i h16<|.e) [1,2,1,3,4,5,6,7,8,9,2,1,3,10,11,12,13,14,15,16]) k
theorem zrt (a:List Int) (b c d:Int) (g i:Nat) (j:Int) (l m:List (List Int)) (h1:¬(j<(a.length:Int))):zdX (zgi a b c d g i j l m) (Ex.exit 0,(zdc a b c d g i j l m)):=Loops.fin (LS.at zjp 60 [1,2] [1,3,4,5] [] [0] (.f h1<|.e) [1]) (fun h=>nomatch h)
abbrev zgm (s:St) (r:Ex × St):Prop:=Loops 4 Tryz.prog (lZ Tryz.prog 103 1) s r
abbrev zhB (a:List Int) (b c d:Int) (e f:List (List Int)) (g:List (List (List Int))):St:=⟨sp 121 [(1,.ref 0 0),(6,.own 3 0 2 1)],[.flat [.sq a,aI b,aI c,aI d] true,.lst (EK.sl (.int .i64)) e false,.lst (EK.sl (.int .i64)) f false,.lst (EK.sl (EK.sl (.int .i64))) g true],[3]⟩
abbrev zgn (a:List Int) (b c d:Int) (e f:List (List Int)) (g:List (List (List Int))) (i:Nat) (j:List (List (List Int))):St:=⟨sp 121 [(1,.ref 0 0),(6,.own 4 0 i 1)],[.flat [.sq a,aI b,aI c,aI d] true,.lst (EK.sl (.int .i64)) e false,.lst (EK.sl (.int .i64)) f false,.dead,.lst (EK.sl (EK.sl (.int .i64))) j true],[3]⟩
abbrev zmK (a:List Int) (b c d:Int) (e f:List (List Int)) (g:List (List (List Int))):St:=⟨sp 121 [(1,.ref 0 0),(6,.own 3 0 2 1)],[.flat [.sq a,aI b,aI c,aI d] true,.lst (EK.sl (.int .i64)) e false,.lst (EK.sl (.int .i64)) f false,.lst (EK.sl (EK.sl (.int .i64))) g true],[3]⟩
abbrev zgo (a:List Int) (b c d:Int) (e f:List (List Int)) (g:List (List (List Int))) (i:Nat) (j:List (List (List Int))):St:=⟨sp 121 [(1,.ref 0 0),(6,.own 4 0 i 1)],[.flat [.sq a,aI b,aI c,aI d] true,.lst (EK.sl (.int .i64)) e false,.lst (EK.sl (.int .i64)) f false,.dead,.lst (EK.sl (EK.sl (.int .i64))) j true],[3]⟩
theorem zrA (a:List Int) (b d f:Int) (g i:List (List Int)) (j:List (List (List Int))) (h1:0<j.length) (h2:1<j.length) (h3:pRe (j.getD 0 (EK.dflt (EK.sl (EK.sl (.int .i64))))) (j.getD 1 (EK.dflt (EK.sl (EK.sl (.int .i64)))))) (h4:(↑((rsT (j.getD 1 (EK.dflt (EK.sl (EK.sl (.int .i64))))) (j.getD 0 (EK.dflt (EK.sl (EK.sl (.int .i64))))).length (j.getD 0 (EK.dflt (EK.sl (EK.sl (.int .i64)))))).length):Int)=0):zgm (zhB a b d f g i j) (Ex.exit 2,(zmK a b d f g i j)):=Loops.fin (LS.at zjp 60 [] [1,6] [3] [1] (.t h1<|.t h2<|.c h3<|.c (beq_iff_eq.2 h4)<|.e) [0,0,0,1,0,0,0,2,3,4]) (fun h=>nomatch h)
abbrev zgj (s:St) (r:Ex × St):Prop:=Loops 4 Tryz.prog (lZ Tryz.prog 103 2) s r
abbrev zhA (a:List (List Int)) (b:List Int) (c d e:Int) (f g:List (List Int)) (i:List (List (List Int))):St:=⟨sp 121 [(1,.ref 0 0),(6,.own 3 0 2 1),(7,.lst (EK.sl (.int .i64)) a),(8,aN),(9,aI 0)],[.flat [.sq b,aI c,aI d,aI e] true,.lst (EK.sl (.int .i64)) f false,.lst (EK.sl (.int .i64)) g false,.lst (EK.sl (EK.sl (.int .i64))) i true],[3]⟩
abbrev zgk (a:List (List Int)) (b:List Int) (c d e:Int) (f g:List (List Int)) (i:List (List (List Int))) (j:Nat) (l:Int) (m:List (List Int)):St:=⟨sp 121 [(1,.ref 0 0),(6,.own 3 0 2 1),(7,.lst (EK.sl (.int .i64)) a),(8,.own 4 0 j 1),(9,aI l)],[.flat [.sq b,aI c,aI d,aI e] true,.lst (EK.sl (.int .i64)) f false,.lst (EK.sl (.int .i64)) g false,.lst (EK.sl (EK.sl (.int .i64))) i true,.lst (EK.sl (.int .i64)) m true],[3]⟩
abbrev rro_L2_E0 (a:List (List Int)) (b:List Int) (c d e:Int) (f g:List (List Int)) (i:List (List (List Int))):St:=⟨sp 121 [(1,.ref 0 0),(6,.own 3 0 2 1),(7,.lst (EK.sl (.int .i64)) a),(8,aN),(9,aI 0)],[.flat [.sq b,aI c,aI d,aI e] true,.lst (EK.sl (.int .i64)) f false,.lst (EK.sl (.int .i64)) g false,.lst (EK.sl (EK.sl (.int .i64))) i true],[3]⟩
abbrev zeq (a:List (List Int)) (b:List Int) (c d e:Int) (f g:List (List Int)) (i:List (List (List Int))) (j:Nat) (l:Int) (m:List (List Int)):St:=⟨sp 121 [(1,.ref 0 0),(6,.own 3 0 2 1),(7,.lst (EK.sl (.int .i64)) a),(8,.own 4 0 j 1),(9,aI l)],[.flat [.sq b,aI c,aI d,aI e] true,.lst (EK.sl (.int .i64)) f false,.lst (EK.sl (.int .i64)) g false,.lst (EK.sl (EK.sl (.int .i64))) i true,.lst (EK.sl (.int .i64)) m true],[3]⟩
theorem zru (a:List (List Int)) (b:List Int) (d f g:Int) (i j:List (List Int)) (l:List (List (List Int))) (h1:0<(a.length:Int)) (h2:pX (a.getD 0 (EK.dflt (EK.sl (.int .i64))))) (h3:1≤List.length [aZ (-vl (a.getD 0 (EK.dflt (EK.sl (.int .i64)))))]) (h4:0<(List.take 1 [aZ (-vl (a.getD 0 (EK.dflt (EK.sl (.int .i64)))))]).length) (h5:(List.take 1 [aZ (-vl (a.getD 0 (EK.dflt (EK.sl (.int .i64)))))]).length*24≤140737488355328) (h6:(List.take 1 [aZ (-vl (a.getD 0 (EK.dflt (EK.sl (.int .i64)))))]).length≤4611686018427387904) {r:Ex × St} (k:zgj (zgk a b d f g i j l (1) (1) ([aZ (-vl (a.getD 0 (EK.dflt (EK.sl (.int .i64)))))])) r):zgj (zhA a b d f g i j l) r:=Loops.go (LS.at zjp 60 [5] [1,6,7,8,9] [3] [1] (.t h1<|.c h2<|.c h3<|.t h4<|.t h5<|.t h6<|.e) [1,0,1,2,3,4,5,6,0]) k
theorem rro_L2_0_1 (a:List (List Int)) (b:List Int) (c d g:Int) (i j:List (List Int)) (l:List (List (List Int))) (h1:¬(0<(a.length:Int))):zgj (zhA a b c d g i j l) (Ex.exit 4,(rro_L2_E0 a b c d g i j l)):=Loops.fin (LS.at zjp 60 [] [1,6,7,8,9] [3] [0] (.f h1<|.e) [1]) (fun h=>nomatch h)
theorem zrv (a:List (List Int)) (b:List Int) (d f g:Int) (j l:List (List Int)) (m:List (List (List Int))) (n:Nat) (o:Int) (p:List (List Int)) (h1:o<(a.length:Int)) (h2:0≤o) (h3:pX (a.getD o.toNat (EK.dflt (EK.sl (.int .i64))))) (h4:1≤List.length [aZ (-vl (a.getD o.toNat (EK.dflt (EK.sl (.int .i64)))))]) (h5:(n+(List.take 1 [aZ (-vl (a.getD o.toNat (EK.dflt (EK.sl (.int .i64)))))]).length)*24≤140737488355328) (h6:n+(List.take 1 [aZ (-vl (a.getD o.toNat (EK.dflt (EK.sl (.int .i64)))))]).length≤4611686018427387904) (h7:n≤p.length) (h8:r64 (o+1)) {r:Ex × St} (k:zgj (zgk a b d f g j l m (n+(List.take 1 [aZ (-vl (a.getD o.toNat (EK.dflt (EK.sl (.int .i64)))))]).length) (o+1) (p.take n++List.take 1 [aZ (-vl (a.getD o.toNat (EK.dflt (EK.sl (.int .i64)))))])) r):zgj (zgk a b d f g j l m n o p) r:=Loops.go (LS.at zjp 60 [6] [1,6,7,8,9] [3] [1] (.t h1<|.t h2<|.c h3<|.c h4<|.t h5<|.t h6<|.t h7<|.i h8<|.e) [1,2,1,3,4,5,6,7,8]) k
theorem zrw (a:List (List Int)) (b:List Int) (c d g:Int) (i j:List (List Int)) (l:List (List (List Int))) (m:Nat) (n:Int) (o:List (List Int)) (h1:¬(n<(a.length:Int))):zgj (zgk a b c d g i j l m n o) (Ex.exit 4,(zeq a b c d g i j l m n o)):=Loops.fin (LS.at zjp 60 [4] [1,6,7,8,9] [3] [0] (.f h1<|.e) [1]) (fun h=>nomatch h)
theorem zrB (a:List Int) (b d f:Int) (g i:List (List Int)) (j:List (List (List Int))) (l:Nat) (m:Int) (n:List (List Int)) (h1:0<j.length) (h2:1<j.length) (h3:pRe (j.getD 0 (EK.dflt (EK.sl (EK.sl (.int .i64))))) (j.getD 1 (EK.dflt (EK.sl (EK.sl (.int .i64)))))) (h4:(↑((rsT (j.getD 1 (EK.dflt (EK.sl (EK.sl (.int .i64))))) (j.getD 0 (EK.dflt (EK.sl (EK.sl (.int .i64))))).length (j.getD 0 (EK.dflt (EK.sl (EK.sl (.int .i64)))))).length):Int)≠0) (hL1:zgj (zhA (rsT (j.getD 1 (EK.dflt (EK.sl (EK.sl (.int .i64))))) (j.getD 0 (EK.dflt (EK.sl (EK.sl (.int .i64))))).length (j.getD 0 (EK.dflt (EK.sl (EK.sl (.int .i64)))))) a b d f g i j) (Ex.exit 4,(zeq (rsT (j.getD 1 (EK.dflt (EK.sl (EK.sl (.int .i64))))) (j.getD 0 (EK.dflt (EK.sl (EK.sl (.int .i64))))).length (j.getD 0 (EK.dflt (EK.sl (EK.sl (.int .i64)))))) a b d f g i j l m n))) (h6:l≤n.length) (h7:1≤List.length [n.take l]) (h8:(2+(List.take 1 [n.take l]).length)*24≤140737488355328) (h9:2+(List.take 1 [n.take l]).length≤4611686018427387904) (h10:2≤j.length) {r:Ex × St} (k:zgm (zgn a b d f g i j (3) (j.take 2++List.take 1 [n.take l])) r):zgm (zhB a b d f g i j) r:=Loops.go (LS.at zjp 60 [6] [1,6] [3] [0] (.t h1<|.t h2<|.c h3<|.c (beq_false_of_ne h4)<|.v [1,6,7,8,9] [3] hL1<|.c h6<|.c h7<|.t h8<|.t h9<|.t h10<|.e) [0,0,0,1,0,0,0,2,3,4,0,5,6,7,8,9,10]) k
theorem zrC (a:List Int) (b d f:Int) (g j:List (List Int)) (l:List (List (List Int))) (m:Nat) (n:List (List (List Int))) (h1:r64 ((m:Int)-2)) (h2:0≤(m:Int)-2) (h3:(m:Int)-2<(m:Int)) (h4:((m:Int)-2).toNat<n.length) (h5:r64 ((m:Int)-1)) (h6:0≤(m:Int)-1) (h7:(m:Int)-1<(m:Int)) (h8:((m:Int)-1).toNat<n.length) (h9:pRe (n.getD ((m:Int)-2).toNat (EK.dflt (EK.sl (EK.sl (.int .i64))))) (n.getD ((m:Int)-1).toNat (EK.dflt (EK.sl (EK.sl (.int .i64)))))) (h10:(↑((rsT (n.getD ((m:Int)-1).toNat (EK.dflt (EK.sl (EK.sl (.int .i64))))) (n.getD ((m:Int)-2).toNat (EK.dflt (EK.sl (EK.sl (.int .i64))))).length (n.getD ((m:Int)-2).toNat (EK.dflt (EK.sl (EK.sl (.int .i64)))))).length):Int)=0):zgm (zgn a b d f g j l m n) (Ex.exit 2,(zgo a b d f g j l m n)):=Loops.fin (LS.at zjp 60 [4] [1,6] [3] [1] (.i h1<|.t h2<|.t h3<|.t h4<|.i h5<|.t h6<|.t h7<|.t h8<|.c h9<|.c (beq_iff_eq.2 h10)<|.e) [1,2,3,4,5,6,7,8,9,10]) (fun h=>nomatch h)
abbrev zg6 (s:St) (r:Ex × St):Prop:=Loops 5 Tryz.prog (lZ Tryz.prog 103 2) s r
abbrev zk0 (a:Nat) (b:List (List Int)) (c:List Int) (d e f:Int) (g i:List (List Int)) (j:List (List (List Int))):St:=⟨sp 121 [(1,.ref 0 0),(6,.own 4 0 a 1),(7,.lst (EK.sl (.int .i64)) b),(8,aN),(9,aI 0)],[.flat [.sq c,aI d,aI e,aI f] true,.lst (EK.sl (.int .i64)) g false,.lst (EK.sl (.int .i64)) i false,.dead,.lst (EK.sl (EK.sl (.int .i64))) j true],[3]⟩
abbrev zgl (a:Nat) (b:List (List Int)) (c:List Int) (d e f:Int) (g i:List (List Int)) (j:List (List (List Int))) (l:Nat) (m:Int) (n:List (List Int)):St:=⟨sp 121 [(1,.ref 0 0),(6,.own 4 0 a 1),(7,.lst (EK.sl (.int .i64)) b),(8,.own 5 0 l 1),(9,aI m)],[.flat [.sq c,aI d,aI e,aI f] true,.lst (EK.sl (.int .i64)) g false,.lst (EK.sl (.int .i64)) i false,.dead,.lst (EK.sl (EK.sl (.int .i64))) j true,.lst (EK.sl (.int .i64)) n true],[3]⟩
abbrev zer (a:Nat) (b:List (List Int)) (c:List Int) (d e f:Int) (g i:List (List Int)) (j:List (List (List Int))) (l:Nat) (m:Int) (n:List (List Int)):St:=⟨sp 121 [(1,.ref 0 0),(6,.own 4 0 a 1),(7,.lst (EK.sl (.int .i64)) b),(8,.own 5 0 l 1),(9,aI m)],[.flat [.sq c,aI d,aI e,aI f] true,.lst (EK.sl (.int .i64)) g false,.lst (EK.sl (.int .i64)) i false,.dead,.lst (EK.sl (EK.sl (.int .i64))) j true,.lst (EK.sl (.int .i64)) n true],[3]⟩
theorem zrx (a:Nat) (b:List (List Int)) (d:List Int) (f g i:Int) (j l:List (List Int)) (m:List (List (List Int))) (h1:0<(b.length:Int)) (h2:pX (b.getD 0 (EK.dflt (EK.sl (.int .i64))))) (h3:1≤List.length [aZ (-vl (b.getD 0 (EK.dflt (EK.sl (.int .i64)))))]) (h4:0<(List.take 1 [aZ (-vl (b.getD 0 (EK.dflt (EK.sl (.int .i64)))))]).length) (h5:(List.take 1 [aZ (-vl (b.getD 0 (EK.dflt (EK.sl (.int .i64)))))]).length*24≤140737488355328) (h6:(List.take 1 [aZ (-vl (b.getD 0 (EK.dflt (EK.sl (.int .i64)))))]).length≤4611686018427387904) {r:Ex × St} (k:zg6 (zgl a b d f g i j l m (1) (1) ([aZ (-vl (b.getD 0 (EK.dflt (EK.sl (.int .i64)))))])) r):zg6 (zk0 a b d f g i j l m) r:=Loops.go (LS.at zjp 60 [6] [1,6,7,8,9] [3] [1] (.t h1<|.c h2<|.c h3<|.t h4<|.t h5<|.t h6<|.e) [1,0,1,2,3,4,5,6,0]) k
theorem zry (a:Nat) (b:List (List Int)) (d:List Int) (f g j:Int) (l m:List (List Int)) (n:List (List (List Int))) (o:Nat) (p:Int) (q:List (List Int)) (h1:p<(b.length:Int)) (h2:0≤p) (h3:pX (b.getD p.toNat (EK.dflt (EK.sl (.int .i64))))) (h4:1≤List.length [aZ (-vl (b.getD p.toNat (EK.dflt (EK.sl (.int .i64)))))]) (h5:(o+(List.take 1 [aZ (-vl (b.getD p.toNat (EK.dflt (EK.sl (.int .i64)))))]).length)*24≤140737488355328) (h6:o+(List.take 1 [aZ (-vl (b.getD p.toNat (EK.dflt (EK.sl (.int .i64)))))]).length≤4611686018427387904) (h7:o≤q.length) (h8:r64 (p+1)) {r:Ex × St} (k:zg6 (zgl a b d f g j l m n (o+(List.take 1 [aZ (-vl (b.getD p.toNat (EK.dflt (EK.sl (.int .i64)))))]).length) (p+1) (q.take o++List.take 1 [aZ (-vl (b.getD p.toNat (EK.dflt (EK.sl (.int .i64)))))])) r):zg6 (zgl a b d f g j l m n o p q) r:=Loops.go (LS.at zjp 60 [7] [1,6,7,8,9] [3] [1] (.t h1<|.t h2<|.c h3<|.c h4<|.t h5<|.t h6<|.t h7<|.i h8<|.e) [1,2,1,3,4,5,6,7,8]) k
theorem zrz (a:Nat) (b:List (List Int)) (c:List Int) (d g i:Int) (j l:List (List Int)) (m:List (List (List Int))) (n:Nat) (o:Int) (p:List (List Int)) (h1:¬(o<(b.length:Int))):zg6 (zgl a b c d g i j l m n o p) (Ex.exit 4,(zer a b c d g i j l m n o p)):=Loops.fin (LS.at zjp 60 [5] [1,6,7,8,9] [3] [0] (.f h1<|.e) [1]) (fun h=>nomatch h)
theorem zrD (a:List Int) (b d f:Int) (g j:List (List Int)) (l:List (List (List Int))) (m:Nat) (n:List (List (List Int))) (o:Nat) (p:Int) (q:List (List Int)) (h1:r64 ((m:Int)-2)) (h2:0≤(m:Int)-2) (h3:(m:Int)-2<(m:Int)) (h4:((m:Int)-2).toNat<n.length) (h5:r64 ((m:Int)-1)) (h6:0≤(m:Int)-1) (h7:(m:Int)-1<(m:Int)) (h8:((m:Int)-1).toNat<n.length) (h9:pRe (n.getD ((m:Int)-2).toNat (EK.dflt (EK.sl (EK.sl (.int .i64))))) (n.getD ((m:Int)-1).toNat (EK.dflt (EK.sl (EK.sl (.int .i64)))))) (h10:(↑((rsT (n.getD ((m:Int)-1).toNat (EK.dflt (EK.sl (EK.sl (.int .i64))))) (n.getD ((m:Int)-2).toNat (EK.dflt (EK.sl (EK.sl (.int .i64))))).length (n.getD ((m:Int)-2).toNat (EK.dflt (EK.sl (EK.sl (.int .i64)))))).length):Int)≠0) (hL1:zg6 (zk0 m (rsT (n.getD ((m:Int)-1).toNat (EK.dflt (EK.sl (EK.sl (.int .i64))))) (n.getD ((m:Int)-2).toNat (EK.dflt (EK.sl (EK.sl (.int .i64))))).length (n.getD ((m:Int)-2).toNat (EK.dflt (EK.sl (EK.sl (.int .i64)))))) a b d f g j n) (Ex.exit 4,(zer m (rsT (n.getD ((m:Int)-1).toNat (EK.dflt (EK.sl (EK.sl (.int .i64))))) (n.getD ((m:Int)-2).toNat (EK.dflt (EK.sl (EK.sl (.int .i64))))).length (n.getD ((m:Int)-2).toNat (EK.dflt (EK.sl (EK.sl (.int .i64)))))) a b d f g j n o p q))) (h12:o≤q.length) (h13:1≤List.length [q.take o]) (h14:(m+(List.take 1 [q.take o]).length)*24≤140737488355328) (h15:m+(List.take 1 [q.take o]).length≤4611686018427387904) (h16:m≤n.length) {r:Ex × St} (k:zgm (zgn a b d f g j l (m+(List.take 1 [q.take o]).length) (n.take m++List.take 1 [q.take o])) r):zgm (zgn a b d f g j l m n) r:=Loops.go (LS.at zjp 60 [7] [1,6] [3] [0] (.i h1<|.t h2<|.t h3<|.t h4<|.i h5<|.t h6<|.t h7<|.t h8<|.c h9<|.c (beq_false_of_ne h10)<|.v [1,6,7,8,9] [3] hL1<|.c h12<|.c h13<|.t h14<|.t h15<|.t h16<|.e) [1,2,3,4,5,6,7,8,9,10,0,11,12,13,14,15,16]) k
abbrev zZ (a:Int) (b:Int) (c:Int) (d:Nat) (e:Nat) (g:List (List Int)) (i:List (List Int)):AV:=aI ((zbk (svs (List.take 2 [g.take d,i.take e]) (vl (List.take 1 [a])) (vl (List.take 1 [c]))) 0 0).fst-(zbk (svs (List.take 2 [g.take d,i.take e]) (vl (List.take 1 [b])) (vl (List.take 1 [c]))) 0 0).fst)
abbrev zaz (a:Int) (c:Int) (d:Nat) (e:Nat) (g:List (List Int)) (i:List (List Int)):AV:=aI (zbk (svs (List.take 2 [g.take d,i.take e]) (vl (List.take 1 [a])) (vl (List.take 1 [c]))) 0 0).fst
abbrev zaA (b:Int) (c:Int) (d:Nat) (e:Nat) (g:List (List Int)) (i:List (List Int)):AV:=aI (zbk (svs (List.take 2 [g.take d,i.take e]) (vl (List.take 1 [b])) (vl (List.take 1 [c]))) 0 0).fst
abbrev zaB (d:Nat) (e:Nat) (g:List (List Int)) (i:List (List Int)):Row:=.lst (EK.sl (EK.sl (.int .i64))) [g.take d,i.take e] false
abbrev oZ:AV:=.own 3 0 2 1
abbrev zaC (p:List Int) (a:Int) (b:Int) (c:Int):Row:=.flat [.sq p,aI a,aI b,aI c] true
abbrev zaD (g:List (List Int)):Row:=.lst (EK.sl (.int .i64)) g false
abbrev zaE (i:List (List Int)):Row:=.lst (EK.sl (.int .i64)) i false
abbrev AZ (c:Int):Row:=.ints [c] false
abbrev zaF:AV:=.own 4 0 1 1
abbrev zaa:AV:=.own 5 0 1 1
abbrev zab:AV:=.own 6 0 1 1
abbrev zac:AV:=.own 7 0 1 1
abbrev rro_3_s0 (p:List Int) (a b c:Int) (d e:Nat) (f:Int) (g i:List (List Int)):St:=⟨sp 121 [(1,.ref 0 0),(2,(zZ a b c d e g i)),(6,oZ),(104,oZ),(105,.ref 0 1),(106,aI a),(107,zaF),(108,.ref 0 3),(109,aI c),(110,zaa),(111,(zaz a c d e g i)),(112,oZ),(113,.ref 0 2),(114,aI b),(115,zab),(116,.ref 0 3),(117,aI c),(118,zac),(119,(zaA b c d e g i)),(120,(zZ a b c d e g i))],[(zaC p a b c),(zaD g),(zaE i),(zaB d e g i),.ints [a] false,(AZ c),.ints [b] false,(AZ c)],[3]⟩
abbrev rro_3_s1 (p:List Int) (a b c:Int) (d e:Nat) (f:Int) (g i:List (List Int)):St:=⟨sp 121 [(1,.ref 0 0),(2,(zZ a b c d e g i)),(6,oZ),(104,oZ),(105,.ref 0 1),(106,aI a),(107,zaF),(108,.ref 0 3),(109,aI c),(110,zaa),(111,(zaz a c d e g i)),(112,oZ),(113,.ref 0 2),(114,aI b),(115,zac),(116,.ref 0 3),(117,aI c),(118,zab),(119,(zaA b c d e g i)),(120,(zZ a b c d e g i))],[(zaC p a b c),(zaD g),(zaE i),(zaB d e g i),.ints [a] false,(AZ c),(AZ c),.ints [b] false],[3]⟩
abbrev rro_3_s2 (p:List Int) (a b c:Int) (d e:Nat) (f:Int) (g i:List (List Int)):St:=⟨sp 121 [(1,.ref 0 0),(2,(zZ a b c d e g i)),(6,oZ),(104,oZ),(105,.ref 0 1),(106,aI a),(107,zaF),(108,.ref 0 3),(109,aI c),(110,zab),(111,(zaz a c d e g i)),(112,oZ),(113,.ref 0 2),(114,aI b),(115,zaa),(116,.ref 0 3),(117,aI c),(118,zac),(119,(zaA b c d e g i)),(120,(zZ a b c d e g i))],[(zaC p a b c),(zaD g),(zaE i),(zaB d e g i),.ints [a] false,.ints [b] false,(AZ c),(AZ c)],[3]⟩
abbrev rro_3_s3 (p:List Int) (a b c:Int) (d e:Nat) (f:Int) (g i:List (List Int)):St:=⟨sp 121 [(1,.ref 0 0),(2,(zZ a b c d e g i)),(6,oZ),(104,oZ),(105,.ref 0 1),(106,aI a),(107,zaF),(108,.ref 0 3),(109,aI c),(110,zab),(111,(zaz a c d e g i)),(112,oZ),(113,.ref 0 2),(114,aI b),(115,zac),(116,.ref 0 3),(117,aI c),(118,zaa),(119,(zaA b c d e g i)),(120,(zZ a b c d e g i))],[(zaC p a b c),(zaD g),(zaE i),(zaB d e g i),.ints [a] false,(AZ c),(AZ c),.ints [b] false],[3]⟩
abbrev rro_3_s4 (p:List Int) (a b c:Int) (d e:Nat) (f:Int) (g i:List (List Int)):St:=⟨sp 121 [(1,.ref 0 0),(2,(zZ a b c d e g i)),(6,oZ),(104,oZ),(105,.ref 0 1),(106,aI a),(107,zaa),(108,.ref 0 3),(109,aI c),(110,zaF),(111,(zaz a c d e g i)),(112,oZ),(113,.ref 0 2),(114,aI b),(115,zab),(116,.ref 0 3),(117,aI c),(118,zac),(119,(zaA b c d e g i)),(120,(zZ a b c d e g i))],[(zaC p a b c),(zaD g),(zaE i),(zaB d e g i),(AZ c),.ints [a] false,.ints [b] false,(AZ c)],[3]⟩
abbrev rro_3_s5 (p:List Int) (a b c:Int) (d e:Nat) (f:Int) (g i:List (List Int)):St:=⟨sp 121 [(1,.ref 0 0),(2,(zZ a b c d e g i)),(6,oZ),(104,oZ),(105,.ref 0 1),(106,aI a),(107,zaa),(108,.ref 0 3),(109,aI c),(110,zaF),(111,(zaz a c d e g i)),(112,oZ),(113,.ref 0 2),(114,aI b),(115,zac),(116,.ref 0 3),(117,aI c),(118,zab),(119,(zaA b c d e g i)),(120,(zZ a b c d e g i))],[(zaC p a b c),(zaD g),(zaE i),(zaB d e g i),(AZ c),.ints [a] false,(AZ c),.ints [b] false],[3]⟩
abbrev rro_3_s6 (p:List Int) (a b c:Int) (d e:Nat) (f:Int) (g i:List (List Int)):St:=⟨sp 121 [(1,.ref 0 0),(2,(zZ a b c d e g i)),(6,oZ),(104,oZ),(105,.ref 0 1),(106,aI a),(107,zab),(108,.ref 0 3),(109,aI c),(110,zaF),(111,(zaz a c d e g i)),(112,oZ),(113,.ref 0 2),(114,aI b),(115,zaa),(116,.ref 0 3),(117,aI c),(118,zac),(119,(zaA b c d e g i)),(120,(zZ a b c d e g i))],[(zaC p a b c),(zaD g),(zaE i),(zaB d e g i),(AZ c),.ints [b] false,.ints [a] false,(AZ c)],[3]⟩
abbrev rro_3_s7 (p:List Int) (a b c:Int) (d e:Nat) (f:Int) (g i:List (List Int)):St:=⟨sp 121 [(1,.ref 0 0),(2,(zZ a b c d e g i)),(6,oZ),(104,oZ),(105,.ref 0 1),(106,aI a),(107,zab),(108,.ref 0 3),(109,aI c),(110,zaF),(111,(zaz a c d e g i)),(112,oZ),(113,.ref 0 2),(114,aI b),(115,zac),(116,.ref 0 3),(117,aI c),(118,zaa),(119,(zaA b c d e g i)),(120,(zZ a b c d e g i))],[(zaC p a b c),(zaD g),(zaE i),(zaB d e g i),(AZ c),(AZ c),.ints [a] false,.ints [b] false],[3]⟩
abbrev rro_3_s8 (p:List Int) (a b c:Int) (d e:Nat) (f:Int) (g i:List (List Int)):St:=⟨sp 121 [(1,.ref 0 0),(2,(zZ a b c d e g i)),(6,oZ),(104,oZ),(105,.ref 0 1),(106,aI a),(107,zaa),(108,.ref 0 3),(109,aI c),(110,zab),(111,(zaz a c d e g i)),(112,oZ),(113,.ref 0 2),(114,aI b),(115,zaF),(116,.ref 0 3),(117,aI c),(118,zac),(119,(zaA b c d e g i)),(120,(zZ a b c d e g i))],[(zaC p a b c),(zaD g),(zaE i),(zaB d e g i),.ints [b] false,.ints [a] false,(AZ c),(AZ c)],[3]⟩
abbrev rro_3_s9 (p:List Int) (a b c:Int) (d e:Nat) (f:Int) (g i:List (List Int)):St:=⟨sp 121 [(1,.ref 0 0),(2,(zZ a b c d e g i)),(6,oZ),(104,oZ),(105,.ref 0 1),(106,aI a),(107,zab),(108,.ref 0 3),(109,aI c),(110,zaa),(111,(zaz a c d e g i)),(112,oZ),(113,.ref 0 2),(114,aI b),(115,zaF),(116,.ref 0 3),(117,aI c),(118,zac),(119,(zaA b c d e g i)),(120,(zZ a b c d e g i))],[(zaC p a b c),(zaD g),(zaE i),(zaB d e g i),.ints [b] false,(AZ c),.ints [a] false,(AZ c)],[3]⟩
abbrev rro_3_s10 (p:List Int) (a b c:Int) (d e:Nat) (f:Int) (g i:List (List Int)):St:=⟨sp 121 [(1,.ref 0 0),(2,(zZ a b c d e g i)),(6,oZ),(104,oZ),(105,.ref 0 1),(106,aI a),(107,zab),(108,.ref 0 3),(109,aI c),(110,zac),(111,(zaz a c d e g i)),(112,oZ),(113,.ref 0 2),(114,aI b),(115,zaF),(116,.ref 0 3),(117,aI c),(118,zaa),(119,(zaA b c d e g i)),(120,(zZ a b c d e g i))],[(zaC p a b c),(zaD g),(zaE i),(zaB d e g i),.ints [b] false,(AZ c),.ints [a] false,(AZ c)],[3]⟩
abbrev rro_3_s11 (p:List Int) (a b c:Int) (d e:Nat) (f:Int) (g i:List (List Int)):St:=⟨sp 121 [(1,.ref 0 0),(2,(zZ a b c d e g i)),(6,oZ),(104,oZ),(105,.ref 0 1),(106,aI a),(107,zaa),(108,.ref 0 3),(109,aI c),(110,zab),(111,(zaz a c d e g i)),(112,oZ),(113,.ref 0 2),(114,aI b),(115,zac),(116,.ref 0 3),(117,aI c),(118,zaF),(119,(zaA b c d e g i)),(120,(zZ a b c d e g i))],[(zaC p a b c),(zaD g),(zaE i),(zaB d e g i),(AZ c),.ints [a] false,(AZ c),.ints [b] false],[3]⟩
abbrev rro_3_s12 (p:List Int) (a b c:Int) (d e:Nat) (f:Int) (g i:List (List Int)):St:=⟨sp 121 [(1,.ref 0 0),(2,(zZ a b c d e g i)),(6,oZ),(104,oZ),(105,.ref 0 1),(106,aI a),(107,zab),(108,.ref 0 3),(109,aI c),(110,zaa),(111,(zaz a c d e g i)),(112,oZ),(113,.ref 0 2),(114,aI b),(115,zac),(116,.ref 0 3),(117,aI c),(118,zaF),(119,(zaA b c d e g i)),(120,(zZ a b c d e g i))],[(zaC p a b c),(zaD g),(zaE i),(zaB d e g i),(AZ c),(AZ c),.ints [a] false,.ints [b] false],[3]⟩
abbrev rro_3_s13 (p:List Int) (a b c:Int) (d e:Nat) (f:Int) (g i:List (List Int)):St:=⟨sp 121 [(1,.ref 0 0),(2,(zZ a b c d e g i)),(6,oZ),(104,oZ),(105,.ref 0 1),(106,aI a),(107,zab),(108,.ref 0 3),(109,aI c),(110,zac),(111,(zaz a c d e g i)),(112,oZ),(113,.ref 0 2),(114,aI b),(115,zaa),(116,.ref 0 3),(117,aI c),(118,zaF),(119,(zaA b c d e g i)),(120,(zZ a b c d e g i))],[(zaC p a b c),(zaD g),(zaE i),(zaB d e g i),(AZ c),.ints [b] false,.ints [a] false,(AZ c)],[3]⟩
theorem rro_3 (p:List Int) (a b c:Int) (d f:Nat) (g:Int) (j l:List (List Int)) (h1:(p.length:Int)≠2) (hL1:zdX (zgh p a b c) (Ex.exit 0,(zdc p a b c d f g j l))) (h3:d≤j.length) (h4:f≤l.length) (hL2:zgm (zhB p a b c j l ([j.take d,l.take f])) (Ex.exit 2,(zmK p a b c j l ([j.take d,l.take f])))) (h6:2≤List.length [j.take d,l.take f]) (h7:1≤List.length [a]) (h8:1≤List.length [c]) (h9:pCh (List.take 2 [j.take d,l.take f]) (List.take 1 [a]) (List.take 1 [c])) (h10:1≤List.length [b]) (h11:pCh (List.take 2 [j.take d,l.take f]) (List.take 1 [b]) (List.take 1 [c])) (h12:r64 ((zbk (svs (List.take 2 [j.take d,l.take f]) (vl (List.take 1 [a])) (vl (List.take 1 [c]))) 0 0).fst-(zbk (svs (List.take 2 [j.take d,l.take f]) (vl (List.take 1 [b])) (vl (List.take 1 [c]))) 0 0).fst)):FC Tryz.prog 103 [.agg [.sq p,.lit (.int .i64 a),.lit (.int .i64 b),.lit (.int .i64 c)]] (aI ((zbk (svs (List.take 2 [j.take d,l.take f]) (vl (List.take 1 [a])) (vl (List.take 1 [c]))) 0 0).fst-(zbk (svs (List.take 2 [j.take d,l.take f]) (vl (List.take 1 [b])) (vl (List.take 1 [c]))) 0 0).fst)):=eZ zjp 60 [0] (.c (beq_false_of_ne h1)<|.v [1,3,4,5] [] hL1<|.c h3<|.c h4<|.v [1,6] [3] hL2<|.c h6<|.c h7<|.c h8<|.c h9<|.c h10<|.c h11<|.i h12<|.s (rro_3_s0 p a b c d f g j l)<|.s (rro_3_s1 p a b c d f g j l)<|.s (rro_3_s2 p a b c d f g j l)<|.s (rro_3_s3 p a b c d f g j l)<|.s (rro_3_s4 p a b c d f g j l)<|.s (rro_3_s5 p a b c d f g j l)<|.s (rro_3_s6 p a b c d f g j l)<|.s (rro_3_s7 p a b c d f g j l)<|.s (rro_3_s8 p a b c d f g j l)<|.s (rro_3_s9 p a b c d f g j l)<|.s (rro_3_s10 p a b c d f g j l)<|.s (rro_3_s11 p a b c d f g j l)<|.s (rro_3_s12 p a b c d f g j l)<|.s (rro_3_s13 p a b c d f g j l)<|.e) [1,0,2,3,4,0,5,6,7,8,9,6,10,8,11,12,6,10,8,11,12,13,6,7,8,9,6,10,8,11,12,6,7,8,9,6,10,8,11,12,13,6,7,8,9,6,10,8,11,12,6,7,8,9,6,10,8,11,12,14,13,13,6,7,8,9,6,10,8,11,12,6,7,8,9,6,10,8,11,12,15,6,7,8,9,6,10,8,11,12,15,6,7,8,9,6,10,8,11,12,6,7,8,9,6,10,8,11,12,16,6,7,8,9,6,10,8,11,12,16,13,13,6,7,8,9,6,10,8,11,12,6,10,8,11,12,17,6,7,8,9,6,10,8,11,12,6,7,8,9,6,10,8,11,12,17,6,7,8,9,6,10,8,11,12,6,7,8,9,6,10,8,11,12,18,17,17,6,7,8,9,6,10,8,11,12,6,7,8,9,6,10,8,11,12,19,6,7,8,9,6,10,8,11,12,19,6,7,8,9,6,10,8,11,12,6,7,8,9,6,10,8,11,12,20,6,7,8,9,6,10,8,11,12,20,17,17,6,7,8,9,6,10,8,11,12,6,7,8,9,6,10,8,11,12,21,6,7,8,9,6,10,8,11,12,21,6,7,8,9,6,10,8,11,12,6,7,8,9,6,10,8,11,12,22,6,7,8,9,6,10,8,11,12,22,6,7,8,9,6,10,8,11,12,6,7,8,9,6,10,8,11,12,23,21,21,6,7,8,9,6,10,8,11,12,6,7,8,9,6,10,8,11,12,24,6,7,8,9,6,10,8,11,12,24,6,7,8,9,6,10,8,11,12,6,7,8,9,6,10,8,11,12,25,6,7,8,9,6,10,8,11,12,25,6,7,8,9,6,10,8,11,12,6,7,8,9,6,10,8,11,12,26,24,24,13,13,13]
abbrev BZ (a:Int) (b:Int) (c:Int) (j:Nat) (l:List (List (List Int))):AV:=aI ((zbk (svs (l.take j) (vl (List.take 1 [a])) (vl (List.take 1 [c]))) 0 0).fst-(zbk (svs (l.take j) (vl (List.take 1 [b])) (vl (List.take 1 [c]))) 0 0).fst)
abbrev zaG (a:Int) (c:Int) (j:Nat) (l:List (List (List Int))):AV:=aI (zbk (svs (l.take j) (vl (List.take 1 [a])) (vl (List.take 1 [c]))) 0 0).fst
abbrev zaH (b:Int) (c:Int) (j:Nat) (l:List (List (List Int))):AV:=aI (zbk (svs (l.take j) (vl (List.take 1 [b])) (vl (List.take 1 [c]))) 0 0).fst
abbrev zaI (l:List (List (List Int))):Row:=.lst (EK.sl (EK.sl (.int .i64))) l false
abbrev zaJ (p:List Int) (a:Int) (b:Int) (c:Int):Row:=.flat [.sq p,aI a,aI b,aI c] true
abbrev zaK (g:List (List Int)):Row:=.lst (EK.sl (.int .i64)) g false
abbrev zaL (i:List (List Int)):Row:=.lst (EK.sl (.int .i64)) i false
abbrev CZ (c:Int):Row:=.ints [c] false
abbrev zaM:AV:=.own 5 0 1 1
abbrev zaN:AV:=.own 6 0 1 1
abbrev zad:AV:=.own 7 0 1 1
abbrev zae:AV:=.own 8 0 1 1
abbrev rro_4_s0 (p:List Int) (a b c:Int) (d e:Nat) (f:Int) (g i:List (List Int)) (j:Nat) (l:List (List (List Int))):St:=⟨sp 121 [(1,.ref 0 0),(2,(BZ a b c j l)),(6,.own 4 0 j 1),(104,.own 4 0 j 1),(105,.ref 0 1),(106,aI a),(107,zaM),(108,.ref 0 3),(109,aI c),(110,zaN),(111,(zaG a c j l)),(112,.own 4 0 j 1),(113,.ref 0 2),(114,aI b),(115,zad),(116,.ref 0 3),(117,aI c),(118,zae),(119,(zaH b c j l)),(120,(BZ a b c j l))],[(zaJ p a b c),(zaK g),(zaL i),.dead,(zaI l),.ints [a] false,(CZ c),.ints [b] false,(CZ c)],[3]⟩
abbrev rro_4_s1 (p:List Int) (a b c:Int) (d e:Nat) (f:Int) (g i:List (List Int)) (j:Nat) (l:List (List (List Int))):St:=⟨sp 121 [(1,.ref 0 0),(2,(BZ a b c j l)),(6,.own 4 0 j 1),(104,.own 4 0 j 1),(105,.ref 0 1),(106,aI a),(107,zaM),(108,.ref 0 3),(109,aI c),(110,zaN),(111,(zaG a c j l)),(112,.own 4 0 j 1),(113,.ref 0 2),(114,aI b),(115,zae),(116,.ref 0 3),(117,aI c),(118,zad),(119,(zaH b c j l)),(120,(BZ a b c j l))],[(zaJ p a b c),(zaK g),(zaL i),.dead,(zaI l),.ints [a] false,(CZ c),(CZ c),.ints [b] false],[3]⟩
abbrev rro_4_s2 (p:List Int) (a b c:Int) (d e:Nat) (f:Int) (g i:List (List Int)) (j:Nat) (l:List (List (List Int))):St:=⟨sp 121 [(1,.ref 0 0),(2,(BZ a b c j l)),(6,.own 4 0 j 1),(104,.own 4 0 j 1),(105,.ref 0 1),(106,aI a),(107,zaM),(108,.ref 0 3),(109,aI c),(110,zad),(111,(zaG a c j l)),(112,.own 4 0 j 1),(113,.ref 0 2),(114,aI b),(115,zaN),(116,.ref 0 3),(117,aI c),(118,zae),(119,(zaH b c j l)),(120,(BZ a b c j l))],[(zaJ p a b c),(zaK g),(zaL i),.dead,(zaI l),.ints [a] false,.ints [b] false,(CZ c),(CZ c)],[3]⟩
abbrev rro_4_s3 (p:List Int) (a b c:Int) (d e:Nat) (f:Int) (g i:List (List Int)) (j:Nat) (l:List (List (List Int))):St:=⟨sp 121 [(1,.ref 0 0),(2,(BZ a b c j l)),(6,.own 4 0 j 1),(104,.own 4 0 j 1),(105,.ref 0 1),(106,aI a),(107,zaM),(108,.ref 0 3),(109,aI c),(110,zad),(111,(zaG a c j l)),(112,.own 4 0 j 1),(113,.ref 0 2),(114,aI b),(115,zae),(116,.ref 0 3),(117,aI c),(118,zaN),(119,(zaH b c j l)),(120,(BZ a b c j l))],[(zaJ p a b c),(zaK g),(zaL i),.dead,(zaI l),.ints [a] false,(CZ c),(CZ c),.ints [b] false],[3]⟩
abbrev rro_4_s4 (p:List Int) (a b c:Int) (d e:Nat) (f:Int) (g i:List (List Int)) (j:Nat) (l:List (List (List Int))):St:=⟨sp 121 [(1,.ref 0 0),(2,(BZ a b c j l)),(6,.own 4 0 j 1),(104,.own 4 0 j 1),(105,.ref 0 1),(106,aI a),(107,zaN),(108,.ref 0 3),(109,aI c),(110,zaM),(111,(zaG a c j l)),(112,.own 4 0 j 1),(113,.ref 0 2),(114,aI b),(115,zad),(116,.ref 0 3),(117,aI c),(118,zae),(119,(zaH b c j l)),(120,(BZ a b c j l))],[(zaJ p a b c),(zaK g),(zaL i),.dead,(zaI l),(CZ c),.ints [a] false,.ints [b] false,(CZ c)],[3]⟩
abbrev rro_4_s5 (p:List Int) (a b c:Int) (d e:Nat) (f:Int) (g i:List (List Int)) (j:Nat) (l:List (List (List Int))):St:=⟨sp 121 [(1,.ref 0 0),(2,(BZ a b c j l)),(6,.own 4 0 j 1),(104,.own 4 0 j 1),(105,.ref 0 1),(106,aI a),(107,zaN),(108,.ref 0 3),(109,aI c),(110,zaM),(111,(zaG a c j l)),(112,.own 4 0 j 1),(113,.ref 0 2),(114,aI b),(115,zae),(116,.ref 0 3),(117,aI c),(118,zad),(119,(zaH b c j l)),(120,(BZ a b c j l))],[(zaJ p a b c),(zaK g),(zaL i),.dead,(zaI l),(CZ c),.ints [a] false,(CZ c),.ints [b] false],[3]⟩
abbrev rro_4_s6 (p:List Int) (a b c:Int) (d e:Nat) (f:Int) (g i:List (List Int)) (j:Nat) (l:List (List (List Int))):St:=⟨sp 121 [(1,.ref 0 0),(2,(BZ a b c j l)),(6,.own 4 0 j 1),(104,.own 4 0 j 1),(105,.ref 0 1),(106,aI a),(107,zad),(108,.ref 0 3),(109,aI c),(110,zaM),(111,(zaG a c j l)),(112,.own 4 0 j 1),(113,.ref 0 2),(114,aI b),(115,zaN),(116,.ref 0 3),(117,aI c),(118,zae),(119,(zaH b c j l)),(120,(BZ a b c j l))],[(zaJ p a b c),(zaK g),(zaL i),.dead,(zaI l),(CZ c),.ints [b] false,.ints [a] false,(CZ c)],[3]⟩
abbrev rro_4_s7 (p:List Int) (a b c:Int) (d e:Nat) (f:Int) (g i:List (List Int)) (j:Nat) (l:List (List (List Int))):St:=⟨sp 121 [(1,.ref 0 0),(2,(BZ a b c j l)),(6,.own 4 0 j 1),(104,.own 4 0 j 1),(105,.ref 0 1),(106,aI a),(107,zad),(108,.ref 0 3),(109,aI c),(110,zaM),(111,(zaG a c j l)),(112,.own 4 0 j 1),(113,.ref 0 2),(114,aI b),(115,zae),(116,.ref 0 3),(117,aI c),(118,zaN),(119,(zaH b c j l)),(120,(BZ a b c j l))],[(zaJ p a b c),(zaK g),(zaL i),.dead,(zaI l),(CZ c),(CZ c),.ints [a] false,.ints [b] false],[3]⟩
abbrev rro_4_s8 (p:List Int) (a b c:Int) (d e:Nat) (f:Int) (g i:List (List Int)) (j:Nat) (l:List (List (List Int))):St:=⟨sp 121 [(1,.ref 0 0),(2,(BZ a b c j l)),(6,.own 4 0 j 1),(104,.own 4 0 j 1),(105,.ref 0 1),(106,aI a),(107,zaN),(108,.ref 0 3),(109,aI c),(110,zad),(111,(zaG a c j l)),(112,.own 4 0 j 1),(113,.ref 0 2),(114,aI b),(115,zaM),(116,.ref 0 3),(117,aI c),(118,zae),(119,(zaH b c j l)),(120,(BZ a b c j l))],[(zaJ p a b c),(zaK g),(zaL i),.dead,(zaI l),.ints [b] false,.ints [a] false,(CZ c),(CZ c)],[3]⟩
abbrev rro_4_s9 (p:List Int) (a b c:Int) (d e:Nat) (f:Int) (g i:List (List Int)) (j:Nat) (l:List (List (List Int))):St:=⟨sp 121 [(1,.ref 0 0),(2,(BZ a b c j l)),(6,.own 4 0 j 1),(104,.own 4 0 j 1),(105,.ref 0 1),(106,aI a),(107,zad),(108,.ref 0 3),(109,aI c),(110,zaN),(111,(zaG a c j l)),(112,.own 4 0 j 1),(113,.ref 0 2),(114,aI b),(115,zaM),(116,.ref 0 3),(117,aI c),(118,zae),(119,(zaH b c j l)),(120,(BZ a b c j l))],[(zaJ p a b c),(zaK g),(zaL i),.dead,(zaI l),.ints [b] false,(CZ c),.ints [a] false,(CZ c)],[3]⟩
abbrev rro_4_s10 (p:List Int) (a b c:Int) (d e:Nat) (f:Int) (g i:List (List Int)) (j:Nat) (l:List (List (List Int))):St:=⟨sp 121 [(1,.ref 0 0),(2,(BZ a b c j l)),(6,.own 4 0 j 1),(104,.own 4 0 j 1),(105,.ref 0 1),(106,aI a),(107,zad),(108,.ref 0 3),(109,aI c),(110,zae),(111,(zaG a c j l)),(112,.own 4 0 j 1),(113,.ref 0 2),(114,aI b),(115,zaM),(116,.ref 0 3),(117,aI c),(118,zaN),(119,(zaH b c j l)),(120,(BZ a b c j l))],[(zaJ p a b c),(zaK g),(zaL i),.dead,(zaI l),.ints [b] false,(CZ c),.ints [a] false,(CZ c)],[3]⟩
abbrev rro_4_s11 (p:List Int) (a b c:Int) (d e:Nat) (f:Int) (g i:List (List Int)) (j:Nat) (l:List (List (List Int))):St:=⟨sp 121 [(1,.ref 0 0),(2,(BZ a b c j l)),(6,.own 4 0 j 1),(104,.own 4 0 j 1),(105,.ref 0 1),(106,aI a),(107,zaN),(108,.ref 0 3),(109,aI c),(110,zad),(111,(zaG a c j l)),(112,.own 4 0 j 1),(113,.ref 0 2),(114,aI b),(115,zae),(116,.ref 0 3),(117,aI c),(118,zaM),(119,(zaH b c j l)),(120,(BZ a b c j l))],[(zaJ p a b c),(zaK g),(zaL i),.dead,(zaI l),(CZ c),.ints [a] false,(CZ c),.ints [b] false],[3]⟩
abbrev rro_4_s12 (p:List Int) (a b c:Int) (d e:Nat) (f:Int) (g i:List (List Int)) (j:Nat) (l:List (List (List Int))):St:=⟨sp 121 [(1,.ref 0 0),(2,(BZ a b c j l)),(6,.own 4 0 j 1),(104,.own 4 0 j 1),(105,.ref 0 1),(106,aI a),(107,zad),(108,.ref 0 3),(109,aI c),(110,zaN),(111,(zaG a c j l)),(112,.own 4 0 j 1),(113,.ref 0 2),(114,aI b),(115,zae),(116,.ref 0 3),(117,aI c),(118,zaM),(119,(zaH b c j l)),(120,(BZ a b c j l))],[(zaJ p a b c),(zaK g),(zaL i),.dead,(zaI l),(CZ c),(CZ c),.ints [a] false,.ints [b] false],[3]⟩
abbrev rro_4_s13 (p:List Int) (a b c:Int) (d e:Nat) (f:Int) (g i:List (List Int)) (j:Nat) (l:List (List (List Int))):St:=⟨sp 121 [(1,.ref 0 0),(2,(BZ a b c j l)),(6,.own 4 0 j 1),(104,.own 4 0 j 1),(105,.ref 0 1),(106,aI a),(107,zad),(108,.ref 0 3),(109,aI c),(110,zae),(111,(zaG a c j l)),(112,.own 4 0 j 1),(113,.ref 0 2),(114,aI b),(115,zaN),(116,.ref 0 3),(117,aI c),(118,zaM),(119,(zaH b c j l)),(120,(BZ a b c j l))],[(zaJ p a b c),(zaK g),(zaL i),.dead,(zaI l),(CZ c),.ints [b] false,.ints [a] false,(CZ c)],[3]⟩
theorem rro_4 (p:List Int) (a b c:Int) (d f:Nat) (g:Int) (j l:List (List Int)) (m:Nat) (n:List (List (List Int))) (h1:(p.length:Int)≠2) (hL1:zdX (zgh p a b c) (Ex.exit 0,(zdc p a b c d f g j l))) (h3:d≤j.length) (h4:f≤l.length) (hL2:zgm (zhB p a b c j l ([j.take d,l.take f])) (Ex.exit 2,(zgo p a b c j l ([j.take d,l.take f]) m n))) (h6:m≤n.length) (h7:1≤List.length [a]) (h8:1≤List.length [c]) (h9:pCh (n.take m) (List.take 1 [a]) (List.take 1 [c])) (h10:1≤List.length [b]) (h11:pCh (n.take m) (List.take 1 [b]) (List.take 1 [c])) (h12:r64 ((zbk (svs (n.take m) (vl (List.take 1 [a])) (vl (List.take 1 [c]))) 0 0).fst-(zbk (svs (n.take m) (vl (List.take 1 [b])) (vl (List.take 1 [c]))) 0 0).fst)):FC Tryz.prog 103 [.agg [.sq p,.lit (.int .i64 a),.lit (.int .i64 b),.lit (.int .i64 c)]] (aI ((zbk (svs (n.take m) (vl (List.take 1 [a])) (vl (List.take 1 [c]))) 0 0).fst-(zbk (svs (n.take m) (vl (List.take 1 [b])) (vl (List.take 1 [c]))) 0 0).fst)):=eZ zjp 60 [0] (.c (beq_false_of_ne h1)<|.v [1,3,4,5] [] hL1<|.c h3<|.c h4<|.v [1,6] [3] hL2<|.c h6<|.c h7<|.c h8<|.c h9<|.c h10<|.c h11<|.i h12<|.s (rro_4_s0 p a b c d f g j l m n)<|.s (rro_4_s1 p a b c d f g j l m n)<|.s (rro_4_s2 p a b c d f g j l m n)<|.s (rro_4_s3 p a b c d f g j l m n)<|.s (rro_4_s4 p a b c d f g j l m n)<|.s (rro_4_s5 p a b c d f g j l m n)<|.s (rro_4_s6 p a b c d f g j l m n)<|.s (rro_4_s7 p a b c d f g j l m n)<|.s (rro_4_s8 p a b c d f g j l m n)<|.s (rro_4_s9 p a b c d f g j l m n)<|.s (rro_4_s10 p a b c d f g j l m n)<|.s (rro_4_s11 p a b c d f g j l m n)<|.s (rro_4_s12 p a b c d f g j l m n)<|.s (rro_4_s13 p a b c d f g j l m n)<|.e) [1,0,2,3,4,0,5,6,7,8,9,6,10,8,11,12,6,10,8,11,12,13,6,7,8,9,6,10,8,11,12,6,7,8,9,6,10,8,11,12,13,6,7,8,9,6,10,8,11,12,6,7,8,9,6,10,8,11,12,14,13,13,6,7,8,9,6,10,8,11,12,6,7,8,9,6,10,8,11,12,15,6,7,8,9,6,10,8,11,12,15,6,7,8,9,6,10,8,11,12,6,7,8,9,6,10,8,11,12,16,6,7,8,9,6,10,8,11,12,16,13,13,6,7,8,9,6,10,8,11,12,6,10,8,11,12,17,6,7,8,9,6,10,8,11,12,6,7,8,9,6,10,8,11,12,17,6,7,8,9,6,10,8,11,12,6,7,8,9,6,10,8,11,12,18,17,17,6,7,8,9,6,10,8,11,12,6,7,8,9,6,10,8,11,12,19,6,7,8,9,6,10,8,11,12,19,6,7,8,9,6,10,8,11,12,6,7,8,9,6,10,8,11,12,20,6,7,8,9,6,10,8,11,12,20,17,17,6,7,8,9,6,10,8,11,12,6,7,8,9,6,10,8,11,12,21,6,7,8,9,6,10,8,11,12,21,6,7,8,9,6,10,8,11,12,6,7,8,9,6,10,8,11,12,22,6,7,8,9,6,10,8,11,12,22,6,7,8,9,6,10,8,11,12,6,7,8,9,6,10,8,11,12,23,21,21,6,7,8,9,6,10,8,11,12,6,7,8,9,6,10,8,11,12,24,6,7,8,9,6,10,8,11,12,24,6,7,8,9,6,10,8,11,12,6,7,8,9,6,10,8,11,12,25,6,7,8,9,6,10,8,11,12,25,6,7,8,9,6,10,8,11,12,6,7,8,9,6,10,8,11,12,26,24,24,13,13,13]
end
noncomputable section
end
open Go.Kf
def za3 (p:List Int):List (List Int):=p.map fun x=>[x]
def zbr (p:List Int):List (List Int):=(List.range (p.length-1)).map fun j=>[((j+1:Nat):Int)*p.getD (j+1) 0]
theorem zo5 (x:Int):vl [x]=x:=by simp [vl]
theorem zeI (p:List Int):(za3 p).length=p.length:=by simp [za3]
theorem zcx (p:List Int):(zbr p).length=p.length-1:=by simp [zbr]
theorem vls_sing (p:List Int):vls (za3 p)=p:=by
 unfold vls za3
 rw [List.map_map]
 conv=>rhs;rw [← List.map_id p]
 apply List.map_congr_left
 intro x _
 exact zo5 x
theorem vls_derR (p:List Int):vls (zbr p)=der p:=by
 unfold vls zbr der
 rw [List.map_map]
 apply List.map_congr_left
 intro i _
 show vl [_]=_
 rw [zo5,Int.mul_comm]
theorem zk3 {p:List Int} {i:Nat} (h:i<p.length):(za3 p).getD i []=[p.getD i 0]:=by
 unfold za3
 simp [List.getD,h]
theorem zoe {p:List Int} {i:Nat} (h:i+1<p.length):(zbr p).getD i []=[((i+1:Nat):Int)*p.getD (i+1) 0]:=by
 unfold zbr
 rw [List.getD_eq_getElem?_getD,List.getElem?_map,List.getElem?_range (by omega)];rfl
theorem zdO {l:List (List Int)} {k:Nat} (h:k<l.length):List.take k (List.take k l)++List.take 1 [l.getD k []]=l.take (k+1):=by
 rw [List.take_take,Nat.min_self,List.take_succ_eq_append_getElem h]
 simp [List.getD,h]
theorem zmJ {p:List Int} (h:zdA p) (a b c:Int):∀(m i:Nat),i+m=p.length→2≤i →
 zdX (zgi p a b c i (i-1) i ((za3 p).take i) ((zbr p).take (i-1))) (Ex.exit 0,zdc p a b c p.length (p.length-1) p.length (za3 p) (zbr p))
 | 0,i,hi,h2=>by
  obtain rfl:i=p.length:=by omega
  have:=zrt p a b c p.length (p.length-1) p.length ((za3 p).take p.length) ((zbr p).take (p.length-1)) (by omega)
  rw [show(za3 p).take p.length=za3 p by rw [← zeI,List.take_length],show(zbr p).take (p.length-1)=zbr p by rw [← zcx,List.take_length]] at this ⊢
  exact this
 | m + 1,i,hi,h2=>by
  have hlt:i<p.length:=by omega
  have hl:=h.2.1
  obtain ⟨j,rfl⟩:∃j,i=j+1:=⟨i-1,by omega⟩
  have ih:=zmJ h a b c m (j+1+1) (by omega) (by omega)
  have s1:=zeI p
  have s2:=zcx p
  have hg:=zfb h.2.2 (j+1)
  have hm:=zl3 (a:=((j+1:Nat):Int)) (b:=p.getD (j+1) 0) (A:=5) (B:=1000) (by omega) hg
  have e1:Int.toNat ((j+1:Nat):Int)=j+1:=rfl
  have go:=@zrs p a b c (j+1) j ((j+1:Nat):Int) ((za3 p).take (j+1)) ((zbr p).take j) (by omega) (by omega) (by rw [e1];omega) (by simp) (by simp) (by simp;omega) (by simp;omega) (by rw [List.length_take];omega) (by omega) (by rw [e1];omega) (by simp) (by simp) (by simp;omega) (by simp;omega) (by rw [List.length_take];omega) (by omega)
   (Ex.exit 0,zdc p a b c p.length (p.length-1) p.length (za3 p) (zbr p))
  rw [e1] at go
  rw [show List.take 1 [List.take 1 [p.getD (j+1) 0]]=List.take 1 [(za3 p).getD (j+1) []] by rw [zk3 hlt];rfl,zdO (by omega),
   show List.take 1 [List.take 1 [((j+1:Nat):Int)*p.getD (j+1) 0]]=List.take 1 [(zbr p).getD j []] by rw [zoe hlt];rfl,zdO (by omega)] at go
  exact go ih
theorem rro0 {p:List Int} (h:zdA p) (a b c:Int):zdX (zgh p a b c) (Ex.exit 0,zdc p a b c p.length (p.length-1) p.length (za3 p) (zbr p)):=by
 have hl:=h.1
 have hl5:=h.2.1
 have hg:=zfb h.2.2 1
 have k:=zmJ h a b c (p.length-2) 2 (by omega) (by omega)
 have s1:=zeI p
 have s2:=zcx p
 have e1:List.take 1 [[p.getD 0 0]]++List.take 1 [List.take 1 [p.getD 1 0]]=(za3 p).take 2:=by
  have:=zdO (l:=za3 p) (k:=1) (by omega)
  rw [zk3 (by omega)] at this
  have t0:=zdO (l:=za3 p) (k:=0) (by omega)
  rw [zk3 (by omega)] at t0
  rw [← this,← t0];rfl
 have e2:[[1*p.getD 1 0]]=(zbr p).take 1:=by
  have t0:=zdO (l:=zbr p) (k:=0) (by omega)
  rw [zoe (by omega)] at t0
  rw [← t0];rfl
 refine zrq p a b c (by omega) (by omega) (by simp) (by simp) (by simp) (by simp) (by simp) ?_
 refine zrr p a b c [[p.getD 0 0]] (by omega) (by omega) (by simp) (by simp) (by simp) (by simp) (by simp) (by omega) (by simp) (by simp) (by simp) (by simp) (by simp) ?_
 rw [e1,e2]
 exact k
def ngL (q:List (List Int)):List (List Int):=q.map fun l=>aZ (-(vl l))
theorem zeb (q:List (List Int)):(ngL q).length=q.length:=by simp [ngL]
theorem zky {q:List (List Int)} {i:Nat} (h:i<q.length):(ngL q).getD i []=aZ (-(vl (q.getD i []))):=by
 unfold ngL;simp [List.getD,h]
theorem LB_loop {q:List (List Int)} (hq:∀l∈q,pX l) (hl:q.length≤1000) (x:List Int) (a b c:Int) (l1 l2:List (List Int)) (l3:List (List (List Int))):∀(m i:Nat),i+m=q.length→1≤i →
 zgj (zgk q x a b c l1 l2 l3 i i ((ngL q).take i)) (Ex.exit 4,zeq q x a b c l1 l2 l3 q.length q.length (ngL q))
 | 0,i,hi,_=>by
  obtain rfl:i=q.length:=by omega
  have:=zrw q x a b c l1 l2 l3 q.length q.length ((ngL q).take q.length) (by omega)
  rw [show(ngL q).take q.length=ngL q by rw [← zeb,List.take_length]] at this ⊢
  exact this
 | m+1,i,hi,h1=>by
  have hlt:i<q.length:=by omega
  have hn:=zeb q
  have ih:=LB_loop hq hl x a b c l1 l2 l3 m (i+1) (by omega) (by omega)
  have e1:Int.toNat (i:Int)=i:=rfl
  have hg:q.getD i []=q[i]:=by simp [List.getD,hlt]
  have hp:pX (q.getD i []):=by rw [hg];exact hq _ (List.getElem_mem hlt)
  have go:=@zrv q x a b c l1 l2 l3 i i ((ngL q).take i) (by omega) (by omega) hp (by simp) (by simp;omega) (by simp;omega) (by rw [List.length_take];omega) (by omega) (Ex.exit 4,zeq q x a b c l1 l2 l3 q.length q.length (ngL q))
  rw [e1] at go
  rw [show List.take 1 [aZ (-vl (q.getD i (EK.dflt (EK.sl (EK.int IntKind.i64)))))]=List.take 1 [(ngL q).getD i []] by rw [zky hlt];rfl,zdO (by omega)] at go
  exact go ih
theorem LB_all {q:List (List Int)} (hq:∀l∈q,pX l) (hl:q.length≤1000) (h0:1≤q.length) (x:List Int) (a b c:Int) (l1 l2:List (List Int)) (l3:List (List (List Int))) :
 zgj (zhA q x a b c l1 l2 l3) (Ex.exit 4,zeq q x a b c l1 l2 l3 q.length q.length (ngL q)):=by
 have k:=LB_loop hq hl x a b c l1 l2 l3 (q.length-1) 1 (by omega) (by omega)
 have hg:q.getD 0 []=q[0]:=by rw [List.getD_eq_getElem?_getD,List.getElem?_eq_getElem (by omega)];rfl
 have hp:pX (q.getD 0 []):=by rw [hg];exact hq _ (List.getElem_mem (by omega))
 have e:[aZ (-vl (q.getD 0 []))]=(ngL q).take 1:=by
  have hn:=zeb q
  have t0:=zdO (l:=ngL q) (k:=0) (by omega)
  rw [zky (by omega)] at t0
  rw [← t0];rfl
 refine zru q x a b c l1 l2 l3 (by omega) hp (by simp) (by simp) (by simp) (by simp) ?_
 rw [← e] at k
 exact k
theorem LC_loop {n:Nat} {q:List (List Int)} (hq:∀l∈q,pX l) (hl:q.length≤1000) (x:List Int) (a b c:Int) (l1 l2:List (List Int)) (l3:List (List (List Int))):∀(m i:Nat),i+m=q.length→1≤i →
 zg6 (zgl n q x a b c l1 l2 l3 i i ((ngL q).take i)) (Ex.exit 4,zer n q x a b c l1 l2 l3 q.length q.length (ngL q))
 | 0,i,hi,_=>by
  obtain rfl:i=q.length:=by omega
  have:=zrz n q x a b c l1 l2 l3 q.length q.length ((ngL q).take q.length) (by omega)
  rw [show(ngL q).take q.length=ngL q by rw [← zeb,List.take_length]] at this ⊢
  exact this
 | m+1,i,hi,h1=>by
  have hlt:i<q.length:=by omega
  have hn:=zeb q
  have ih:=LC_loop (n:=n) hq hl x a b c l1 l2 l3 m (i+1) (by omega) (by omega)
  have e1:Int.toNat (i:Int)=i:=rfl
  have hg:q.getD i []=q[i]:=by simp [List.getD,hlt]
  have hp:pX (q.getD i []):=by rw [hg];exact hq _ (List.getElem_mem hlt)
  have go:=@zry n q x a b c l1 l2 l3 i i ((ngL q).take i) (by omega) (by omega) hp (by simp) (by simp;omega) (by simp;omega) (by rw [List.length_take];omega) (by omega) (Ex.exit 4,zer n q x a b c l1 l2 l3 q.length q.length (ngL q))
  rw [e1] at go
  rw [show List.take 1 [aZ (-vl (q.getD i (EK.dflt (EK.sl (EK.int IntKind.i64)))))]=List.take 1 [(ngL q).getD i []] by rw [zky hlt];rfl,zdO (by omega)] at go
  exact go ih
theorem LC_all {n:Nat} {q:List (List Int)} (hq:∀l∈q,pX l) (hl:q.length≤1000) (h0:1≤q.length) (x:List Int) (a b c:Int) (l1 l2:List (List Int)) (l3:List (List (List Int))) :
 zg6 (zk0 n q x a b c l1 l2 l3) (Ex.exit 4,zer n q x a b c l1 l2 l3 q.length q.length (ngL q)):=by
 have k:=LC_loop (n:=n) hq hl x a b c l1 l2 l3 (q.length-1) 1 (by omega) (by omega)
 have hg:q.getD 0 []=q[0]:=by rw [List.getD_eq_getElem?_getD,List.getElem?_eq_getElem (by omega)];rfl
 have hp:pX (q.getD 0 []):=by rw [hg];exact hq _ (List.getElem_mem (by omega))
 have e:[aZ (-vl (q.getD 0 []))]=(ngL q).take 1:=by
  have hn:=zeb q
  have t0:=zdO (l:=ngL q) (k:=0) (by omega)
  rw [zky (by omega)] at t0
  rw [← t0];rfl
 refine zrx n q x a b c l1 l2 l3 (by omega) hp (by simp) (by simp) (by simp) (by simp) ?_
 rw [← e] at k
 exact k
def bd:Nat→Nat
 | 0=>1
 | 1=>1
 | 2=>64
 | 3=>556
 | _=>3433
structure RInv (i:Nat) (a b:List (List Int)):Prop where
 i3:i≤3
 la:a.length≤5-i
 lb:b.length≤4-i
 b1:1≤b.length
 sa:∀l∈a,pQ (bd i) l
 sb:∀l∈b,pQ (bd (i+1)) l
theorem RInv.bnd {i:Nat} {a b:List (List Int)} (h:RInv i a b):bd i+a.length*(2*bd (i+1)+10)≤89000∧bd (i+1)≤40000∧(i≤2→bd i+a.length*(2*bd (i+1)+10)+3≤bd (i+2)):=by
 obtain ⟨i3,la,lb,b1,sa,sb⟩:=h
 have hm:bd i+a.length*(2*bd (i+1)+10)≤bd i+(5-i)*(2*bd (i+1)+10):=Nat.add_le_add_left (Nat.mul_le_mul_right _ la) _
 have hi:i=0∨i=1∨i=2∨i=3:=by omega
 refine ⟨Nat.le_trans hm ?_,?_,fun h2=>Nat.le_trans (Nat.add_le_add_right hm 3) ?_⟩
 ·rcases hi with rfl | rfl | rfl | rfl<;>decide
 ·rcases hi with rfl | rfl | rfl | rfl<;>decide
 ·have hi:i=0∨i=1∨i=2:=by omega
  rcases hi with rfl | rfl | rfl<;>decide
theorem RInv.re {i:Nat} {a b:List (List Int)} (h:RInv i a b):pRe a b:=by
 have hb:=h.bnd
 obtain ⟨i3,la,lb,b1,sa,sb⟩:=h
 exact ⟨⟨bd i,bd (i+1),sa,sb,hb.1,hb.2.1⟩,by omega,b1,by omega⟩
theorem RInv.facts {i:Nat} {a b:List (List Int)} (h:RInv i a b):(rsT b a.length a).length<b.length∧∀l∈rsT b a.length a,pQ (bd i+a.length*(2*bd (i+1)+10)) l:=by
 have hb:=h.bnd
 obtain ⟨i3,la,lb,b1,sa,sb⟩:=h
 obtain ⟨_,i2,i3,i4⟩:=rre_l2 (n6:=0) (lr:=[]) b1 (by omega) sb a.length a (bd i) (Nat.le_refl _) (by omega) sa hb.1 hb.2.1
 exact ⟨i4,i2⟩
theorem RInv.px {i:Nat} {a b:List (List Int)} (h:RInv i a b):∀l∈rsT b a.length a,pX l:=fun l hl=>by
 have hb:=h.bnd
 exact(h.facts.2 l hl).mono (by omega)
theorem RInv.step {i:Nat} {a b:List (List Int)} (h:RInv i a b) (hne:rsT b a.length a≠[]):i≤2∧RInv (i+1) b (nxR a b):=by
 have hb:=h.bnd
 obtain ⟨f1,f2⟩:=h.facts
 obtain ⟨i3,la,lb,b1,sa,sb⟩:=h
 have hp:1≤(rsT b a.length a).length:=List.length_pos_iff.2 hne
 have hn:(nxR a b).length=(rsT b a.length a).length:=by simp [nxR]
 refine ⟨by omega,⟨by omega,by omega,by omega,by omega,sb,fun l hl=>?_⟩⟩
 unfold nxR at hl
 obtain ⟨x,hx,rfl⟩:=List.mem_map.1 hl
 exact hZ (zbc (f2 x hx)).neg (hb.2.2 (by omega))
theorem znp {L:List (List (List Int))} {i:Nat} (h:L.length=i+2) (x:List (List Int)):(L++[x]).getD (i+1) []=L.getD (i+1) []∧(L++[x]).getD (i+2) []=x:=by
 constructor
 ·simp only [List.getD_eq_getElem?_getD];rw [List.getElem?_append_left (by omega)]
 ·simp only [List.getD_eq_getElem?_getD];rw [List.getElem?_append_right (by omega)];simp [h]
theorem LA_loop {x:List Int} {u v w:Int} {l1 l2:List (List Int)} {l3:List (List (List Int))}:∀(k i:Nat) (L:List (List (List Int))) (a b:List (List Int)),i+k=4→L.length=i+2→L.getD i []=a→L.getD (i+1) []=b→RInv i a b →
 zgm (zgn x u v w l1 l2 l3 L.length L) (Ex.exit 2,zgo x u v w l1 l2 l3 (L++chR k a b).length (L++chR k a b))
 | 0,i,L,a,b,hk,hL,ha,hb,h=>by have:=h.i3;omega
 | k + 1,i,L,a,b,hk,hL,ha,hb,h=>by
  have e1:Int.toNat ((L.length:Int)-2)=i:=by omega
  have e2:Int.toNat ((L.length:Int)-1)=i+1:=by omega
  have g1:L.getD (Int.toNat ((L.length:Int)-2)) (EK.dflt (EK.sl (EK.sl (EK.int IntKind.i64))))=a:=by rw [e1];exact ha
  have g2:L.getD (Int.toNat ((L.length:Int)-1)) (EK.dflt (EK.sl (EK.sl (EK.int IntKind.i64))))=b:=by rw [e2];exact hb
  have hre:=h.re
  unfold chR
  by_cases hne:rsT b a.length a=[]
  ·rw [if_pos hne,List.append_nil]
   exact zrC x u v w l1 l2 l3 L.length L (by omega) (by omega) (by omega) (by omega) (by omega) (by omega) (by omega) (by omega) (by rw [g1,g2];exact hre) (by rw [g1,g2,hne];rfl)
  ·rw [if_neg hne]
   obtain ⟨i2,hs⟩:=h.step hne
   have hf:=h.facts.1
   have hlb:=h.lb
   obtain ⟨m1,m2⟩:=znp hL (nxR a b)
   have ih:=LA_loop (x:=x) (u:=u) (v:=v) (w:=w) (l1:=l1) (l2:=l2) (l3:=l3) k (i+1) (L++[nxR a b]) b (nxR a b) (by omega) (by rw [List.length_append];simp;omega) (by rw [m1];exact hb) m2 hs
   have K:=LC_all (n:=L.length) h.px (by omega) (List.length_pos_iff.2 hne) x u v w l1 l2 L
   have hn:=zeb (rsT b a.length a)
   have go:=@zrD x u v w l1 l2 l3 L.length L (rsT b a.length a).length (rsT b a.length a).length (ngL (rsT b a.length a)) (by omega) (by omega) (by omega) (by omega) (by omega) (by omega) (by omega) (by omega) (by rw [g1,g2];exact hre)
    (by rw [g1,g2];have:=List.length_pos_iff.2 hne;omega) (by rw [g1,g2];exact K) (by omega) (by simp) (by simp;omega) (by simp;omega) (Nat.le_refl _) (Ex.exit 2,zgo x u v w l1 l2 l3 (L++nxR a b :: chR k b (nxR a b)).length (L++nxR a b :: chR k b (nxR a b)))
   rw [List.take_length,show List.take (rsT b a.length a).length (ngL (rsT b a.length a))=nxR a b by rw [← hn,List.take_length];rfl] at go
   refine go ?_
   have e3:L.length+(List.take 1 [nxR a b]).length=(L++[nxR a b]).length:=by rw [List.length_append];rfl
   have e4:L++nxR a b :: chR k b (nxR a b)=(L++[nxR a b])++chR k b (nxR a b):=by rw [List.append_assoc];rfl
   rw [e3,e4]
   exact ih
theorem chR_ok:∀(k i:Nat) (a b:List (List Int)),RInv i a b→(chR k a b).length≤k∧∀q∈chR k a b,q.length≤5∧∀l∈q,pQ 3433 l
 | 0,_,_,_,_=>⟨Nat.le_refl _,fun _ h=>by cases h⟩
 | k + 1,i,a,b,h=>by
  unfold chR
  by_cases hne:rsT b a.length a=[]
  ·rw [if_pos hne];exact ⟨Nat.zero_le _,fun _ h=>by cases h⟩
  ·rw [if_neg hne]
   obtain ⟨i2,hs⟩:=h.step hne
   obtain ⟨c1,c2⟩:=chR_ok k (i+1) b (nxR a b) hs
   refine ⟨by simp only [List.length_cons];omega,fun q hq=>?_⟩
   rcases List.mem_cons.1 hq with rfl | hq
   ·refine ⟨by have:=hs.lb;omega,fun l hl=>(hs.sb l hl).mono ?_⟩
    have hi:i=0∨i=1∨i=2:=by omega
    rcases hi with rfl | rfl | rfl<;>decide
   ·exact c2 q hq
theorem rinv0 {p:List Int} (h:zdA p):RInv 0 (za3 p) (zbr p):=by
 obtain ⟨h2,h5,ha⟩:=h
 refine ⟨by omega,by rw [zeI];omega,by rw [zcx];omega,by rw [zcx];omega,fun l hl=>?_,fun l hl=>?_⟩
 ·unfold za3 at hl
  obtain ⟨x,hx,rfl⟩:=List.mem_map.1 hl
  have:=ha x hx
  exact ⟨by simp [bd],fun d hd=>by simp at hd;subst hd;exact flB this⟩
 ·unfold zbr at hl
  obtain ⟨i,hi,rfl⟩:=List.mem_map.1 hl
  have hi:=List.mem_range.1 hi
  have g:=zfb ha (i+1)
  have m:=zl3 (a:=((i+1:Nat):Int)) (b:=p.getD (i+1) 0) (A:=5) (B:=1000) (by omega) g
  exact ⟨by simp [bd],fun d hd=>by
   simp only [List.mem_cons,List.not_mem_nil,or_false] at hd;subst hd;unfold cZ;omega⟩
def zrZ (p:List Int):List (List (List Int)):=za3 p :: zbr p :: chR 4 (za3 p) (zbr p)
theorem chRR_vls {p:List Int} (h:zdA p):(zrZ p).map vls=chZ p:=by
 unfold zrZ chZ
 rw [List.map_cons,List.map_cons,chR_vls 4 _ _ (by rw [zcx];have:=h.1;omega),vls_sing,vls_derR]
theorem znX {p:List Int} (h:zdA p) (a b:Int):svs (zrZ p) a b=svZ (chZ p) a b:=by
 rw [← chRR_vls h]
 unfold svs svZ
 rw [List.map_map];rfl
theorem chRR_ok {p:List Int} (h:zdA p) {a d:Int} (ha:a.natAbs≤1000000) (hd:d.natAbs≤1000000):pCh (zrZ p) [a] [d]:=by
 have hi:=rinv0 h
 obtain ⟨c1,c2⟩:=chR_ok 4 0 (za3 p) (zbr p) hi
 have one:∀z:Int,z.natAbs≤1000000→pQ 1 [z]:=fun z hz=>⟨by simp,fun e he=>by simp at he;subst he;unfold cZ;omega⟩
 have key:∀q:List (List Int),q.length≤5→(∀l∈q,pQ 3433 l)→pAt q [a] [d]:=fun q hq hl=>by
  have:q.length*(1+13)≤5*(1+13):=Nat.mul_le_mul_right _ hq
  exact ⟨3433,1,hl,one a ha,one d hd,by omega,by omega⟩
 refine ⟨fun q hq=>?_,by unfold zrZ;simp only [List.length_cons];omega⟩
 unfold zrZ at hq
 rcases List.mem_cons.1 hq with rfl | hq
 ·exact key _ hi.la fun l hl=>(hi.sa l hl).mono (by decide)
 rcases List.mem_cons.1 hq with rfl | hq
 ·exact key _ (by have:=hi.lb;omega) fun l hl=>(hi.sb l hl).mono (by decide)
 ·exact key q (c2 q hq).1 (c2 q hq).2
def ziX (p:List Int) (a b d:Int):Int:=if p.length=2 then(if a≤-(p.getD 0 0)*d∧-(p.getD 0 0)*d≤b then 1 else 0) else zdV p a b d
theorem rRoots_fc (p:List Int) (a b d:Int) (h:zg2 p a b d):FC Tryz.prog 103 [.agg [.sq p,.lit (.int .i64 a),.lit (.int .i64 b),.lit (.int .i64 d)]] (.lit (.int .i64 (ziX p a b d))):=by
 obtain ⟨hp,ha,hb,hd⟩:=h
 have g0:=zfb hp.2.2 0
 have m:=zl3 (a:=0-p.getD 0 0) (b:=d) (A:=1000) (B:=1000000) (by omega) hd
 have hl:=hp.1
 have hl5:=hp.2.1
 have e0:0-p.getD 0 0 = -(p.getD 0 0):=by omega
 unfold ziX
 by_cases h2:p.length=2
 ·rw [if_pos h2]
  by_cases h3:a≤-(p.getD 0 0)*d
  ·by_cases h4:-(p.getD 0 0)*d≤b
   ·rw [if_pos ⟨h3,h4⟩]
    exact rro_0 p a b d (by omega) (by omega) (by omega) (by omega) (by omega) (by rw [e0];exact h3) (by rw [e0];exact h4)
   ·rw [if_neg (fun k=>h4 k.2)]
    exact rro_1 p a b d (by omega) (by omega) (by omega) (by omega) (by omega) (by rw [e0];exact h3) (by rw [e0];exact h4)
  ·rw [if_neg (fun k=>h3 k.1)]
   exact rro_2 p a b d (by omega) (by omega) (by omega) (by omega) (by omega) (by rw [e0];exact h3)
 ·rw [if_neg h2]
  have hi:=rinv0 hp
  have hle:=zmC hp a b d
  have ra:=chRR_ok hp ha hd
  have rb:=chRR_ok hp hb hd
  have va:=znX hp a d
  have vb:=znX hp b d
  have L0:=rro0 hp a b d
  have s1:List.take p.length (za3 p)=za3 p:=by rw [← zeI,List.take_length]
  have s2:List.take (p.length-1) (zbr p)=zbr p:=by rw [← zcx,List.take_length]
  have sl:=zeI p
  have dl:=zcx p
  by_cases hne:rsT (zbr p) (za3 p).length (za3 p)=[]
  ·have e:zrZ p=[za3 p,zbr p]:=by unfold zrZ chR;rw [if_pos hne]
   unfold zdV at hle ⊢
   rw [← va,← vb,e] at hle ⊢
   rw [e] at ra rb
   have go:=rro_3 p a b d p.length (p.length-1) p.length (za3 p) (zbr p) (by omega) L0 (by omega) (by omega)
    (by rw [s1,s2];exact zrA p a b d (za3 p) (zbr p) [za3 p,zbr p] (by simp) (by simp) hi.re (by show((rsT (zbr p) (za3 p).length (za3 p)).length:Int)=0;rw [hne];rfl))
    (by simp) (by simp) (by simp) (by rw [s1,s2];exact ra) (by simp) (by rw [s1,s2];exact rb) (by rw [s1,s2,show List.take 1 [a]=[a] from rfl,show List.take 1 [b]=[b] from rfl,show List.take 1 [d]=[d] from rfl,zo5,zo5,zo5];show r64 ((zbk (svs [za3 p,zbr p] a d) 0 0).1-(zbk (svs [za3 p,zbr p] b d) 0 0).1);omega)
   rw [s1,s2,show List.take 1 [a]=[a] from rfl,show List.take 1 [b]=[b] from rfl,show List.take 1 [d]=[d] from rfl,zo5,zo5,zo5] at go
   exact go
  ·obtain ⟨i2,hs⟩:=hi.step hne
   have e:zrZ p=[za3 p,zbr p,nxR (za3 p) (zbr p)]++chR 3 (zbr p) (nxR (za3 p) (zbr p)):=by
    unfold zrZ
    conv=>lhs;unfold chR
    rw [if_neg hne];rfl
   have L:=LA_loop (x:=p) (u:=a) (v:=b) (w:=d) (l1:=za3 p) (l2:=zbr p) (l3:=[za3 p,zbr p]) 3 1 [za3 p,zbr p,nxR (za3 p) (zbr p)] (zbr p) (nxR (za3 p) (zbr p)) rfl rfl rfl rfl hs
   rw [← e] at L
   have hf:=hi.facts.1
   have K:=LB_all hi.px (by omega) (List.length_pos_iff.2 hne) p a b d (za3 p) (zbr p) [za3 p,zbr p]
   have hn:=zeb (rsT (zbr p) (za3 p).length (za3 p))
   have go1:=@zrB p a b d (za3 p) (zbr p) [za3 p,zbr p] (rsT (zbr p) (za3 p).length (za3 p)).length (rsT (zbr p) (za3 p).length (za3 p)).length (ngL (rsT (zbr p) (za3 p).length (za3 p))) (by simp) (by simp) hi.re
    (by have:=List.length_pos_iff.2 hne;show((rsT (zbr p) (za3 p).length (za3 p)).length:Int)≠0;omega) K (by omega) (by simp) (by simp) (by simp) (by simp) _
    (by
     rw [show List.take (rsT (zbr p) (za3 p).length (za3 p)).length (ngL (rsT (zbr p) (za3 p).length (za3 p)))=nxR (za3 p) (zbr p) by rw [← hn,List.take_length];rfl]
     exact L)
   have go:=rro_4 p a b d p.length (p.length-1) p.length (za3 p) (zbr p) (zrZ p).length (zrZ p) (by omega) L0 (by omega) (by omega) (by rw [s1,s2];exact go1) (Nat.le_refl _) (by simp) (by simp) (by rw [List.take_length];exact ra) (by simp) (by rw [List.take_length];exact rb)
    (by rw [List.take_length,show List.take 1 [a]=[a] from rfl,show List.take 1 [b]=[b] from rfl,show List.take 1 [d]=[d] from rfl,zo5,zo5,zo5,va,vb];unfold zdV at hle;omega)
   rw [List.take_length,show List.take 1 [a]=[a] from rfl,show List.take 1 [b]=[b] from rfl,show List.take 1 [d]=[d] from rfl,zo5,zo5,zo5,va,vb] at go
   exact go
def zkF (p:List Int) (a b d:Int):Prop:=zg2 p a b d
instance tRootsF {p:List Int} {a b d:Int}:Tst (zkF p a b d):=⟨false,fun h=>by cases h⟩
noncomputable def ctrP6:Ctr:=(103,cFd zkF (fun l a b d=>.lit (.int .i64 (ziX l a b d)))) :: ctrP5
theorem ctrP6_all:∀p∈ctrP6,kZ Tryz.prog p.1 p.2:=CAll.cons (zjy fun l a b d h=>rRoots_fc l a b d h) zhZ
theorem zlc:(dZ Tryz.prog ctrP6 bw).OK:=TZ ctrP6_all
noncomputable section
theorem rck_0 (p:List Int) (a b d:Int) (h1:(p.length:Int)<2):FC Tryz.prog 34 [.agg [.sq p,.lit (.int .i64 a),.lit (.int .i64 b),.lit (.int .i64 d)]] (aI 10):=eZ zlc 60 [1] (.t h1<|.e) [1]
theorem rck_1 (p:List Int) (a b d:Int) (h1:¬((p.length:Int)<2)) (h2:(p.length:Int) > 5):FC Tryz.prog 34 [.agg [.sq p,.lit (.int .i64 a),.lit (.int .i64 b),.lit (.int .i64 d)]] (aI 10):=eZ zlc 60 [0,1] (.f h1<|.t h2<|.e) [1,2]
abbrev zaW (s:St) (r:Ex × St):Prop:=Loops 1 Tryz.prog (lZ Tryz.prog 34 0) s r
abbrev QZ (a:Int) (b:List Int) (c d e f:Int):St:=⟨sp 62 [(1,.ref 0 0),(3,aI a),(4,aI f)],[.flat [.sq b,aI c,aI d,aI e] true],[]⟩
abbrev zej (a:Int) (b:List Int) (c d e:Int):St:=⟨sp 62 [(2,aI 2)],[.flat [.sq b,aI c,aI d,aI e] true],[]⟩
abbrev ZZ (a:Int) (b:List Int) (c d e f:Int):St:=⟨sp 62 [(1,.ref 0 0),(3,aI a),(4,aI f)],[.flat [.sq b,aI c,aI d,aI e] true],[]⟩
theorem zqo (a:Int) (b:List Int) (c d f g:Int) (h1:g<a) (h2:0≤g) (h3:g<(b.length:Int)) (h4:g.toNat<b.length) (h5:b.getD g.toNat 0≥-1000) (h6:¬(b.getD g.toNat 0≤1000)):zaW (QZ a b c d f g) (Ex.ret,(zej a b c d f)):=Loops.fin (LS.at zlc 60 [] [2] [] [1,1,1] (.t h1<|.t h2<|.t h3<|.t h4<|.t h5<|.y h6<|.e) [1,2,3,4,5,6]) (fun h=>nomatch h)
theorem zqp (a:Int) (b:List Int) (c d f g:Int) (h1:g<a) (h2:0≤g) (h3:g<(b.length:Int)) (h4:g.toNat<b.length) (h5:b.getD g.toNat 0≥-1000) (h6:b.getD g.toNat 0≤1000) (h7:r64 (g+1)) {r:Ex × St} (k:zaW (QZ a b c d f (g+1)) r):zaW (QZ a b c d f g) r:=Loops.go (LS.at zlc 60 [] [1,3,4] [] [1,1,0] (.t h1<|.t h2<|.t h3<|.t h4<|.t h5<|.x h6<|.i h7<|.e) [1,2,3,4,5,6,7]) k
theorem zqq (a:Int) (b:List Int) (c d g i:Int) (h1:i<a) (h2:0≤i) (h3:i<(b.length:Int)) (h4:i.toNat<b.length) (h5:¬(b.getD i.toNat 0≥-1000)):zaW (QZ a b c d g i) (Ex.ret,(zej a b c d g)):=Loops.fin (LS.at zlc 60 [] [2] [] [1,0] (.t h1<|.t h2<|.t h3<|.t h4<|.f h5<|.e) [1,2,3,4,5]) (fun h=>nomatch h)
theorem zqr (a:Int) (b:List Int) (c d g i:Int) (h1:¬(i<a)):zaW (QZ a b c d g i) (Ex.exit 0,(ZZ a b c d g i)):=Loops.fin (LS.at zlc 60 [] [1,3,4] [] [0] (.f h1<|.e) [1]) (fun h=>nomatch h)
theorem rck_2 (p:List Int) (a b d:Int) (h1:¬((p.length:Int)<2)) (h2:¬((p.length:Int) > 5)) (hL1:zaW (QZ ((p.length:Int)) p a b d (0)) (Ex.ret,(zej ((p.length:Int)) p a b d))):FC Tryz.prog 34 [.agg [.sq p,.lit (.int .i64 a),.lit (.int .i64 b),.lit (.int .i64 d)]] (aI 2):=eZ zlc 60 [0,0] (.f h1<|.f h2<|.v [1,3,4] [] hL1<|.e) [1,2,0,3]
theorem rck_3 (p:List Int) (a b d c:Int) (h1:¬((p.length:Int)<2)) (h2:¬((p.length:Int) > 5)) (hL1:zaW (QZ ((p.length:Int)) p a b d (0)) (Ex.exit 0,(ZZ ((p.length:Int)) p a b d c))) (h4:d≥1) (h5:¬(d≤1000000)):FC Tryz.prog 34 [.agg [.sq p,.lit (.int .i64 a),.lit (.int .i64 b),.lit (.int .i64 d)]] (aI 2):=eZ zlc 60 [0,0,1,1] (.f h1<|.f h2<|.v [1,3,4] [] hL1<|.t h4<|.y h5<|.e) [1,2,0,3,4,5]
theorem rck_4 (p:List Int) (a b d c:Int) (h1:¬((p.length:Int)<2)) (h2:¬((p.length:Int) > 5)) (hL1:zaW (QZ ((p.length:Int)) p a b d (0)) (Ex.exit 0,(ZZ ((p.length:Int)) p a b d c))) (h4:d≥1) (h5:d≤1000000) (h6:a≥-1000000) (h7:¬(a≤1000000)):FC Tryz.prog 34 [.agg [.sq p,.lit (.int .i64 a),.lit (.int .i64 b),.lit (.int .i64 d)]] (aI 2):=eZ zlc 60 [0,0,1,0,1,1] (.f h1<|.f h2<|.v [1,3,4] [] hL1<|.t h4<|.x h5<|.t h6<|.y h7<|.e) [1,2,0,3,4,5,6,7]
theorem rck_5 (p:List Int) (a b d c:Int) (h1:¬((p.length:Int)<2)) (h2:¬((p.length:Int) > 5)) (hL1:zaW (QZ ((p.length:Int)) p a b d (0)) (Ex.exit 0,(ZZ ((p.length:Int)) p a b d c))) (h4:d≥1) (h5:d≤1000000) (h6:a≥-1000000) (h7:a≤1000000) (h8:b≥-1000000) (h9:¬(b≤1000000)):FC Tryz.prog 34 [.agg [.sq p,.lit (.int .i64 a),.lit (.int .i64 b),.lit (.int .i64 d)]] (aI 2):=eZ zlc 60 [0,0,1,0,1,0,1,1] (.f h1<|.f h2<|.v [1,3,4] [] hL1<|.t h4<|.x h5<|.t h6<|.x h7<|.t h8<|.y h9<|.e) [1,2,0,3,4,5,6,7,8,9]
theorem rck_6 (p:List Int) (a b d g:Int) (h1:¬((p.length:Int)<2)) (h2:¬((p.length:Int) > 5)) (hL1:zaW (QZ ((p.length:Int)) p a b d (0)) (Ex.exit 0,(ZZ ((p.length:Int)) p a b d g))) (h4:d≥1) (h5:d≤1000000) (h6:a≥-1000000) (h7:a≤1000000) (h8:b≥-1000000) (h9:b≤1000000) (h10:r64 ((p.length:Int)-1)) (h11:0≤(p.length:Int)-1) (h12:(p.length:Int)-1<(p.length:Int)) (h13:((p.length:Int)-1).toNat<p.length) (h14:p.getD ((p.length:Int)-1).toNat 0≠1):FC Tryz.prog 34 [.agg [.sq p,.lit (.int .i64 a),.lit (.int .i64 b),.lit (.int .i64 d)]] (aI 3):=eZ zlc 60 [0,0,1,0,1,0,1,0,1] (.f h1<|.f h2<|.v [1,3,4] [] hL1<|.t h4<|.x h5<|.t h6<|.x h7<|.t h8<|.x h9<|.i h10<|.t h11<|.t h12<|.t h13<|.c (bne_iff_ne.2 h14)<|.e) [1,2,0,3,4,5,6,7,8,9,10,11,12,13,14]
theorem rck_7 (p:List Int) (a b d g:Int) (h1:¬((p.length:Int)<2)) (h2:¬((p.length:Int) > 5)) (hL1:zaW (QZ ((p.length:Int)) p a b d (0)) (Ex.exit 0,(ZZ ((p.length:Int)) p a b d g))) (h4:d≥1) (h5:d≤1000000) (h6:a≥-1000000) (h7:a≤1000000) (h8:b≥-1000000) (h9:b≤1000000) (h10:r64 ((p.length:Int)-1)) (h11:0≤(p.length:Int)-1) (h12:(p.length:Int)-1<(p.length:Int)) (h13:((p.length:Int)-1).toNat<p.length) (h14:p.getD ((p.length:Int)-1).toNat 0=1) (h15:zdA p) (h16:red p=true):FC Tryz.prog 34 [.agg [.sq p,.lit (.int .i64 a),.lit (.int .i64 b),.lit (.int .i64 d)]] (aI 3):=eZ zlc 60 [0,0,1,0,1,0,1,0,0,1] (.f h1<|.f h2<|.v [1,3,4] [] hL1<|.t h4<|.x h5<|.t h6<|.x h7<|.t h8<|.x h9<|.i h10<|.t h11<|.t h12<|.t h13<|.c (bne_eq_false_iff_eq.2 h14)<|.c h15<|.c h16<|.e) [1,2,0,3,4,5,6,7,8,9,10,11,12,13,14,15,16]
theorem rck_8 (p:List Int) (a b d g:Int) (h1:¬((p.length:Int)<2)) (h2:¬((p.length:Int) > 5)) (hL1:zaW (QZ ((p.length:Int)) p a b d (0)) (Ex.exit 0,(ZZ ((p.length:Int)) p a b d g))) (h4:d≥1) (h5:d≤1000000) (h6:a≥-1000000) (h7:a≤1000000) (h8:b≥-1000000) (h9:b≤1000000) (h10:r64 ((p.length:Int)-1)) (h11:0≤(p.length:Int)-1) (h12:(p.length:Int)-1<(p.length:Int)) (h13:((p.length:Int)-1).toNat<p.length) (h14:p.getD ((p.length:Int)-1).toNat 0=1) (h15:zdA p) (h16:red p=false) (h17:a > b):FC Tryz.prog 34 [.agg [.sq p,.lit (.int .i64 a),.lit (.int .i64 b),.lit (.int .i64 d)]] (aI 9):=eZ zlc 60 [0,0,1,0,1,0,1,0,0,0,1] (.f h1<|.f h2<|.v [1,3,4] [] hL1<|.t h4<|.x h5<|.t h6<|.x h7<|.t h8<|.x h9<|.i h10<|.t h11<|.t h12<|.t h13<|.c (bne_eq_false_iff_eq.2 h14)<|.c h15<|.c h16<|.t h17<|.e) [1,2,0,3,4,5,6,7,8,9,10,11,12,13,14,15,16,17]
theorem rck_9 (p:List Int) (a b d g:Int) (h1:¬((p.length:Int)<2)) (h2:¬((p.length:Int) > 5)) (hL1:zaW (QZ ((p.length:Int)) p a b d (0)) (Ex.exit 0,(ZZ ((p.length:Int)) p a b d g))) (h4:d≥1) (h5:d≤1000000) (h6:a≥-1000000) (h7:a≤1000000) (h8:b≥-1000000) (h9:b≤1000000) (h10:r64 ((p.length:Int)-1)) (h11:0≤(p.length:Int)-1) (h12:(p.length:Int)-1<(p.length:Int)) (h13:((p.length:Int)-1).toNat<p.length) (h14:p.getD ((p.length:Int)-1).toNat 0=1) (h15:zdA p) (h16:red p=false) (h17:¬(a > b)) (h18:zkF p a b d) (h19:ziX p a b d≠1):FC Tryz.prog 34 [.agg [.sq p,.lit (.int .i64 a),.lit (.int .i64 b),.lit (.int .i64 d)]] (aI 11):=eZ zlc 60 [0,0,1,0,1,0,1,0,0,0,0,1] (.f h1<|.f h2<|.v [1,3,4] [] hL1<|.t h4<|.x h5<|.t h6<|.x h7<|.t h8<|.x h9<|.i h10<|.t h11<|.t h12<|.t h13<|.c (bne_eq_false_iff_eq.2 h14)<|.c h15<|.c h16<|.f h17<|.c h18<|.c (bne_iff_ne.2 h19)<|.e) [1,2,0,3,4,5,6,7,8,9,10,11,12,13,14,15,16,17,18,19]
theorem rck_10 (p:List Int) (a b d g:Int) (h1:¬((p.length:Int)<2)) (h2:¬((p.length:Int) > 5)) (hL1:zaW (QZ ((p.length:Int)) p a b d (0)) (Ex.exit 0,(ZZ ((p.length:Int)) p a b d g))) (h4:d≥1) (h5:d≤1000000) (h6:a≥-1000000) (h7:a≤1000000) (h8:b≥-1000000) (h9:b≤1000000) (h10:r64 ((p.length:Int)-1)) (h11:0≤(p.length:Int)-1) (h12:(p.length:Int)-1<(p.length:Int)) (h13:((p.length:Int)-1).toNat<p.length) (h14:p.getD ((p.length:Int)-1).toNat 0=1) (h15:zdA p) (h16:red p=false) (h17:¬(a > b)) (h18:zkF p a b d) (h19:ziX p a b d=1):FC Tryz.prog 34 [.agg [.sq p,.lit (.int .i64 a),.lit (.int .i64 b),.lit (.int .i64 d)]] (aI 0):=eZ zlc 60 [0,0,1,0,1,0,1,0,0,0,0,0] (.f h1<|.f h2<|.v [1,3,4] [] hL1<|.t h4<|.x h5<|.t h6<|.x h7<|.t h8<|.x h9<|.i h10<|.t h11<|.t h12<|.t h13<|.c (bne_eq_false_iff_eq.2 h14)<|.c h15<|.c h16<|.f h17<|.c h18<|.c (bne_eq_false_iff_eq.2 h19)<|.e) [1,2,0,3,4,5,6,7,8,9,10,11,12,13,14,15,16,17,18,19]
theorem rck_11 (p:List Int) (a b d c:Int) (h1:¬((p.length:Int)<2)) (h2:¬((p.length:Int) > 5)) (hL1:zaW (QZ ((p.length:Int)) p a b d (0)) (Ex.exit 0,(ZZ ((p.length:Int)) p a b d c))) (h4:d≥1) (h5:d≤1000000) (h6:a≥-1000000) (h7:a≤1000000) (h8:¬(b≥-1000000)):FC Tryz.prog 34 [.agg [.sq p,.lit (.int .i64 a),.lit (.int .i64 b),.lit (.int .i64 d)]] (aI 2):=eZ zlc 60 [0,0,1,0,1,0,0] (.f h1<|.f h2<|.v [1,3,4] [] hL1<|.t h4<|.x h5<|.t h6<|.x h7<|.f h8<|.e) [1,2,0,3,4,5,6,7,8]
theorem rck_12 (p:List Int) (a b d c:Int) (h1:¬((p.length:Int)<2)) (h2:¬((p.length:Int) > 5)) (hL1:zaW (QZ ((p.length:Int)) p a b d (0)) (Ex.exit 0,(ZZ ((p.length:Int)) p a b d c))) (h4:d≥1) (h5:d≤1000000) (h6:¬(a≥-1000000)):FC Tryz.prog 34 [.agg [.sq p,.lit (.int .i64 a),.lit (.int .i64 b),.lit (.int .i64 d)]] (aI 2):=eZ zlc 60 [0,0,1,0,0] (.f h1<|.f h2<|.v [1,3,4] [] hL1<|.t h4<|.x h5<|.f h6<|.e) [1,2,0,3,4,5,6]
theorem rck_13 (p:List Int) (a b d c:Int) (h1:¬((p.length:Int)<2)) (h2:¬((p.length:Int) > 5)) (hL1:zaW (QZ ((p.length:Int)) p a b d (0)) (Ex.exit 0,(ZZ ((p.length:Int)) p a b d c))) (h4:¬(d≥1)):FC Tryz.prog 34 [.agg [.sq p,.lit (.int .i64 a),.lit (.int .i64 b),.lit (.int .i64 d)]] (aI 2):=eZ zlc 60 [0,0,0] (.f h1<|.f h2<|.v [1,3,4] [] hL1<|.f h4<|.e) [1,2,0,3,4]
end
open Go.Kf
theorem one_roots {p:List Int} {a b d:Int}:ziX p a b d=1↔zm2 p a b d=true:=by
 unfold ziX zm2
 by_cases h2:p.length=2
 ·rw [if_pos h2,if_pos h2,Bool.and_eq_true,decide_eq_true_eq,decide_eq_true_eq]
  by_cases h:a≤-(p.getD 0 0)*d∧-(p.getD 0 0)*d≤b
  ·rw [if_pos h];exact ⟨fun _=>h,fun _=>rfl⟩
  ·rw [if_neg h];exact ⟨fun k=>by omega,fun k=>absurd k h⟩
 ·rw [if_neg h2,if_neg h2,beq_iff_eq]
theorem zoF {p:List Int} (hl:p.length≤1000) (a b d:Int):∀(m i:Nat),i+m=p.length →
 (ze2 (p.drop i)=true∧zaW (QZ p.length p a b d i) (Ex.ret,zej p.length p a b d))∨(ze2 (p.drop i)=false∧∃t,zaW (QZ p.length p a b d i) (Ex.exit 0,ZZ p.length p a b d t))
 | 0,i,hi=>by
  obtain rfl:i=p.length:=by omega
  exact .inr ⟨by rw [List.drop_length];rfl,p.length,zqr p.length p a b d p.length (by omega)⟩
 | m + 1,i,hi=>by
  have hlt:i<p.length:=by omega
  have e1:Int.toNat (i:Int)=i:=rfl
  rw [zli hlt]
  by_cases h1:p.getD i 0≥-1000
  ·by_cases h2:p.getD i 0≤1000
   ·have go:=fun r=>@zqp p.length p a b d i (by omega) (by omega) (by omega) (by omega) h1 h2 (by omega) r
    rw [decide_eq_false (show ¬p.getD i 0 < -1000 by omega),decide_eq_false (show ¬1000<p.getD i 0 by omega),Bool.false_or,Bool.false_or]
    rcases zoF hl a b d m (i+1) (by omega) with ⟨x,k⟩ | ⟨x,t,k⟩
    ·exact .inl ⟨x,go _ k⟩
    ·exact .inr ⟨x,t,go _ k⟩
   ·exact .inl ⟨by rw [decide_eq_true (show 1000<p.getD i 0 by omega)];simp,zqo p.length p a b d i (by omega) (by omega) (by omega) (by omega) h1 h2⟩
  ·exact .inl ⟨by rw [decide_eq_true (show p.getD i 0 < -1000 by omega)];simp,zqq p.length p a b d i (by omega) (by omega) (by omega) (by omega) h1⟩
theorem rcheck_fc (p:List Int) (a b d:Int):FC Tryz.prog 34 [.agg [.sq p,.lit (.int .i64 a),.lit (.int .i64 b),.lit (.int .i64 d)]] (.lit (.int .i64 (zcw p a b d))):=by
 have loops:2≤p.length→p.length≤5→(ze2 p=true→zaW (QZ p.length p a b d 0) (Ex.ret,zej p.length p a b d))∧(ze2 p=false→∃t,zaW (QZ p.length p a b d 0) (Ex.exit 0,ZZ p.length p a b d t)):=fun l2 l5=>by
  have:=zoF (p:=p) (by omega) a b d p.length 0 (by omega)
  rw [List.drop_zero] at this
  rcases this with ⟨x,k⟩ | ⟨x,t,k⟩
  ·exact ⟨fun _=>k,fun y=>by rw [x] at y;cases y⟩
  ·exact ⟨fun y=>(by rw [x] at y;cases y),fun _=>⟨t,k⟩⟩
 rcases zhV p a b d with h | h | ⟨l2,l5,bg⟩ | ⟨l2,l5,bg,h⟩
 ·have hrd:=h.rd
  have hro:=h.ro
  rw [h.eq]
  obtain ⟨l2,l5,bg,d1,d2,a1,a2,b1,b2⟩:=h
  obtain ⟨t,K⟩:=(loops l2 l5).2 bg
  have e1:Int.toNat ((p.length:Int)-1)=p.length-1:=by omega
  by_cases c1:p.getD (p.length-1) 0=1
  ·cases c2:red p with
   | true=>
    rw [if_pos (.inr rfl)]
    exact rck_7 p a b d t (by omega) (by omega) K (by omega) (by omega) (by omega) (by omega) (by omega) (by omega) (by omega) (by omega) (by omega) (by omega) (by rw [e1];exact c1) hrd c2
   | false=>
    rw [if_neg (by simp only [c1,ne_eq,not_true_eq_false,false_or,Bool.false_eq_true,not_false_eq_true])]
    by_cases c3:b<a
    ·rw [if_pos c3]
     exact rck_8 p a b d t (by omega) (by omega) K (by omega) (by omega) (by omega) (by omega) (by omega) (by omega) (by omega) (by omega) (by omega) (by omega) (by rw [e1];exact c1) hrd c2 c3
    ·rw [if_neg c3]
     cases c4:zm2 p a b d with
     | false=>
      rw [if_pos rfl]
      exact rck_9 p a b d t (by omega) (by omega) K (by omega) (by omega) (by omega) (by omega) (by omega) (by omega) (by omega) (by omega) (by omega) (by omega) (by rw [e1];exact c1) hrd c2 c3 hro (fun e=>by rw [one_roots.1 e] at c4;cases c4)
     | true=>
      rw [if_neg (by decide)]
      exact rck_10 p a b d t (by omega) (by omega) K (by omega) (by omega) (by omega) (by omega) (by omega) (by omega) (by omega) (by omega) (by omega) (by omega) (by rw [e1];exact c1) hrd c2 c3 hro (one_roots.2 c4)
  ·rw [if_pos (.inl c1)]
   exact rck_6 p a b d t (by omega) (by omega) K (by omega) (by omega) (by omega) (by omega) (by omega) (by omega) (by omega) (by omega) (by omega) (by omega) (by rw [e1];exact c1)
 ·rw [znd h]
  by_cases l2:p.length<2
  ·exact rck_0 p a b d (by omega)
  ·exact rck_1 p a b d (by omega) (by omega)
 ·rw [znc ⟨l2,l5⟩ bg]
  exact rck_2 p a b d (by omega) (by omega) ((loops l2 l5).1 bg)
 ·rw [zne ⟨l2,l5⟩ h]
  obtain ⟨t,K⟩:=(loops l2 l5).2 bg
  by_cases d1:1≤d
  ·by_cases d2:d≤1000000
   ·by_cases a1:-1000000≤a
    ·by_cases a2:a≤1000000
     ·by_cases b1:-1000000≤b
      ·exact rck_5 p a b d t (by omega) (by omega) K d1 d2 a1 a2 b1 (by omega)
      ·exact rck_11 p a b d t (by omega) (by omega) K d1 d2 a1 a2 b1
     ·exact rck_4 p a b d t (by omega) (by omega) K d1 d2 a1 a2
    ·exact rck_12 p a b d t (by omega) (by omega) K d1 d2 a1
   ·exact rck_3 p a b d t (by omega) (by omega) K d1 d2
  ·exact rck_13 p a b d t (by omega) (by omega) K d1
noncomputable section
end
open Go.Kf
theorem LeL.six {a b c d e f e' f':AV} {l:List AV} (h1:Le e e') (h2:Le f f'):LeL (a :: b :: c :: d :: e :: f :: l) (a :: b :: c :: d :: e' :: f' :: l):=
 .cons (Le.refl _) (.cons (Le.refl _) (.cons (Le.refl _) (.cons (Le.refl _) (.cons h1 (.cons h2 (LeL.refl _))))))
theorem open_err (p:List Int) (a b d:Int) (h1:zcw p a b d≠0):FC Tryz.prog 35 [.agg [.sq p,.lit (.int .i64 a),.lit (.int .i64 b),.lit (.int .i64 d)]] (.tup [.lit (.pointer none),.lit (.int .i64 (zcw p a b d))]):=
 eZ okP5 60 [1] (.c (bne_iff_ne.2 h1)<|.e) [0,1]
noncomputable def cOpen (args:List AV):M AV:=match args with
 | [x]=>do
  let f ← asK fieldK x
  match f with
  | (l,a,b,d)=>do
   let z ← dec (decide (zcw l a b d=0))
   match z with
   | true=>M.pure (.tup [openA l a b d,.lit (.int .i64 0)])
   | false=>M.pure (.tup [.lit (.pointer none),.lit (.int .i64 (zcw l a b d))])
 | _=>fail 313
theorem cOpen_ok:kZ Tryz.prog 35 cOpen:=by
 intro args _
 unfold cOpen
 split
 ·refine Spec.bind (asK_spec.mono fun f hf=>?_)
  obtain ⟨l,a,b,d⟩:=f
  refine Spec.bind (Spec.dec ?_)
  by_cases h:zcw l a b d=0
  ·rw [decide_eq_true h]
   exact Spec.pure' ((open_fc l a b d h).le (.cons hf .nil) (Le.refl _))
  ·rw [decide_eq_false h]
   exact Spec.pure' ((open_err l a b d h).le (.cons hf .nil) (Le.refl _))
 ·exact Spec.fail
noncomputable section
end
open Go.Kf
abbrev F2:AV:=.agg [.sq [-2,0,1],.lit (.int .i64 1),.lit (.int .i64 2),.lit (.int .i64 1)]
abbrev R2:AV:=.pd [.sq [-2,0,1],.lit (.int .i64 1),.lit (.int .i64 2),.lit (.int .i64 1),.sl [.lit (.bool true),.wd (-2),.lit (.bool false),.wd 0,.lit (.bool false),.wd 1] 3,.sl [.lit (.bool false),.wd 2,.lit (.bool false),.wd 0] 2,
 .lit (.bool false),.wd 26087635650665564424,.lit (.bool false),.wd 26087635650665564425,.lit (.bool false),.wd 18446744073709551616] 0
theorem red2:red [-2,0,1]=false:=Value.bool.inj (AV.lit.inj (zjt fun h=>by
 rcases h.2 with ⟨x,hx⟩ | ⟨h5,_⟩
 ·have e:pv [-2,0,1] x=(((0*x+1)*x+0)*x + -2:Int):=rfl
  rw [e] at hx
  have h2:x*x=2:=by grind
  have h3:x.natAbs*x.natAbs=2:=by rw [← Int.natAbs_mul,h2];rfl
  have:x.natAbs=0∨x.natAbs=1∨2≤x.natAbs:=by omega
  rcases this with h | h | h
  ·rw [h] at h3;cases h3
  ·rw [h] at h3;cases h3
  ·have:=Nat.mul_le_mul h h;omega
 ·cases h5))
theorem chk2:zcw [-2,0,1] 1 2 1=0:=by
 have hr:ChkR [-2,0,1] 1 2 1:=⟨by decide,by decide,by decide,by decide,by decide,by decide,by decide,by decide,by decide⟩
 rw [hr.eq,red2,if_neg (by decide),if_neg (by decide),show zm2 [-2,0,1] 1 2 1=true by kernel_rfl];rfl
theorem hv64:hvG [-2,0,1] 64 1 2 1=(26087635650665564424,26087635650665564425,18446744073709551616):=by kernel_rfl
theorem Le.lst_sl {l:List Int} {cells:List AV} {n:Nat} (h:cells=yZ .W l) (hn:n=l.length):Le (.lst .whole l) (.sl cells n):=by
 subst h;subst hn;exact Le.lst_slW l
theorem open2:FC Tryz.prog 35 [F2] (.tup [R2,.lit (.int .i64 0)]):=by
 have:=open_fc [-2,0,1] 1 2 1 chk2
 refine this.le (LeL.refl _) ?_
 unfold openA oA
 rw [show hvC [-2,0,1]=64 from rfl,hv64]
 exact Le.tup (.cons (Le.pd (LeL.six (Le.lst_sl rfl rfl) (Le.lst_sl rfl rfl))) (LeL.refl _))
abbrev nW:AV:=.agg [.sl [.lit (.slice none 0 0),.sq [1]] 2,.lit (.slice none 0 0)]
abbrev nA1 (a d:Int):AV:=.agg [.sl [.ni a] 1,.ni d]
abbrev nA2 (a b d:Int):AV:=.agg [.sl [.ni a,.ni b] 2,.ni d]
noncomputable section
theorem cRoot:zm0 (dZ Tryz.prog zfo bw) 300 68 [.lit (.int .i64 2)]=some (.tup [.agg [.sq [-2,0,1],aI 1,aI 2,aI 1],aI 0],[3≤3]):=by kernel_rfl
theorem cWhole1:zm0 (dZ Tryz.prog zfo bw) 300 31 [.lit (.int .i64 1)]=some (.agg [.sl [.ni 1] 1,.ni 1],[]):=by kernel_rfl
theorem cWhole3:zm0 (dZ Tryz.prog zfo bw) 300 31 [.lit (.int .i64 3)]=some (.agg [.sl [.ni 3] 1,.ni 1],[]):=by kernel_rfl
theorem cWhole100:zm0 (dZ Tryz.prog zfo bw) 300 31 [.lit (.int .i64 100)]=some (.agg [.sl [.ni 100] 1,.ni 1],[]):=by kernel_rfl
theorem cAdd1:zm0 (dZ Tryz.prog zfo bw) 300 24 [R2,nA1 1 1,nW]=some (.agg [.sl [.ni 1,.ni 1] 2,.ni 1],[]):=by kernel_rfl
theorem cAdd2:zm0 (dZ Tryz.prog zfo bw) 300 24 [R2,nW,nW]=some (.agg [.sl [.ni 0,.ni 2] 2,.ni 1],[]):=by kernel_rfl
theorem cSub:zm0 (dZ Tryz.prog zfo bw) 300 26 [R2,nA1 3 1,nA2 0 2 1]=some (.agg [.sl [.ni 3,.ni (-2)] 2,.ni 1],[]):=by kernel_rfl
theorem cMul:zm0 (dZ Tryz.prog zfo bw) 300 28 [R2,nA1 100 1,nW]=some (.agg [.sl [.ni 0,.ni 100] 2,.ni 1],[]):=by kernel_rfl
theorem cSign:zm0 (dZ Tryz.prog zfo bw) 300 30 [R2,nA2 3 (-2) 1]=some (aI 1,[]):=by kernel_rfl
theorem cFloor:zm0 (dZ Tryz.prog zfo bw) 300 33 [R2,nA2 0 100 1]=some (.ni 141,[]):=by kernel_rfl
theorem cQuo:zm0 (dZ Tryz.prog zfo bw) 300 19 [R2,nA1 1 1,nA2 1 1 1]=some (.tup [.agg [.sl [.ni (-1),.ni 1] 2,.ni 1],aI 0],[]):=by kernel_rfl
end
theorem cFmt:zm0 (dZ Tryz.prog ctrT2 bw) 300 76 [R2,nA2 (-1) 1 1]=some (.lit (.string ⟨#[45,49,44,49]⟩),[]):=by kernel_rfl
theorem root2:FC Tryz.prog 68 [.lit (.int .i64 2)] (.tup [F2,.lit (.int .i64 0)]):=zcA okAw cRoot (.cons (Nat.le_refl _) .nil)
theorem whole1:FC Tryz.prog 31 [.lit (.int .i64 1)] (nA1 1 1):=zcA okAw cWhole1 .nil
theorem whole3:FC Tryz.prog 31 [.lit (.int .i64 3)] (nA1 3 1):=zcA okAw cWhole3 .nil
theorem whole100:FC Tryz.prog 31 [.lit (.int .i64 100)] (nA1 100 1):=zcA okAw cWhole100 .nil
theorem add1:FC Tryz.prog 24 [R2,nA1 1 1,nW] (nA2 1 1 1):=zcA okAw cAdd1 .nil
theorem add2:FC Tryz.prog 24 [R2,nW,nW] (nA2 0 2 1):=zcA okAw cAdd2 .nil
theorem sub1:FC Tryz.prog 26 [R2,nA1 3 1,nA2 0 2 1] (nA2 3 (-2) 1):=zcA okAw cSub .nil
theorem mul1:FC Tryz.prog 28 [R2,nA1 100 1,nW] (nA2 0 100 1):=zcA okAw cMul .nil
theorem sign1:FC Tryz.prog 30 [R2,nA2 3 (-2) 1] (.lit (.int .i64 1)):=zcA okAw cSign .nil
theorem floor1:FC Tryz.prog 33 [R2,nA2 0 100 1] (.ni 141):=zcA okAw cFloor .nil
theorem fmt1:FC Tryz.prog 76 [R2,nA2 (-1) 1 1] (.lit (.string ⟨#[45,49,44,49]⟩)):=zcA okT2 cFmt .nil
theorem quo1:FC Tryz.prog 19 [R2,nA1 1 1,nA2 1 1 1] (.tup [nA2 (-1) 1 1,.lit (.int .i64 0)]):=zcA okAw cQuo .nil
def ctrW:Ctr:=(35,cK [F2] (.tup [R2,.lit (.int .i64 0)])) :: (68,cK [.lit (.int .i64 2)] (.tup [F2,.lit (.int .i64 0)])) ::
 (31,orC (cK [.lit (.int .i64 1)] (nA1 1 1)) (orC (cK [.lit (.int .i64 3)] (nA1 3 1)) (cK [.lit (.int .i64 100)] (nA1 100 1)))) ::
 (24,orC (cK [R2,nA1 1 1,nW] (nA2 1 1 1)) (cK [R2,nW,nW] (nA2 0 2 1))) ::
 (26,cK [R2,nA1 3 1,nA2 0 2 1] (nA2 3 (-2) 1)) ::
 (28,cK [R2,nA1 100 1,nW] (nA2 0 100 1)) ::
 (30,cK [R2,nA2 3 (-2) 1] (.lit (.int .i64 1))) ::
 (33,cK [R2,nA2 0 100 1] (.ni 141)) ::
 (76,cK [R2,nA2 (-1) 1 1] (.lit (.string ⟨#[45,49,44,49]⟩))) ::
 (19,cK [R2,nA1 1 1,nA2 1 1 1] (.tup [nA2 (-1) 1 1,.lit (.int .i64 0)])) :: ctrT2
theorem ctrW_all:∀p∈ctrW,kZ Tryz.prog p.1 p.2:=
 CAll.cons (ze3 open2)<|CAll.cons (ze3 root2)<|CAll.cons (orC_ok (ze3 whole1) (orC_ok (ze3 whole3) (ze3 whole100)))<|CAll.cons (orC_ok (ze3 add1) (ze3 add2))<|CAll.cons (ze3 sub1) <|
 CAll.cons (ze3 mul1)<|CAll.cons (ze3 sign1)<|CAll.cons (ze3 floor1)<|CAll.cons (ze3 fmt1)<|CAll.cons (ze3 quo1) zlL
theorem okW:(dZ Tryz.prog ctrW bw).OK:=TZ ctrW_all
noncomputable section
theorem cAwake:zm0 (dZ Tryz.prog ctrW bw) 300 18 []=some (aT,[1≤1,1≤1,1≤1,1≤1,1≤1,1≤1,1≤1,1≤1,1≤1,1≤1,1≤1,1≤1,1≤1,1≤1,1≤1,1≤1,1≤1,1≤1,1≤1,1≤1,1≤1]):=by kernel_rfl
end
theorem awake_fc:FC Tryz.prog 18 [] (.lit (.bool true)):=zcA okW cAwake (by(repeat' (first | exact AllC.nil | refine AllC.cons ?_ ?_));all_goals (first | (with_reducible rfl) | exact Nat.le_refl _ | trivial | decide))
end Go.Proofs.YtloaeinogiplbaaGreatDoor
end
