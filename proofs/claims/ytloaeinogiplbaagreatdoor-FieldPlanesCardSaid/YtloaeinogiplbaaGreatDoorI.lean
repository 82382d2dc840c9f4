/- Part of a proof about a given program: see the last module of the claim. -/
import Derived.Test.YtloaeinogiplbaaGreatDoorH
import Derived.Test.YtloaeinogiplbaaGreatDoorF
import Derived.Test.YtloaeinogiplbaaGreatDoorC
section
open Go Go.Ev Go.RowKit
namespace Go.Proofs.YtloaeinogiplbaaGreatDoor
open Go.Proofs
set_option maxRecDepth 100000
set_option maxHeartbeats 1000000
set_option linter.unusedVariables false
set_option linter.unusedSimpArgs false
def cCh (args:List AV):M AV:=match args with
  | [x,y,z]=>do
    let p ← asK (.sl (.sl (.sl (.int .i64)))) x
    let a ← asK (.sl (.int .i64)) y
    let b ← asK (.sl (.int .i64)) z
    tellD (pCh p a b) (Tst.b (pCh p a b))
    gives (.lit (.int .i64 (zbb (svs p (vl a) (vl b)) 0 0).1))
  | _=>fail 301
noncomputable def ctrH8:Ctr:=(149,cCh) :: ctrH7
abbrev kdS:List (TypeId × EK):=[(100,.whole),(22,.sl (.int .i64)),(166,.sl (.sl (.int .i64)))]
theorem cCh_ok:lZ Tryz.prog 149 cCh:=by
  intro args _
  unfold cCh
  split
  · exact Spec.bind (asK_spec.mono fun p hp=>Spec.bind (asK_spec.mono fun a ha=>Spec.bind (asK_spec.mono fun b hb=>Spec.bind (Spec.tellD Tst.ok fun h=>Spec.gives ((zoh p a b h).le (.cons hp (.cons ha (.cons hb .nil))) (Le.refl _))))))
  · exact Spec.fail
theorem ctrH8_all:∀p∈ctrH8,lZ Tryz.prog p.1 p.2:=CAll.cons cCh_ok zhd
theorem ziw:(dZ Tryz.prog ctrH8 bw [] kdS).OK:=OZ zcM mixed ctrH8_all zcF
noncomputable section
theorem rro_0 (p:List Int) (a b c:Int) (h1:(p.length:Int)=2) (h2:0<(p.length:Int)) (h3:0<p.length) (h4:r64 (0-p.getD 0 0)) (h5:r64 ((0-p.getD 0 0)*c)) (h6:(0-p.getD 0 0)*c≥a) (h7:(0-p.getD 0 0)*c≤b):FC Tryz.prog 103 [.agg [.sq p,.lit (.int .i64 a),.lit (.int .i64 b),.lit (.int .i64 c)]] (aI 1):=fZ ziw 60 [1,1,1] (.c (beq_iff_eq.2 h1)<|.t h2<|.t h3<|.i h4<|.i h5<|.t h6<|.t h7<|.e) [1,0,2,3,4,5,6,0,2,3,4,5,7]
theorem rro_1 (p:List Int) (a b c:Int) (h1:(p.length:Int)=2) (h2:0<(p.length:Int)) (h3:0<p.length) (h4:r64 (0-p.getD 0 0)) (h5:r64 ((0-p.getD 0 0)*c)) (h6:(0-p.getD 0 0)*c≥a) (h7:¬((0-p.getD 0 0)*c≤b)):FC Tryz.prog 103 [.agg [.sq p,.lit (.int .i64 a),.lit (.int .i64 b),.lit (.int .i64 c)]] (aI 0):=fZ ziw 60 [1,1,0] (.c (beq_iff_eq.2 h1)<|.t h2<|.t h3<|.i h4<|.i h5<|.t h6<|.f h7<|.e) [1,0,2,3,4,5,6,0,2,3,4,5,7]
theorem rro_2 (p:List Int) (a b c:Int) (h1:(p.length:Int)=2) (h2:0<(p.length:Int)) (h3:0<p.length) (h4:r64 (0-p.getD 0 0)) (h5:r64 ((0-p.getD 0 0)*c)) (h6:¬((0-p.getD 0 0)*c≥a)):FC Tryz.prog 103 [.agg [.sq p,.lit (.int .i64 a),.lit (.int .i64 b),.lit (.int .i64 c)]] (aI 0):=fZ ziw 60 [1,0] (.c (beq_iff_eq.2 h1)<|.t h2<|.t h3<|.i h4<|.i h5<|.f h6<|.e) [1,0,2,3,4,5,6]
abbrev zdt (s:St) (r:Ex × St):Prop:=Loops 1 Tryz.prog (pZ Tryz.prog 103 0) s r
abbrev zfw (a:List Int) (b c d:Int):St:=⟨sp 121 [(1,.ref 0 0),(3,aN),(4,aN),(5,aI 0)],[.flat [.sq a,aI b,aI c,aI d] true],[]⟩
abbrev znK (a:List Int) (b c d:Int) (e:List (List Int)):St:=⟨sp 121 [(1,.ref 0 0),(3,.own 1 0 1 1),(4,aN),(5,aI 1)],[.flat [.sq a,aI b,aI c,aI d] true,.lst (EK.sl (.int .i64)) e true],[]⟩
abbrev zfx (a:List Int) (b c d:Int) (e f:Nat) (g:Int) (i j:List (List Int)):St:=⟨sp 121 [(1,.ref 0 0),(3,.own 1 0 e 1),(4,.own 2 0 f 1),(5,aI g)],[.flat [.sq a,aI b,aI c,aI d] true,.lst (EK.sl (.int .i64)) i true,.lst (EK.sl (.int .i64)) j true],[]⟩
abbrev rro_L0_E0 (a:List Int) (b c d:Int):St:=⟨sp 121 [(1,.ref 0 0),(3,aN),(4,aN),(5,aI 0)],[.flat [.sq a,aI b,aI c,aI d] true],[]⟩
abbrev zcP (a:List Int) (b c d:Int) (e f:Nat) (g:Int) (i j:List (List Int)):St:=⟨sp 121 [(1,.ref 0 0),(3,.own 1 0 e 1),(4,.own 2 0 f 1),(5,aI g)],[.flat [.sq a,aI b,aI c,aI d] true,.lst (EK.sl (.int .i64)) i true,.lst (EK.sl (.int .i64)) j true],[]⟩
theorem zpS (a:List Int) (b d f:Int) (h1:0<(a.length:Int)) (h2:0<a.length) (h3:1≤List.length [a.getD 0 0]) (h4:1≤List.length [List.take 1 [a.getD 0 0]]) (h5:0<(List.take 1 [List.take 1 [a.getD 0 0]]).length) (h6:(List.take 1 [List.take 1 [a.getD 0 0]]).length*24≤140737488355328) (h7:(List.take 1 [List.take 1 [a.getD 0 0]]).length≤4611686018427387904) {r:Ex × St} (k:zdt (znK a b d f ([[a.getD 0 0]])) r):zdt (zfw a b d f) r:=Loops.go (LS.at ziw 60 [3] [1,3,4,5] [] [1] (.t h1<|.t h2<|.c h3<|.c h4<|.t h5<|.t h6<|.t h7<|.e) [1,0,1,2,3,4,5,6,7,0]) k
theorem rro_L0_0_1 (a:List Int) (b c d:Int) (h1:¬(0<(a.length:Int))):zdt (zfw a b c d) (Ex.exit 0,(rro_L0_E0 a b c d)):=Loops.fin (LS.at ziw 60 [] [1,3,4,5] [] [0] (.f h1<|.e) [1]) (fun h=>nomatch h)
theorem zpT (a:List Int) (b d f:Int) (g:List (List Int)) (h1:1<(a.length:Int)) (h2:1<a.length) (h3:1≤List.length [a.getD 1 0]) (h4:1≤List.length [List.take 1 [a.getD 1 0]]) (h5:(1+(List.take 1 [List.take 1 [a.getD 1 0]]).length)*24≤140737488355328) (h6:1+(List.take 1 [List.take 1 [a.getD 1 0]]).length≤4611686018427387904) (h7:1≤g.length) (h8:r64 (1*a.getD 1 0)) (h9:1≤List.length [1*a.getD 1 0]) (h10:1≤List.length [List.take 1 [1*a.getD 1 0]]) (h11:0<(List.take 1 [List.take 1 [1*a.getD 1 0]]).length) (h12:(List.take 1 [List.take 1 [1*a.getD 1 0]]).length*24≤140737488355328) (h13:(List.take 1 [List.take 1 [1*a.getD 1 0]]).length≤4611686018427387904) {r:Ex × St} (k:zdt (zfx a b d f (2) (1) (2) (g.take 1++List.take 1 [List.take 1 [a.getD 1 0]]) ([[1*a.getD 1 0]])) r):zdt (znK a b d f g) r:=Loops.go (LS.at ziw 60 [4,7] [1,3,4,5] [] [1] (.t h1<|.t h2<|.c h3<|.c h4<|.t h5<|.t h6<|.t h7<|.i h8<|.c h9<|.c h10<|.t h11<|.t h12<|.t h13<|.e) [1,0,1,2,3,4,5,6,7,0,1,2,8,9,10,11,12,13,0]) k
theorem zpU (a:List Int) (b d f:Int) (g j:Nat) (l:Int) (m n:List (List Int)) (h1:l<(a.length:Int)) (h2:0≤l) (h3:l.toNat<a.length) (h4:1≤List.length [a.getD l.toNat 0]) (h5:1≤List.length [List.take 1 [a.getD l.toNat 0]]) (h6:(g+(List.take 1 [List.take 1 [a.getD l.toNat 0]]).length)*24≤140737488355328) (h7:g+(List.take 1 [List.take 1 [a.getD l.toNat 0]]).length≤4611686018427387904) (h8:g≤m.length) (h9:l > 0) (h10:r64 (l*a.getD l.toNat 0)) (h11:1≤List.length [l*a.getD l.toNat 0]) (h12:1≤List.length [List.take 1 [l*a.getD l.toNat 0]]) (h13:(j+(List.take 1 [List.take 1 [l*a.getD l.toNat 0]]).length)*24≤140737488355328) (h14:j+(List.take 1 [List.take 1 [l*a.getD l.toNat 0]]).length≤4611686018427387904) (h15:j≤n.length) (h16:r64 (l+1)) {r:Ex × St} (k:zdt (zfx a b d f (g+(List.take 1 [List.take 1 [a.getD l.toNat 0]]).length) (j+(List.take 1 [List.take 1 [l*a.getD l.toNat 0]]).length) (l+1) (m.take g++List.take 1 [List.take 1 [a.getD l.toNat 0]]) (n.take j++List.take 1 [List.take 1 [l*a.getD l.toNat 0]])) r):zdt (zfx a b d f g j l m n) r:=Loops.go (LS.at ziw 60 [5,8] [1,3,4,5] [] [1,1] (.t h1<|.t h2<|.t h3<|.c h4<|.c h5<|.t h6<|.t h7<|.t h8<|.t h9<|.i h10<|.c h11<|.c h12<|.t h13<|.t h14<|.t h15<|.i h16<|.e) [1,2,1,3,4,5,6,7,8,9,2,1,3,10,11,12,13,14,15,16]) k
theorem zpV (a:List Int) (b c d:Int) (g i:Nat) (j:Int) (l m:List (List Int)) (h1:¬(j<(a.length:Int))):zdt (zfx a b c d g i j l m) (Ex.exit 0,(zcP a b c d g i j l m)):=Loops.fin (LS.at ziw 60 [1,2] [1,3,4,5] [] [0] (.f h1<|.e) [1]) (fun h=>nomatch h)
abbrev zfB (s:St) (r:Ex × St):Prop:=Loops 4 Tryz.prog (pZ Tryz.prog 103 1) s r
abbrev zgR (a:List Int) (b c d:Int) (e f:List (List Int)) (g:List (List (List Int))):St:=⟨sp 121 [(1,.ref 0 0),(6,.own 3 0 2 1)],[.flat [.sq a,aI b,aI c,aI d] true,.lst (EK.sl (.int .i64)) e false,.lst (EK.sl (.int .i64)) f false,.lst (EK.sl (EK.sl (.int .i64))) g true],[3]⟩
abbrev zfC (a:List Int) (b c d:Int) (e f:List (List Int)) (g:List (List (List Int))) (i:Nat) (j:List (List (List Int))):St:=⟨sp 121 [(1,.ref 0 0),(6,.own 4 0 i 1)],[.flat [.sq a,aI b,aI c,aI d] true,.lst (EK.sl (.int .i64)) e false,.lst (EK.sl (.int .i64)) f false,.dead,.lst (EK.sl (EK.sl (.int .i64))) j true],[3]⟩
abbrev zlN (a:List Int) (b c d:Int) (e f:List (List Int)) (g:List (List (List Int))):St:=⟨sp 121 [(1,.ref 0 0),(6,.own 3 0 2 1)],[.flat [.sq a,aI b,aI c,aI d] true,.lst (EK.sl (.int .i64)) e false,.lst (EK.sl (.int .i64)) f false,.lst (EK.sl (EK.sl (.int .i64))) g true],[3]⟩
abbrev zfD (a:List Int) (b c d:Int) (e f:List (List Int)) (g:List (List (List Int))) (i:Nat) (j:List (List (List Int))):St:=⟨sp 121 [(1,.ref 0 0),(6,.own 4 0 i 1)],[.flat [.sq a,aI b,aI c,aI d] true,.lst (EK.sl (.int .i64)) e false,.lst (EK.sl (.int .i64)) f false,.dead,.lst (EK.sl (EK.sl (.int .i64))) j true],[3]⟩
theorem zp2 (a:List Int) (b d f:Int) (g i:List (List Int)) (j:List (List (List Int))) (h1:0<j.length) (h2:1<j.length) (h3:pRe (j.getD 0 (EK.dflt (EK.sl (EK.sl (.int .i64))))) (j.getD 1 (EK.dflt (EK.sl (EK.sl (.int .i64)))))) (h4:(↑((rsT (j.getD 1 (EK.dflt (EK.sl (EK.sl (.int .i64))))) (j.getD 0 (EK.dflt (EK.sl (EK.sl (.int .i64))))).length (j.getD 0 (EK.dflt (EK.sl (EK.sl (.int .i64)))))).length):Int)=0):zfB (zgR a b d f g i j) (Ex.exit 2,(zlN a b d f g i j)):=Loops.fin (LS.at ziw 60 [] [1,6] [3] [1] (.t h1<|.t h2<|.c h3<|.c (beq_iff_eq.2 h4)<|.e) [0,0,0,1,0,0,0,2,3,4]) (fun h=>nomatch h)
abbrev zfy (s:St) (r:Ex × St):Prop:=Loops 4 Tryz.prog (pZ Tryz.prog 103 2) s r
abbrev zgQ (a:List (List Int)) (b:List Int) (c d e:Int) (f g:List (List Int)) (i:List (List (List Int))):St:=⟨sp 121 [(1,.ref 0 0),(6,.own 3 0 2 1),(7,.lst (EK.sl (.int .i64)) a),(8,aN),(9,aI 0)],[.flat [.sq b,aI c,aI d,aI e] true,.lst (EK.sl (.int .i64)) f false,.lst (EK.sl (.int .i64)) g false,.lst (EK.sl (EK.sl (.int .i64))) i true],[3]⟩
abbrev zfz (a:List (List Int)) (b:List Int) (c d e:Int) (f g:List (List Int)) (i:List (List (List Int))) (j:Nat) (l:Int) (m:List (List Int)):St:=⟨sp 121 [(1,.ref 0 0),(6,.own 3 0 2 1),(7,.lst (EK.sl (.int .i64)) a),(8,.own 4 0 j 1),(9,aI l)],[.flat [.sq b,aI c,aI d,aI e] true,.lst (EK.sl (.int .i64)) f false,.lst (EK.sl (.int .i64)) g false,.lst (EK.sl (EK.sl (.int .i64))) i true,.lst (EK.sl (.int .i64)) m true],[3]⟩
abbrev rro_L2_E0 (a:List (List Int)) (b:List Int) (c d e:Int) (f g:List (List Int)) (i:List (List (List Int))):St:=⟨sp 121 [(1,.ref 0 0),(6,.own 3 0 2 1),(7,.lst (EK.sl (.int .i64)) a),(8,aN),(9,aI 0)],[.flat [.sq b,aI c,aI d,aI e] true,.lst (EK.sl (.int .i64)) f false,.lst (EK.sl (.int .i64)) g false,.lst (EK.sl (EK.sl (.int .i64))) i true],[3]⟩
abbrev zdX (a:List (List Int)) (b:List Int) (c d e:Int) (f g:List (List Int)) (i:List (List (List Int))) (j:Nat) (l:Int) (m:List (List Int)):St:=⟨sp 121 [(1,.ref 0 0),(6,.own 3 0 2 1),(7,.lst (EK.sl (.int .i64)) a),(8,.own 4 0 j 1),(9,aI l)],[.flat [.sq b,aI c,aI d,aI e] true,.lst (EK.sl (.int .i64)) f false,.lst (EK.sl (.int .i64)) g false,.lst (EK.sl (EK.sl (.int .i64))) i true,.lst (EK.sl (.int .i64)) m true],[3]⟩
theorem zpW (a:List (List Int)) (b:List Int) (d f g:Int) (i j:List (List Int)) (l:List (List (List Int))) (h1:0<(a.length:Int)) (h2:pX (a.getD 0 (EK.dflt (EK.sl (.int .i64))))) (h3:1≤List.length [aZ (-vl (a.getD 0 (EK.dflt (EK.sl (.int .i64)))))]) (h4:0<(List.take 1 [aZ (-vl (a.getD 0 (EK.dflt (EK.sl (.int .i64)))))]).length) (h5:(List.take 1 [aZ (-vl (a.getD 0 (EK.dflt (EK.sl (.int .i64)))))]).length*24≤140737488355328) (h6:(List.take 1 [aZ (-vl (a.getD 0 (EK.dflt (EK.sl (.int .i64)))))]).length≤4611686018427387904) {r:Ex × St} (k:zfy (zfz a b d f g i j l (1) (1) ([aZ (-vl (a.getD 0 (EK.dflt (EK.sl (.int .i64)))))])) r):zfy (zgQ a b d f g i j l) r:=Loops.go (LS.at ziw 60 [5] [1,6,7,8,9] [3] [1] (.t h1<|.c h2<|.c h3<|.t h4<|.t h5<|.t h6<|.e) [1,0,1,2,3,4,5,6,0]) k
theorem rro_L2_0_1 (a:List (List Int)) (b:List Int) (c d g:Int) (i j:List (List Int)) (l:List (List (List Int))) (h1:¬(0<(a.length:Int))):zfy (zgQ a b c d g i j l) (Ex.exit 4,(rro_L2_E0 a b c d g i j l)):=Loops.fin (LS.at ziw 60 [] [1,6,7,8,9] [3] [0] (.f h1<|.e) [1]) (fun h=>nomatch h)
theorem zpX (a:List (List Int)) (b:List Int) (d f g:Int) (j l:List (List Int)) (m:List (List (List Int))) (n:Nat) (o:Int) (p:List (List Int)) (h1:o<(a.length:Int)) (h2:0≤o) (h3:pX (a.getD o.toNat (EK.dflt (EK.sl (.int .i64))))) (h4:1≤List.length [aZ (-vl (a.getD o.toNat (EK.dflt (EK.sl (.int .i64)))))]) (h5:(n+(List.take 1 [aZ (-vl (a.getD o.toNat (EK.dflt (EK.sl (.int .i64)))))]).length)*24≤140737488355328) (h6:n+(List.take 1 [aZ (-vl (a.getD o.toNat (EK.dflt (EK.sl (.int .i64)))))]).length≤4611686018427387904) (h7:n≤p.length) (h8:r64 (o+1)) {r:Ex × St} (k:zfy (zfz a b d f g j l m (n+(List.take 1 [aZ (-vl (a.getD o.toNat (EK.dflt (EK.sl (.int .i64)))))]).length) (o+1) (p.take n++List.take 1 [aZ (-vl (a.getD o.toNat (EK.dflt (EK.sl (.int .i64)))))])) r):zfy (zfz a b d f g j l m n o p) r:=Loops.go (LS.at ziw 60 [6] [1,6,7,8,9] [3] [1] (.t h1<|.t h2<|.c h3<|.c h4<|.t h5<|.t h6<|.t h7<|.i h8<|.e) [1,2,1,3,4,5,6,7,8]) k
theorem zpY (a:List (List Int)) (b:List Int) (c d g:Int) (i j:List (List Int)) (l:List (List (List Int))) (m:Nat) (n:Int) (o:List (List Int)) (h1:¬(n<(a.length:Int))):zfy (zfz a b c d g i j l m n o) (Ex.exit 4,(zdX a b c d g i j l m n o)):=Loops.fin (LS.at ziw 60 [4] [1,6,7,8,9] [3] [0] (.f h1<|.e) [1]) (fun h=>nomatch h)
theorem zp3 (a:List Int) (b d f:Int) (g i:List (List Int)) (j:List (List (List Int))) (l:Nat) (m:Int) (n:List (List Int)) (h1:0<j.length) (h2:1<j.length) (h3:pRe (j.getD 0 (EK.dflt (EK.sl (EK.sl (.int .i64))))) (j.getD 1 (EK.dflt (EK.sl (EK.sl (.int .i64)))))) (h4:(↑((rsT (j.getD 1 (EK.dflt (EK.sl (EK.sl (.int .i64))))) (j.getD 0 (EK.dflt (EK.sl (EK.sl (.int .i64))))).length (j.getD 0 (EK.dflt (EK.sl (EK.sl (.int .i64)))))).length):Int)≠0) (hL1:zfy (zgQ (rsT (j.getD 1 (EK.dflt (EK.sl (EK.sl (.int .i64))))) (j.getD 0 (EK.dflt (EK.sl (EK.sl (.int .i64))))).length (j.getD 0 (EK.dflt (EK.sl (EK.sl (.int .i64)))))) a b d f g i j) (Ex.exit 4,(zdX (rsT (j.getD 1 (EK.dflt (EK.sl (EK.sl (.int .i64))))) (j.getD 0 (EK.dflt (EK.sl (EK.sl (.int .i64))))).length (j.getD 0 (EK.dflt (EK.sl (EK.sl (.int .i64)))))) a b d f g i j l m n))) (h6:l≤n.length) (h7:1≤List.length [n.take l]) (h8:(2+(List.take 1 [n.take l]).length)*24≤140737488355328) (h9:2+(List.take 1 [n.take l]).length≤4611686018427387904) (h10:2≤j.length) {r:Ex × St} (k:zfB (zfC a b d f g i j (3) (j.take 2++List.take 1 [n.take l])) r):zfB (zgR a b d f g i j) r:=Loops.go (LS.at ziw 60 [6] [1,6] [3] [0] (.t h1<|.t h2<|.c h3<|.c (beq_false_of_ne h4)<|.v [1,6,7,8,9] [3] hL1<|.c h6<|.c h7<|.t h8<|.t h9<|.t h10<|.e) [0,0,0,1,0,0,0,2,3,4,0,5,6,7,8,9,10]) k
theorem zp4 (a:List Int) (b d f:Int) (g j:List (List Int)) (l:List (List (List Int))) (m:Nat) (n:List (List (List Int))) (h1:r64 ((m:Int)-2)) (h2:0≤(m:Int)-2) (h3:(m:Int)-2<(m:Int)) (h4:((m:Int)-2).toNat<n.length) (h5:r64 ((m:Int)-1)) (h6:0≤(m:Int)-1) (h7:(m:Int)-1<(m:Int)) (h8:((m:Int)-1).toNat<n.length) (h9:pRe (n.getD ((m:Int)-2).toNat (EK.dflt (EK.sl (EK.sl (.int .i64))))) (n.getD ((m:Int)-1).toNat (EK.dflt (EK.sl (EK.sl (.int .i64)))))) (h10:(↑((rsT (n.getD ((m:Int)-1).toNat (EK.dflt (EK.sl (EK.sl (.int .i64))))) (n.getD ((m:Int)-2).toNat (EK.dflt (EK.sl (EK.sl (.int .i64))))).length (n.getD ((m:Int)-2).toNat (EK.dflt (EK.sl (EK.sl (.int .i64)))))).length):Int)=0):zfB (zfC a b d f g j l m n) (Ex.exit 2,(zfD a b d f g j l m n)):=Loops.fin (LS.at ziw 60 [4] [1,6] [3] [1] (.i h1<|.t h2<|.t h3<|.t h4<|.i h5<|.t h6<|.t h7<|.t h8<|.c h9<|.c (beq_iff_eq.2 h10)<|.e) [1,2,3,4,5,6,7,8,9,10]) (fun h=>nomatch h)
abbrev zgn (s:St) (r:Ex × St):Prop:=Loops 5 Tryz.prog (pZ Tryz.prog 103 2) s r
abbrev zka (a:Nat) (b:List (List Int)) (c:List Int) (d e f:Int) (g i:List (List Int)) (j:List (List (List Int))):St:=⟨sp 121 [(1,.ref 0 0),(6,.own 4 0 a 1),(7,.lst (EK.sl (.int .i64)) b),(8,aN),(9,aI 0)],[.flat [.sq c,aI d,aI e,aI f] true,.lst (EK.sl (.int .i64)) g false,.lst (EK.sl (.int .i64)) i false,.dead,.lst (EK.sl (EK.sl (.int .i64))) j true],[3]⟩
abbrev zfA (a:Nat) (b:List (List Int)) (c:List Int) (d e f:Int) (g i:List (List Int)) (j:List (List (List Int))) (l:Nat) (m:Int) (n:List (List Int)):St:=⟨sp 121 [(1,.ref 0 0),(6,.own 4 0 a 1),(7,.lst (EK.sl (.int .i64)) b),(8,.own 5 0 l 1),(9,aI m)],[.flat [.sq c,aI d,aI e,aI f] true,.lst (EK.sl (.int .i64)) g false,.lst (EK.sl (.int .i64)) i false,.dead,.lst (EK.sl (EK.sl (.int .i64))) j true,.lst (EK.sl (.int .i64)) n true],[3]⟩
abbrev zdY (a:Nat) (b:List (List Int)) (c:List Int) (d e f:Int) (g i:List (List Int)) (j:List (List (List Int))) (l:Nat) (m:Int) (n:List (List Int)):St:=⟨sp 121 [(1,.ref 0 0),(6,.own 4 0 a 1),(7,.lst (EK.sl (.int .i64)) b),(8,.own 5 0 l 1),(9,aI m)],[.flat [.sq c,aI d,aI e,aI f] true,.lst (EK.sl (.int .i64)) g false,.lst (EK.sl (.int .i64)) i false,.dead,.lst (EK.sl (EK.sl (.int .i64))) j true,.lst (EK.sl (.int .i64)) n true],[3]⟩
theorem zpZ (a:Nat) (b:List (List Int)) (d:List Int) (f g i:Int) (j l:List (List Int)) (m:List (List (List Int))) (h1:0<(b.length:Int)) (h2:pX (b.getD 0 (EK.dflt (EK.sl (.int .i64))))) (h3:1≤List.length [aZ (-vl (b.getD 0 (EK.dflt (EK.sl (.int .i64)))))]) (h4:0<(List.take 1 [aZ (-vl (b.getD 0 (EK.dflt (EK.sl (.int .i64)))))]).length) (h5:(List.take 1 [aZ (-vl (b.getD 0 (EK.dflt (EK.sl (.int .i64)))))]).length*24≤140737488355328) (h6:(List.take 1 [aZ (-vl (b.getD 0 (EK.dflt (EK.sl (.int .i64)))))]).length≤4611686018427387904) {r:Ex × St} (k:zgn (zfA a b d f g i j l m (1) (1) ([aZ (-vl (b.getD 0 (EK.dflt (EK.sl (.int .i64)))))])) r):zgn (zka a b d f g i j l m) r:=Loops.go (LS.at ziw 60 [6] [1,6,7,8,9] [3] [1] (.t h1<|.c h2<|.c h3<|.t h4<|.t h5<|.t h6<|.e) [1,0,1,2,3,4,5,6,0]) k
theorem zp0 (a:Nat) (b:List (List Int)) (d:List Int) (f g j:Int) (l m:List (List Int)) (n:List (List (List Int))) (o:Nat) (p:Int) (q:List (List Int)) (h1:p<(b.length:Int)) (h2:0≤p) (h3:pX (b.getD p.toNat (EK.dflt (EK.sl (.int .i64))))) (h4:1≤List.length [aZ (-vl (b.getD p.toNat (EK.dflt (EK.sl (.int .i64)))))]) (h5:(o+(List.take 1 [aZ (-vl (b.getD p.toNat (EK.dflt (EK.sl (.int .i64)))))]).length)*24≤140737488355328) (h6:o+(List.take 1 [aZ (-vl (b.getD p.toNat (EK.dflt (EK.sl (.int .i64)))))]).length≤4611686018427387904) (h7:o≤q.length) (h8:r64 (p+1)) {r:Ex × St} (k:zgn (zfA a b d f g j l m n (o+(List.take 1 [aZ (-vl (b.getD p.toNat (EK.dflt (EK.sl (.int .i64)))))]).length) (p+1) (q.take o++List.take 1 [aZ (-vl (b.getD p.toNat (EK.dflt (EK.sl (.int .i64)))))])) r):zgn (zfA a b d f g j l m n o p q) r:=Loops.go (LS.at ziw 60 [7] [1,6,7,8,9] [3] [1] (.t h1<|.t h2<|.c h3<|.c h4<|.t h5<|.t h6<|.t h7<|.i h8<|.e) [1,2,1,3,4,5,6,7,8]) k
theorem zp1 (a:Nat) (b:List (List Int)) (c:List Int) (d g i:Int) (j l:List (List Int)) (m:List (List (List Int))) (n:Nat) (o:Int) (p:List (List Int)) (h1:¬(o<(b.length:Int))):zgn (zfA a b c d g i j l m n o p) (Ex.exit 4,(zdY a b c d g i j l m n o p)):=Loops.fin (LS.at ziw 60 [5] [1,6,7,8,9] [3] [0] (.f h1<|.e) [1]) (fun h=>nomatch h)
theorem zp5 (a:List Int) (b d f:Int) (g j:List (List Int)) (l:List (List (List Int))) (m:Nat) (n:List (List (List Int))) (o:Nat) (p:Int) (q:List (List Int)) (h1:r64 ((m:Int)-2)) (h2:0≤(m:Int)-2) (h3:(m:Int)-2<(m:Int)) (h4:((m:Int)-2).toNat<n.length) (h5:r64 ((m:Int)-1)) (h6:0≤(m:Int)-1) (h7:(m:Int)-1<(m:Int)) (h8:((m:Int)-1).toNat<n.length) (h9:pRe (n.getD ((m:Int)-2).toNat (EK.dflt (EK.sl (EK.sl (.int .i64))))) (n.getD ((m:Int)-1).toNat (EK.dflt (EK.sl (EK.sl (.int .i64)))))) (h10:(↑((rsT (n.getD ((m:Int)-1).toNat (EK.dflt (EK.sl (EK.sl (.int .i64))))) (n.getD ((m:Int)-2).toNat (EK.dflt (EK.sl (EK.sl (.int .i64))))).length (n.getD ((m:Int)-2).toNat (EK.dflt (EK.sl (EK.sl (.int .i64)))))).length):Int)≠0) (hL1:zgn (zka m (rsT (n.getD ((m:Int)-1).toNat (EK.dflt (EK.sl (EK.sl (.int .i64))))) (n.getD ((m:Int)-2).toNat (EK.dflt (EK.sl (EK.sl (.int .i64))))).length (n.getD ((m:Int)-2).toNat (EK.dflt (EK.sl (EK.sl (.int .i64)))))) a b d f g j n) (Ex.exit 4,(zdY m (rsT (n.getD ((m:Int)-1).toNat (EK.dflt (EK.sl (EK.sl (.int .i64))))) (n.getD ((m:Int)-2).toNat (EK.dflt (EK.sl (EK.sl (.int .i64))))).length (n.getD ((m:Int)-2).toNat (EK.dflt (EK.sl (EK.sl (.int .i64)))))) a b d f g j n o p q))) (h12:o≤q.length) (h13:1≤List.length [q.take o]) (h14:(m+(List.take 1 [q.take o]).length)*24≤140737488355328) (h15:m+(List.take 1 [q.take o]).length≤4611686018427387904) (h16:m≤n.length) {r:Ex × St} (k:zfB (zfC a b d f g j l (m+(List.take 1 [q.take o]).length) (n.take m++List.take 1 [q.take o])) r):zfB (zfC a b d f g j l m n) r:=Loops.go (LS.at ziw 60 [7] [1,6] [3] [0] (.i h1<|.t h2<|.t h3<|.t h4<|.i h5<|.t h6<|.t h7<|.t h8<|.c h9<|.c (beq_false_of_ne h10)<|.v [1,6,7,8,9] [3] hL1<|.c h12<|.c h13<|.t h14<|.t h15<|.t h16<|.e) [1,2,3,4,5,6,7,8,9,10,0,11,12,13,14,15,16]) k
abbrev zZ (a:Int) (b:Int) (c:Int) (d:Nat) (e:Nat) (g:List (List Int)) (i:List (List Int)):AV:=aI ((zbb (svs (List.take 2 [g.take d,i.take e]) (vl (List.take 1 [a])) (vl (List.take 1 [c]))) 0 0).fst-(zbb (svs (List.take 2 [g.take d,i.take e]) (vl (List.take 1 [b])) (vl (List.take 1 [c]))) 0 0).fst)
abbrev zau (a:Int) (c:Int) (d:Nat) (e:Nat) (g:List (List Int)) (i:List (List Int)):AV:=aI (zbb (svs (List.take 2 [g.take d,i.take e]) (vl (List.take 1 [a])) (vl (List.take 1 [c]))) 0 0).fst
abbrev zav (b:Int) (c:Int) (d:Nat) (e:Nat) (g:List (List Int)) (i:List (List Int)):AV:=aI (zbb (svs (List.take 2 [g.take d,i.take e]) (vl (List.take 1 [b])) (vl (List.take 1 [c]))) 0 0).fst
abbrev zaw (d:Nat) (e:Nat) (g:List (List Int)) (i:List (List Int)):Row:=.lst (EK.sl (EK.sl (.int .i64))) [g.take d,i.take e] false
abbrev oZ:AV:=.own 3 0 2 1
abbrev zax (p:List Int) (a:Int) (b:Int) (c:Int):Row:=.flat [.sq p,aI a,aI b,aI c] true
abbrev zay (g:List (List Int)):Row:=.lst (EK.sl (.int .i64)) g false
abbrev zaz (i:List (List Int)):Row:=.lst (EK.sl (.int .i64)) i false
abbrev AZ (c:Int):Row:=.ints [c] false
abbrev zaA:AV:=.own 4 0 1 1
abbrev ZZ:AV:=.own 5 0 1 1
abbrev zaa:AV:=.own 6 0 1 1
abbrev zab:AV:=.own 7 0 1 1
abbrev rro_3_s0 (p:List Int) (a b c:Int) (d e:Nat) (f:Int) (g i:List (List Int)):St:=⟨sp 121 [(1,.ref 0 0),(2,(zZ a b c d e g i)),(6,oZ),(104,oZ),(105,.ref 0 1),(106,aI a),(107,zaA),(108,.ref 0 3),(109,aI c),(110,ZZ),(111,(zau a c d e g i)),(112,oZ),(113,.ref 0 2),(114,aI b),(115,zaa),(116,.ref 0 3),(117,aI c),(118,zab),(119,(zav b c d e g i)),(120,(zZ a b c d e g i))],[(zax p a b c),(zay g),(zaz i),(zaw d e g i),.ints [a] false,(AZ c),.ints [b] false,(AZ c)],[3]⟩
abbrev rro_3_s1 (p:List Int) (a b c:Int) (d e:Nat) (f:Int) (g i:List (List Int)):St:=⟨sp 121 [(1,.ref 0 0),(2,(zZ a b c d e g i)),(6,oZ),(104,oZ),(105,.ref 0 1),(106,aI a),(107,zaA),(108,.ref 0 3),(109,aI c),(110,ZZ),(111,(zau a c d e g i)),(112,oZ),(113,.ref 0 2),(114,aI b),(115,zab),(116,.ref 0 3),(117,aI c),(118,zaa),(119,(zav b c d e g i)),(120,(zZ a b c d e g i))],[(zax p a b c),(zay g),(zaz i),(zaw d e g i),.ints [a] false,(AZ c),(AZ c),.ints [b] false],[3]⟩
abbrev rro_3_s2 (p:List Int) (a b c:Int) (d e:Nat) (f:Int) (g i:List (List Int)):St:=⟨sp 121 [(1,.ref 0 0),(2,(zZ a b c d e g i)),(6,oZ),(104,oZ),(105,.ref 0 1),(106,aI a),(107,zaA),(108,.ref 0 3),(109,aI c),(110,zaa),(111,(zau a c d e g i)),(112,oZ),(113,.ref 0 2),(114,aI b),(115,ZZ),(116,.ref 0 3),(117,aI c),(118,zab),(119,(zav b c d e g i)),(120,(zZ a b c d e g i))],[(zax p a b c),(zay g),(zaz i),(zaw d e g i),.ints [a] false,.ints [b] false,(AZ c),(AZ c)],[3]⟩
abbrev rro_3_s3 (p:List Int) (a b c:Int) (d e:Nat) (f:Int) (g i:List (List Int)):St:=⟨sp 121 [(1,.ref 0 0),(2,(zZ a b c d e g i)),(6,oZ),(104,oZ),(105,.ref 0 1),(106,aI a),(107,zaA),(108,.ref 0 3),(109,aI c),(110,zaa),(111,(zau a c d e g i)),(112,oZ),(113,.ref 0 2),(114,aI b),(115,zab),(116,.ref 0 3),(117,aI c),(118,ZZ),(119,(zav b c d e g i)),(120,(zZ a b c d e g i))],[(zax p a b c),(zay g),(zaz i),(zaw d e g i),.ints [a] false,(AZ c),(AZ c),.ints [b] false],[3]⟩
abbrev rro_3_s4 (p:List Int) (a b c:Int) (d e:Nat) (f:Int) (g i:List (List Int)):St:=⟨sp 121 [(1,.ref 0 0),(2,(zZ a b c d e g i)),(6,oZ),(104,oZ),(105,.ref 0 1),(106,aI a),(107,ZZ),(108,.ref 0 3),(109,aI c),(110,zaA),(111,(zau a c d e g i)),(112,oZ),(113,.ref 0 2),(114,aI b),(115,zaa),(116,.ref 0 3),(117,aI c),(118,zab),(119,(zav b c d e g i)),(120,(zZ a b c d e g i))],[(zax p a b c),(zay g),(zaz i),(zaw d e g i),(AZ c),.ints [a] false,.ints [b] false,(AZ c)],[3]⟩
abbrev rro_3_s5 (p:List Int) (a b c:Int) (d e:Nat) (f:Int) (g i:List (List Int)):St:=⟨sp 121 [(1,.ref 0 0),(2,(zZ a b c d e g i)),(6,oZ),(104,oZ),(105,.ref 0 1),(106,aI a),(107,ZZ),(108,.ref 0 3),(109,aI c),(110,zaA),(111,(zau a c d e g i)),(112,oZ),(113,.ref 0 2),(114,aI b),(115,zab),(116,.ref 0 3),(117,aI c),(118,zaa),(119,(zav b c d e g i)),(120,(zZ a b c d e g i))],[(zax p a b c),(zay g),(zaz i),(zaw d e g i),(AZ c),.ints [a] false,(AZ c),.ints [b] false],[3]⟩
abbrev rro_3_s6 (p:List Int) (a b c:Int) (d e:Nat) (f:Int) (g i:List (List Int)):St:=⟨sp 121 [(1,.ref 0 0),(2,(zZ a b c d e g i)),(6,oZ),(104,oZ),(105,.ref 0 1),(106,aI a),(107,zaa),(108,.ref 0 3),(109,aI c),(110,zaA),(111,(zau a c d e g i)),(112,oZ),(113,.ref 0 2),(114,aI b),(115,ZZ),(116,.ref 0 3),(117,aI c),(118,zab),(119,(zav b c d e g i)),(120,(zZ a b c d e g i))],[(zax p a b c),(zay g),(zaz i),(zaw d e g i),(AZ c),.ints [b] false,.ints [a] false,(AZ c)],[3]⟩
abbrev rro_3_s7 (p:List Int) (a b c:Int) (d e:Nat) (f:Int) (g i:List (List Int)):St:=⟨sp 121 [(1,.ref 0 0),(2,(zZ a b c d e g i)),(6,oZ),(104,oZ),(105,.ref 0 1),(106,aI a),(107,zaa),(108,.ref 0 3),(109,aI c),(110,zaA),(111,(zau a c d e g i)),(112,oZ),(113,.ref 0 2),(114,aI b),(115,zab),(116,.ref 0 3),(117,aI c),(118,ZZ),(119,(zav b c d e g i)),(120,(zZ a b c d e g i))],[(zax p a b c),(zay g),(zaz i),(zaw d e g i),(AZ c),(AZ c),.ints [a] false,.ints [b] false],[3]⟩
abbrev rro_3_s8 (p:List Int) (a b c:Int) (d e:Nat) (f:Int) (g i:List (List Int)):St:=⟨sp 121 [(1,.ref 0 0),(2,(zZ a b c d e g i)),(6,oZ),(104,oZ),(105,.ref 0 1),(106,aI a),(107,ZZ),(108,.ref 0 3),(109,aI c),(110,zaa),(111,(zau a c d e g i)),(112,oZ),(113,.ref 0 2),(114,aI b),(115,zaA),(116,.ref 0 3),(117,aI c),(118,zab),(119,(zav b c d e g i)),(120,(zZ a b c d e g i))],[(zax p a b c),(zay g),(zaz i),(zaw d e g i),.ints [b] false,.ints [a] false,(AZ c),(AZ c)],[3]⟩
abbrev rro_3_s9 (p:List Int) (a b c:Int) (d e:Nat) (f:Int) (g i:List (List Int)):St:=⟨sp 121 [(1,.ref 0 0),(2,(zZ a b c d e g i)),(6,oZ),(104,oZ),(105,.ref 0 1),(106,aI a),(107,zaa),(108,.ref 0 3),(109,aI c),(110,ZZ),(111,(zau a c d e g i)),(112,oZ),(113,.ref 0 2),(114,aI b),(115,zaA),(116,.ref 0 3),(117,aI c),(118,zab),(119,(zav b c d e g i)),(120,(zZ a b c d e g i))],[(zax p a b c),(zay g),(zaz i),(zaw d e g i),.ints [b] false,(AZ c),.ints [a] false,(AZ c)],[3]⟩
abbrev rro_3_s10 (p:List Int) (a b c:Int) (d e:Nat) (f:Int) (g i:List (List Int)):St:=⟨sp 121 [(1,.ref 0 0),(2,(zZ a b c d e g i)),(6,oZ),(104,oZ),(105,.ref 0 1),(106,aI a),(107,zaa),(108,.ref 0 3),(109,aI c),(110,zab),(111,(zau a c d e g i)),(112,oZ),(113,.ref 0 2),(114,aI b),(115,zaA),(116,.ref 0 3),(117,aI c),(118,ZZ),(119,(zav b c d e g i)),(120,(zZ a b c d e g i))],[(zax p a b c),(zay g),(zaz i),(zaw d e g i),.ints [b] false,(AZ c),.ints [a] false,(AZ c)],[3]⟩
abbrev rro_3_s11 (p:List Int) (a b c:Int) (d e:Nat) (f:Int) (g i:List (List Int)):St:=⟨sp 121 [(1,.ref 0 0),(2,(zZ a b c d e g i)),(6,oZ),(104,oZ),(105,.ref 0 1),(106,aI a),(107,ZZ),(108,.ref 0 3),(109,aI c),(110,zaa),(111,(zau a c d e g i)),(112,oZ),(113,.ref 0 2),(114,aI b),(115,zab),(116,.ref 0 3),(117,aI c),(118,zaA),(119,(zav b c d e g i)),(120,(zZ a b c d e g i))],[(zax p a b c),(zay g),(zaz i),(zaw d e g i),(AZ c),.ints [a] false,(AZ c),.ints [b] false],[3]⟩
abbrev rro_3_s12 (p:List Int) (a b c:Int) (d e:Nat) (f:Int) (g i:List (List Int)):St:=⟨sp 121 [(1,.ref 0 0),(2,(zZ a b c d e g i)),(6,oZ),(104,oZ),(105,.ref 0 1),(106,aI a),(107,zaa),(108,.ref 0 3),(109,aI c),(110,ZZ),(111,(zau a c d e g i)),(112,oZ),(113,.ref 0 2),(114,aI b),(115,zab),(116,.ref 0 3),(117,aI c),(118,zaA),(119,(zav b c d e g i)),(120,(zZ a b c d e g i))],[(zax p a b c),(zay g),(zaz i),(zaw d e g i),(AZ c),(AZ c),.ints [a] false,.ints [b] false],[3]⟩
abbrev rro_3_s13 (p:List Int) (a b c:Int) (d e:Nat) (f:Int) (g i:List (List Int)):St:=⟨sp 121 [(1,.ref 0 0),(2,(zZ a b c d e g i)),(6,oZ),(104,oZ),(105,.ref 0 1),(106,aI a),(107,zaa),(108,.ref 0 3),(109,aI c),(110,zab),(111,(zau a c d e g i)),(112,oZ),(113,.ref 0 2),(114,aI b),(115,ZZ),(116,.ref 0 3),(117,aI c),(118,zaA),(119,(zav b c d e g i)),(120,(zZ a b c d e g i))],[(zax p a b c),(zay g),(zaz i),(zaw d e g i),(AZ c),.ints [b] false,.ints [a] false,(AZ c)],[3]⟩
theorem rro_3 (p:List Int) (a b c:Int) (d f:Nat) (g:Int) (j l:List (List Int)) (h1:(p.length:Int)≠2) (hL1:zdt (zfw p a b c) (Ex.exit 0,(zcP p a b c d f g j l))) (h3:d≤j.length) (h4:f≤l.length) (hL2:zfB (zgR p a b c j l ([j.take d,l.take f])) (Ex.exit 2,(zlN p a b c j l ([j.take d,l.take f])))) (h6:2≤List.length [j.take d,l.take f]) (h7:1≤List.length [a]) (h8:1≤List.length [c]) (h9:pCh (List.take 2 [j.take d,l.take f]) (List.take 1 [a]) (List.take 1 [c])) (h10:1≤List.length [b]) (h11:pCh (List.take 2 [j.take d,l.take f]) (List.take 1 [b]) (List.take 1 [c])) (h12:r64 ((zbb (svs (List.take 2 [j.take d,l.take f]) (vl (List.take 1 [a])) (vl (List.take 1 [c]))) 0 0).fst-(zbb (svs (List.take 2 [j.take d,l.take f]) (vl (List.take 1 [b])) (vl (List.take 1 [c]))) 0 0).fst)):FC Tryz.prog 103 [.agg [.sq p,.lit (.int .i64 a),.lit (.int .i64 b),.lit (.int .i64 c)]] (aI ((zbb (svs (List.take 2 [j.take d,l.take f]) (vl (List.take 1 [a])) (vl (List.take 1 [c]))) 0 0).fst-(zbb (svs (List.take 2 [j.take d,l.take f]) (vl (List.take 1 [b])) (vl (List.take 1 [c]))) 0 0).fst)):=fZ ziw 60 [0] (.c (beq_false_of_ne h1)<|.v [1,3,4,5] [] hL1<|.c h3<|.c h4<|.v [1,6] [3] hL2<|.c h6<|.c h7<|.c h8<|.c h9<|.c h10<|.c h11<|.i h12<|.s (rro_3_s0 p a b c d f g j l)<|.s (rro_3_s1 p a b c d f g j l)<|.s (rro_3_s2 p a b c d f g j l)<|.s (rro_3_s3 p a b c d f g j l)<|.s (rro_3_s4 p a b c d f g j l)<|.s (rro_3_s5 p a b c d f g j l)<|.s (rro_3_s6 p a b c d f g j l)<|.s (rro_3_s7 p a b c d f g j l)<|.s (rro_3_s8 p a b c d f g j l)<|.s (rro_3_s9 p a b c d f g j l)<|.s (rro_3_s10 p a b c d f g j l)<|.s (rro_3_s11 p a b c d f g j l)<|.s (rro_3_s12 p a b c d f g j l)<|.s (rro_3_s13 p a b c d f g j l)<|.e) [1,0,2,3,4,0,5,6,7,8,9,6,10,8,11,12,6,10,8,11,12,13,6,7,8,9,6,10,8,11,12,6,7,8,9,6,10,8,11,12,13,6,7,8,9,6,10,8,11,12,6,7,8,9,6,10,8,11,12,14,13,13,6,7,8,9,6,10,8,11,12,6,7,8,9,6,10,8,11,12,15,6,7,8,9,6,10,8,11,12,15,6,7,8,9,6,10,8,11,12,6,7,8,9,6,10,8,11,12,16,6,7,8,9,6,10,8,11,12,16,13,13,6,7,8,9,6,10,8,11,12,6,10,8,11,12,17,6,7,8,9,6,10,8,11,12,6,7,8,9,6,10,8,11,12,17,6,7,8,9,6,10,8,11,12,6,7,8,9,6,10,8,11,12,18,17,17,6,7,8,9,6,10,8,11,12,6,7,8,9,6,10,8,11,12,19,6,7,8,9,6,10,8,11,12,19,6,7,8,9,6,10,8,11,12,6,7,8,9,6,10,8,11,12,20,6,7,8,9,6,10,8,11,12,20,17,17,6,7,8,9,6,10,8,11,12,6,7,8,9,6,10,8,11,12,21,6,7,8,9,6,10,8,11,12,21,6,7,8,9,6,10,8,11,12,6,7,8,9,6,10,8,11,12,22,6,7,8,9,6,10,8,11,12,22,6,7,8,9,6,10,8,11,12,6,7,8,9,6,10,8,11,12,23,21,21,6,7,8,9,6,10,8,11,12,6,7,8,9,6,10,8,11,12,24,6,7,8,9,6,10,8,11,12,24,6,7,8,9,6,10,8,11,12,6,7,8,9,6,10,8,11,12,25,6,7,8,9,6,10,8,11,12,25,6,7,8,9,6,10,8,11,12,6,7,8,9,6,10,8,11,12,26,24,24,13,13,13]
abbrev BZ (a:Int) (b:Int) (c:Int) (j:Nat) (l:List (List (List Int))):AV:=aI ((zbb (svs (l.take j) (vl (List.take 1 [a])) (vl (List.take 1 [c]))) 0 0).fst-(zbb (svs (l.take j) (vl (List.take 1 [b])) (vl (List.take 1 [c]))) 0 0).fst)
abbrev zaB (a:Int) (c:Int) (j:Nat) (l:List (List (List Int))):AV:=aI (zbb (svs (l.take j) (vl (List.take 1 [a])) (vl (List.take 1 [c]))) 0 0).fst
abbrev zaC (b:Int) (c:Int) (j:Nat) (l:List (List (List Int))):AV:=aI (zbb (svs (l.take j) (vl (List.take 1 [b])) (vl (List.take 1 [c]))) 0 0).fst
abbrev zaD (l:List (List (List Int))):Row:=.lst (EK.sl (EK.sl (.int .i64))) l false
abbrev zaE (p:List Int) (a:Int) (b:Int) (c:Int):Row:=.flat [.sq p,aI a,aI b,aI c] true
abbrev zaF (g:List (List Int)):Row:=.lst (EK.sl (.int .i64)) g false
abbrev zaG (i:List (List Int)):Row:=.lst (EK.sl (.int .i64)) i false
abbrev CZ (c:Int):Row:=.ints [c] false
abbrev zaH:AV:=.own 5 0 1 1
abbrev zaI:AV:=.own 6 0 1 1
abbrev zac:AV:=.own 7 0 1 1
abbrev zad:AV:=.own 8 0 1 1
abbrev rro_4_s0 (p:List Int) (a b c:Int) (d e:Nat) (f:Int) (g i:List (List Int)) (j:Nat) (l:List (List (List Int))):St:=⟨sp 121 [(1,.ref 0 0),(2,(BZ a b c j l)),(6,.own 4 0 j 1),(104,.own 4 0 j 1),(105,.ref 0 1),(106,aI a),(107,zaH),(108,.ref 0 3),(109,aI c),(110,zaI),(111,(zaB a c j l)),(112,.own 4 0 j 1),(113,.ref 0 2),(114,aI b),(115,zac),(116,.ref 0 3),(117,aI c),(118,zad),(119,(zaC b c j l)),(120,(BZ a b c j l))],[(zaE p a b c),(zaF g),(zaG i),.dead,(zaD l),.ints [a] false,(CZ c),.ints [b] false,(CZ c)],[3]⟩
abbrev rro_4_s1 (p:List Int) (a b c:Int) (d e:Nat) (f:Int) (g i:List (List Int)) (j:Nat) (l:List (List (List Int))):St:=⟨sp 121 [(1,.ref 0 0),(2,(BZ a b c j l)),(6,.own 4 0 j 1),(104,.own 4 0 j 1),(105,.ref 0 1),(106,aI a),(107,zaH),(108,.ref 0 3),(109,aI c),(110,zaI),(111,(zaB a c j l)),(112,.own 4 0 j 1),(113,.ref 0 2),(114,aI b),(115,zad),(116,.ref 0 3),(117,aI c),(118,zac),(119,(zaC b c j l)),(120,(BZ a b c j l))],[(zaE p a b c),(zaF g),(zaG i),.dead,(zaD l),.ints [a] false,(CZ c),(CZ c),.ints [b] false],[3]⟩
abbrev rro_4_s2 (p:List Int) (a b c:Int) (d e:Nat) (f:Int) (g i:List (List Int)) (j:Nat) (l:List (List (List Int))):St:=⟨sp 121 [(1,.ref 0 0),(2,(BZ a b c j l)),(6,.own 4 0 j 1),(104,.own 4 0 j 1),(105,.ref 0 1),(106,aI a),(107,zaH),(108,.ref 0 3),(109,aI c),(110,zac),(111,(zaB a c j l)),(112,.own 4 0 j 1),(113,.ref 0 2),(114,aI b),(115,zaI),(116,.ref 0 3),(117,aI c),(118,zad),(119,(zaC b c j l)),(120,(BZ a b c j l))],[(zaE p a b c),(zaF g),(zaG i),.dead,(zaD l),.ints [a] false,.ints [b] false,(CZ c),(CZ c)],[3]⟩
abbrev rro_4_s3 (p:List Int) (a b c:Int) (d e:Nat) (f:Int) (g i:List (List Int)) (j:Nat) (l:List (List (List Int))):St:=⟨sp 121 [(1,.ref 0 0),(2,(BZ a b c j l)),(6,.own 4 0 j 1),(104,.own 4 0 j 1),(105,.ref 0 1),(106,aI a),(107,zaH),(108,.ref 0 3),(109,aI c),(110,zac),(111,(zaB a c j l)),(112,.own 4 0 j 1),(113,.ref 0 2),(114,aI b),(115,zad),(116,.ref 0 3),(117,aI c),(118,zaI),(119,(zaC b c j l)),(120,(BZ a b c j l))],[(zaE p a b c),(zaF g),(zaG i),.dead,(zaD l),.ints [a] false,(CZ c),(CZ c),.ints [b] false],[3]⟩
abbrev rro_4_s4 (p:List Int) (a b c:Int) (d e:Nat) (f:Int) (g i:List (List Int)) (j:Nat) (l:List (List (List Int))):St:=⟨sp 121 [(1,.ref 0 0),(2,(BZ a b c j l)),(6,.own 4 0 j 1),(104,.own 4 0 j 1),(105,.ref 0 1),(106,aI a),(107,zaI),(108,.ref 0 3),(109,aI c),(110,zaH),(111,(zaB a c j l)),(112,.own 4 0 j 1),(113,.ref 0 2),(114,aI b),(115,zac),(116,.ref 0 3),(117,aI c),(118,zad),(119,(zaC b c j l)),(120,(BZ a b c j l))],[(zaE p a b c),(zaF g),(zaG i),.dead,(zaD l),(CZ c),.ints [a] false,.ints [b] false,(CZ c)],[3]⟩
abbrev rro_4_s5 (p:List Int) (a b c:Int) (d e:Nat) (f:Int) (g i:List (List Int)) (j:Nat) (l:List (List (List Int))):St:=⟨sp 121 [(1,.ref 0 0),(2,(BZ a b c j l)),(6,.own 4 0 j 1),(104,.own 4 0 j 1),(105,.ref 0 1),(106,aI a),(107,zaI),(108,.ref 0 3),(109,aI c),(110,zaH),(111,(zaB a c j l)),(112,.own 4 0 j 1),(113,.ref 0 2),(114,aI b),(115,zad),(116,.ref 0 3),(117,aI c),(118,zac),(119,(zaC b c j l)),(120,(BZ a b c j l))],[(zaE p a b c),(zaF g),(zaG i),.dead,(zaD l),(CZ c),.ints [a] false,(CZ c),.ints [b] false],[3]⟩
abbrev rro_4_s6 (p:List Int) (a b c:Int) (d e:Nat) (f:Int) (g i:List (List Int)) (j:Nat) (l:List (List (List Int))):St:=⟨sp 121 [(1,.ref 0 0),(2,(BZ a b c j l)),(6,.own 4 0 j 1),(104,.own 4 0 j 1),(105,.ref 0 1),(106,aI a),(107,zac),(108,.ref 0 3),(109,aI c),(110,zaH),(111,(zaB a c j l)),(112,.own 4 0 j 1),(113,.ref 0 2),(114,aI b),(115,zaI),(116,.ref 0 3),(117,aI c),(118,zad),(119,(zaC b c j l)),(120,(BZ a b c j l))],[(zaE p a b c),(zaF g),(zaG i),.dead,(zaD l),(CZ c),.ints [b] false,.ints [a] false,(CZ c)],[3]⟩
abbrev rro_4_s7 (p:List Int) (a b c:Int) (d e:Nat) (f:Int) (g i:List (List Int)) (j:Nat) (l:List (List (List Int))):St:=⟨sp 121 [(1,.ref 0 0),(2,(BZ a b c j l)),(6,.own 4 0 j 1),(104,.own 4 0 j 1),(105,.ref 0 1),(106,aI a),(107,zac),(108,.ref 0 3),(109,aI c),(110,zaH),(111,(zaB a c j l)),(112,.own 4 0 j 1),(113,.ref 0 2),(114,aI b),(115,zad),(116,.ref 0 3),(117,aI c),(118,zaI),(119,(zaC b c j l)),(120,(BZ a b c j l))],[(zaE p a b c),(zaF g),(zaG i),.dead,(zaD l),(CZ c),(CZ c),.ints [a] false,.ints [b] false],[3]⟩
abbrev rro_4_s8 (p:List Int) (a b c:Int) (d e:Nat) (f:Int) (g i:List (List Int)) (j:Nat) (l:List (List (List Int))):St:=⟨sp 121 [(1,.ref 0 0),(2,(BZ a b c j l)),(6,.own 4 0 j 1),(104,.own 4 0 j 1),(105,.ref 0 1),(106,aI a),(107,zaI),(108,.ref 0 3),(109,aI c),(110,zac),(111,(zaB a c j l)),(112,.own 4 0 j 1),(113,.ref 0 2),(114,aI b),(115,zaH),(116,.ref 0 3),(117,aI c),(118,zad),(119,(zaC b c j l)),(120,(BZ a b c j l))],[(zaE p a b c),(zaF g),(zaG i),.dead,(zaD l),.ints [b] false,.ints [a] false,(CZ c),(CZ c)],[3]⟩
abbrev rro_4_s9 (p:List Int) (a b c:Int) (d e:Nat) (f:Int) (g i:List (List Int)) (j:Nat) (l:List (List (List Int))):St:=⟨sp 121 [(1,.ref 0 0),(2,(BZ a b c j l)),(6,.own 4 0 j 1),(104,.own 4 0 j 1),(105,.ref 0 1),(106,aI a),(107,zac),(108,.ref 0 3),(109,aI c),(110,zaI),(111,(zaB a c j l)),(112,.own 4 0 j 1),(113,.ref 0 2),(114,aI b),(115,zaH),(116,.ref 0 3),(117,aI c),(118,zad),(119,(zaC b c j l)),(120,(BZ a b c j l))],[(zaE p a b c),(zaF g),(zaG i),.dead,(zaD l),.ints [b] false,(CZ c),.ints [a] false,(CZ c)],[3]⟩
abbrev rro_4_s10 (p:List Int) (a b c:Int) (d e:Nat) (f:Int) (g i:List (List Int)) (j:Nat) (l:List (List (List Int))):St:=⟨sp 121 [(1,.ref 0 0),(2,(BZ a b c j l)),(6,.own 4 0 j 1),(104,.own 4 0 j 1),(105,.ref 0 1),(106,aI a),(107,zac),(108,.ref 0 3),(109,aI c),(110,zad),(111,(zaB a c j l)),(112,.own 4 0 j 1),(113,.ref 0 2),(114,aI b),(115,zaH),(116,.ref 0 3),(117,aI c),(118,zaI),(119,(zaC b c j l)),(120,(BZ a b c j l))],[(zaE p a b c),(zaF g),(zaG i),.dead,(zaD l),.ints [b] false,(CZ c),.ints [a] false,(CZ c)],[3]⟩
abbrev rro_4_s11 (p:List Int) (a b c:Int) (d e:Nat) (f:Int) (g i:List (List Int)) (j:Nat) (l:List (List (List Int))):St:=⟨sp 121 [(1,.ref 0 0),(2,(BZ a b c j l)),(6,.own 4 0 j 1),(104,.own 4 0 j 1),(105,.ref 0 1),(106,aI a),(107,zaI),(108,.ref 0 3),(109,aI c),(110,zac),(111,(zaB a c j l)),(112,.own 4 0 j 1),(113,.ref 0 2),(114,aI b),(115,zad),(116,.ref 0 3),(117,aI c),(118,zaH),(119,(zaC b c j l)),(120,(BZ a b c j l))],[(zaE p a b c),(zaF g),(zaG i),.dead,(zaD l),(CZ c),.ints [a] false,(CZ c),.ints [b] false],[3]⟩
abbrev rro_4_s12 (p:List Int) (a b c:Int) (d e:Nat) (f:Int) (g i:List (List Int)) (j:Nat) (l:List (List (List Int))):St:=⟨sp 121 [(1,.ref 0 0),(2,(BZ a b c j l)),(6,.own 4 0 j 1),(104,.own 4 0 j 1),(105,.ref 0 1),(106,aI a),(107,zac),(108,.ref 0 3),(109,aI c),(110,zaI),(111,(zaB a c j l)),(112,.own 4 0 j 1),(113,.ref 0 2),(114,aI b),(115,zad),(116,.ref 0 3),(117,aI c),(118,zaH),(119,(zaC b c j l)),(120,(BZ a b c j l))],[(zaE p a b c),(zaF g),(zaG i),.dead,(zaD l),(CZ c),(CZ c),.ints [a] false,.ints [b] false],[3]⟩
abbrev rro_4_s13 (p:List Int) (a b c:Int) (d e:Nat) (f:Int) (g i:List (List Int)) (j:Nat) (l:List (List (List Int))):St:=⟨sp 121 [(1,.ref 0 0),(2,(BZ a b c j l)),(6,.own 4 0 j 1),(104,.own 4 0 j 1),(105,.ref 0 1),(106,aI a),(107,zac),(108,.ref 0 3),(109,aI c),(110,zad),(111,(zaB a c j l)),(112,.own 4 0 j 1),(113,.ref 0 2),(114,aI b),(115,zaI),(116,.ref 0 3),(117,aI c),(118,zaH),(119,(zaC b c j l)),(120,(BZ a b c j l))],[(zaE p a b c),(zaF g),(zaG i),.dead,(zaD l),(CZ c),.ints [b] false,.ints [a] false,(CZ c)],[3]⟩
theorem rro_4 (p:List Int) (a b c:Int) (d f:Nat) (g:Int) (j l:List (List Int)) (m:Nat) (n:List (List (List Int))) (h1:(p.length:Int)≠2) (hL1:zdt (zfw p a b c) (Ex.exit 0,(zcP p a b c d f g j l))) (h3:d≤j.length) (h4:f≤l.length) (hL2:zfB (zgR p a b c j l ([j.take d,l.take f])) (Ex.exit 2,(zfD p a b c j l ([j.take d,l.take f]) m n))) (h6:m≤n.length) (h7:1≤List.length [a]) (h8:1≤List.length [c]) (h9:pCh (n.take m) (List.take 1 [a]) (List.take 1 [c])) (h10:1≤List.length [b]) (h11:pCh (n.take m) (List.take 1 [b]) (List.take 1 [c])) (h12:r64 ((zbb (svs (n.take m) (vl (List.take 1 [a])) (vl (List.take 1 [c]))) 0 0).fst-(zbb (svs (n.take m) (vl (List.take 1 [b])) (vl (List.take 1 [c]))) 0 0).fst)):FC Tryz.prog 103 [.agg [.sq p,.lit (.int .i64 a),.lit (.int .i64 b),.lit (.int .i64 c)]] (aI ((zbb (svs (n.take m) (vl (List.take 1 [a])) (vl (List.take 1 [c]))) 0 0).fst-(zbb (svs (n.take m) (vl (List.take 1 [b])) (vl (List.take 1 [c]))) 0 0).fst)):=fZ ziw 60 [0] (.c (beq_false_of_ne h1)<|.v [1,3,4,5] [] hL1<|.c h3<|.c h4<|.v [1,6] [3] hL2<|.c h6<|.c h7<|.c h8<|.c h9<|.c h10<|.c h11<|.i h12<|.s (rro_4_s0 p a b c d f g j l m n)<|.s (rro_4_s1 p a b c d f g j l m n)<|.s (rro_4_s2 p a b c d f g j l m n)<|.s (rro_4_s3 p a b c d f g j l m n)<|.s (rro_4_s4 p a b c d f g j l m n)<|.s (rro_4_s5 p a b c d f g j l m n)<|.s (rro_4_s6 p a b c d f g j l m n)<|.s (rro_4_s7 p a b c d f g j l m n)<|.s (rro_4_s8 p a b c d f g j l m n)<|.s (rro_4_s9 p a b c d f g j l m n)<|.s (rro_4_s10 p a b c d f g j l m n)<|.s (rro_4_s11 p a b c d f g j l m n)<|.s (rro_4_s12 p a b c d f g j l m n)<|.s (rro_4_s13 p a b c d f g j l m n)<|.e) [1,0,2,3,4,0,5,6,7,8,9,6,10,8,11,12,6,10,8,11,12,13,6,7,8,9,6,10,8,11,12,6,7,8,9,6,10,8,11,12,13,6,7,8,9,6,10,8,11,12,6,7,8,9,6,10,8,11,12,14,13,13,6,7,8,9,6,10,8,11,12,6,7,8,9,6,10,8,11,12,15,6,7,8,9,6,10,8,11,12,15,6,7,8,9,6,10,8,11,12,6,7,8,9,6,10,8,11,12,16,6,7,8,9,6,10,8,11,12,16,13,13,6,7,8,9,6,10,8,11,12,6,10,8,11,12,17,6,7,8,9,6,10,8,11,12,6,7,8,9,6,10,8,11,12,17,6,7,8,9,6,10,8,11,12,6,7,8,9,6,10,8,11,12,18,17,17,6,7,8,9,6,10,8,11,12,6,7,8,9,6,10,8,11,12,19,6,7,8,9,6,10,8,11,12,19,6,7,8,9,6,10,8,11,12,6,7,8,9,6,10,8,11,12,20,6,7,8,9,6,10,8,11,12,20,17,17,6,7,8,9,6,10,8,11,12,6,7,8,9,6,10,8,11,12,21,6,7,8,9,6,10,8,11,12,21,6,7,8,9,6,10,8,11,12,6,7,8,9,6,10,8,11,12,22,6,7,8,9,6,10,8,11,12,22,6,7,8,9,6,10,8,11,12,6,7,8,9,6,10,8,11,12,23,21,21,6,7,8,9,6,10,8,11,12,6,7,8,9,6,10,8,11,12,24,6,7,8,9,6,10,8,11,12,24,6,7,8,9,6,10,8,11,12,6,7,8,9,6,10,8,11,12,25,6,7,8,9,6,10,8,11,12,25,6,7,8,9,6,10,8,11,12,6,7,8,9,6,10,8,11,12,26,24,24,13,13,13]
end
noncomputable section
end
open Go.Kf
def zaW (p:List Int):List (List Int):=p.map fun x=>[x]
def zbi (p:List Int):List (List Int):=(List.range (p.length-1)).map fun j=>[((j+1:Nat):Int)*p.getD (j+1) 0]
theorem zn1 (x:Int):vl [x]=x:=by simp [vl]
theorem zed (p:List Int):(zaW p).length=p.length:=by simp [zaW]
theorem zce (p:List Int):(zbi p).length=p.length-1:=by simp [zbi]
theorem vls_sing (p:List Int):vls (zaW p)=p:=by
  unfold vls zaW
  rw [List.map_map]
  conv=>rhs;rw [← List.map_id p]
  apply List.map_congr_left
  intro x _
  exact zn1 x
theorem vls_derR (p:List Int):vls (zbi p)=der p:=by
  unfold vls zbi der
  rw [List.map_map]
  apply List.map_congr_left
  intro i _
  show vl [_]=_
  rw [zn1,Int.mul_comm]
theorem zkd {p:List Int} {i:Nat} (h:i<p.length):(zaW p).getD i []=[p.getD i 0]:=by
  unfold zaW
  simp [List.getD,h]
theorem znf {p:List Int} {i:Nat} (h:i+1<p.length):(zbi p).getD i []=[((i+1:Nat):Int)*p.getD (i+1) 0]:=by
  unfold zbi
  rw [List.getD_eq_getElem?_getD,List.getElem?_map,List.getElem?_range (by omega)];rfl
theorem zdn {l:List (List Int)} {k:Nat} (h:k<l.length):List.take k (List.take k l)++List.take 1 [l.getD k []]=l.take (k+1):=by
  rw [List.take_take,Nat.min_self,List.take_succ_eq_append_getElem h]
  simp [List.getD,h]
theorem zlM {p:List Int} (h:zdd p) (a b c:Int):∀(m i:Nat),i+m=p.length→2≤i →
    zdt (zfx p a b c i (i-1) i ((zaW p).take i) ((zbi p).take (i-1))) (Ex.exit 0,zcP p a b c p.length (p.length-1) p.length (zaW p) (zbi p))
  | 0,i,hi,h2=>by
    obtain rfl:i=p.length:=by omega
    have:=zpV p a b c p.length (p.length-1) p.length ((zaW p).take p.length) ((zbi p).take (p.length-1)) (by omega)
    rw [show(zaW p).take p.length=zaW p by rw [← zed,List.take_length],show(zbi p).take (p.length-1)=zbi p by rw [← zce,List.take_length]] at this ⊢
    exact this
  | m + 1,i,hi,h2=>by
    have hlt:i<p.length:=by omega
    have hl:=h.2.1
    obtain ⟨j,rfl⟩:∃j,i=j+1:=⟨i-1,by omega⟩
    have ih:=zlM h a b c m (j+1+1) (by omega) (by omega)
    have s1:=zed p
    have s2:=zce p
    have hg:=zeT h.2.2 (j+1)
    have hm:=zla (a:=((j+1:Nat):Int)) (b:=p.getD (j+1) 0) (A:=5) (B:=1000) (by omega) hg
    have e1:Int.toNat ((j+1:Nat):Int)=j+1:=rfl
    have go:=@zpU p a b c (j+1) j ((j+1:Nat):Int) ((zaW p).take (j+1)) ((zbi p).take j) (by omega) (by omega) (by rw [e1];omega) (by simp) (by simp) (by simp;omega) (by simp;omega) (by rw [List.length_take];omega) (by omega) (by rw [e1];omega) (by simp) (by simp) (by simp;omega) (by simp;omega) (by rw [List.length_take];omega) (by omega)
      (Ex.exit 0,zcP p a b c p.length (p.length-1) p.length (zaW p) (zbi p))
    rw [e1] at go
    rw [show List.take 1 [List.take 1 [p.getD (j+1) 0]]=List.take 1 [(zaW p).getD (j+1) []] by rw [zkd hlt];rfl,zdn (by omega),
      show List.take 1 [List.take 1 [((j+1:Nat):Int)*p.getD (j+1) 0]]=List.take 1 [(zbi p).getD j []] by rw [znf hlt];rfl,zdn (by omega)] at go
    exact go ih
theorem rro0 {p:List Int} (h:zdd p) (a b c:Int):zdt (zfw p a b c) (Ex.exit 0,zcP p a b c p.length (p.length-1) p.length (zaW p) (zbi p)):=by
  have hl:=h.1
  have hl5:=h.2.1
  have hg:=zeT h.2.2 1
  have k:=zlM h a b c (p.length-2) 2 (by omega) (by omega)
  have s1:=zed p
  have s2:=zce p
  have e1:List.take 1 [[p.getD 0 0]]++List.take 1 [List.take 1 [p.getD 1 0]]=(zaW p).take 2:=by
    have:=zdn (l:=zaW p) (k:=1) (by omega)
    rw [zkd (by omega)] at this
    have t0:=zdn (l:=zaW p) (k:=0) (by omega)
    rw [zkd (by omega)] at t0
    rw [← this,← t0];rfl
  have e2:[[1*p.getD 1 0]]=(zbi p).take 1:=by
    have t0:=zdn (l:=zbi p) (k:=0) (by omega)
    rw [znf (by omega)] at t0
    rw [← t0];rfl
  refine zpS p a b c (by omega) (by omega) (by simp) (by simp) (by simp) (by simp) (by simp) ?_
  refine zpT p a b c [[p.getD 0 0]] (by omega) (by omega) (by simp) (by simp) (by simp) (by simp) (by simp) (by omega) (by simp) (by simp) (by simp) (by simp) (by simp) ?_
  rw [e1,e2]
  exact k
def ngL (q:List (List Int)):List (List Int):=q.map fun l=>aZ (-(vl l))
theorem zdI (q:List (List Int)):(ngL q).length=q.length:=by simp [ngL]
theorem zjK {q:List (List Int)} {i:Nat} (h:i<q.length):(ngL q).getD i []=aZ (-(vl (q.getD i []))):=by
  unfold ngL;simp [List.getD,h]
theorem LB_loop {q:List (List Int)} (hq:∀l∈q,pX l) (hl:q.length≤1000) (x:List Int) (a b c:Int) (l1 l2:List (List Int)) (l3:List (List (List Int))):∀(m i:Nat),i+m=q.length→1≤i →
    zfy (zfz q x a b c l1 l2 l3 i i ((ngL q).take i)) (Ex.exit 4,zdX q x a b c l1 l2 l3 q.length q.length (ngL q))
  | 0,i,hi,_=>by
    obtain rfl:i=q.length:=by omega
    have:=zpY q x a b c l1 l2 l3 q.length q.length ((ngL q).take q.length) (by omega)
    rw [show(ngL q).take q.length=ngL q by rw [← zdI,List.take_length]] at this ⊢
    exact this
  | m+1,i,hi,h1=>by
    have hlt:i<q.length:=by omega
    have hn:=zdI q
    have ih:=LB_loop hq hl x a b c l1 l2 l3 m (i+1) (by omega) (by omega)
    have e1:Int.toNat (i:Int)=i:=rfl
    have hg:q.getD i []=q[i]:=by simp [List.getD,hlt]
    have hp:pX (q.getD i []):=by rw [hg];exact hq _ (List.getElem_mem hlt)
    have go:=@zpX q x a b c l1 l2 l3 i i ((ngL q).take i) (by omega) (by omega) hp (by simp) (by simp;omega) (by simp;omega) (by rw [List.length_take];omega) (by omega) (Ex.exit 4,zdX q x a b c l1 l2 l3 q.length q.length (ngL q))
    rw [e1] at go
    rw [show List.take 1 [aZ (-vl (q.getD i (EK.dflt (EK.sl (EK.int IntKind.i64)))))]=List.take 1 [(ngL q).getD i []] by rw [zjK hlt];rfl,zdn (by omega)] at go
    exact go ih
theorem LB_all {q:List (List Int)} (hq:∀l∈q,pX l) (hl:q.length≤1000) (h0:1≤q.length) (x:List Int) (a b c:Int) (l1 l2:List (List Int)) (l3:List (List (List Int))) :
    zfy (zgQ q x a b c l1 l2 l3) (Ex.exit 4,zdX q x a b c l1 l2 l3 q.length q.length (ngL q)):=by
  have k:=LB_loop hq hl x a b c l1 l2 l3 (q.length-1) 1 (by omega) (by omega)
  have hg:q.getD 0 []=q[0]:=by rw [List.getD_eq_getElem?_getD,List.getElem?_eq_getElem (by omega)];rfl
  have hp:pX (q.getD 0 []):=by rw [hg];exact hq _ (List.getElem_mem (by omega))
  have e:[aZ (-vl (q.getD 0 []))]=(ngL q).take 1:=by
    have hn:=zdI q
    have t0:=zdn (l:=ngL q) (k:=0) (by omega)
    rw [zjK (by omega)] at t0
    rw [← t0];rfl
  refine zpW q x a b c l1 l2 l3 (by omega) hp (by simp) (by simp) (by simp) (by simp) ?_
  rw [← e] at k
  exact k
theorem LC_loop {n:Nat} {q:List (List Int)} (hq:∀l∈q,pX l) (hl:q.length≤1000) (x:List Int) (a b c:Int) (l1 l2:List (List Int)) (l3:List (List (List Int))):∀(m i:Nat),i+m=q.length→1≤i →
    zgn (zfA n q x a b c l1 l2 l3 i i ((ngL q).take i)) (Ex.exit 4,zdY n q x a b c l1 l2 l3 q.length q.length (ngL q))
  | 0,i,hi,_=>by
    obtain rfl:i=q.length:=by omega
    have:=zp1 n q x a b c l1 l2 l3 q.length q.length ((ngL q).take q.length) (by omega)
    rw [show(ngL q).take q.length=ngL q by rw [← zdI,List.take_length]] at this ⊢
    exact this
  | m+1,i,hi,h1=>by
    have hlt:i<q.length:=by omega
    have hn:=zdI q
    have ih:=LC_loop (n:=n) hq hl x a b c l1 l2 l3 m (i+1) (by omega) (by omega)
    have e1:Int.toNat (i:Int)=i:=rfl
    have hg:q.getD i []=q[i]:=by simp [List.getD,hlt]
    have hp:pX (q.getD i []):=by rw [hg];exact hq _ (List.getElem_mem hlt)
    have go:=@zp0 n q x a b c l1 l2 l3 i i ((ngL q).take i) (by omega) (by omega) hp (by simp) (by simp;omega) (by simp;omega) (by rw [List.length_take];omega) (by omega) (Ex.exit 4,zdY n q x a b c l1 l2 l3 q.length q.length (ngL q))
    rw [e1] at go
    rw [show List.take 1 [aZ (-vl (q.getD i (EK.dflt (EK.sl (EK.int IntKind.i64)))))]=List.take 1 [(ngL q).getD i []] by rw [zjK hlt];rfl,zdn (by omega)] at go
    exact go ih
theorem LC_all {n:Nat} {q:List (List Int)} (hq:∀l∈q,pX l) (hl:q.length≤1000) (h0:1≤q.length) (x:List Int) (a b c:Int) (l1 l2:List (List Int)) (l3:List (List (List Int))) :
    zgn (zka n q x a b c l1 l2 l3) (Ex.exit 4,zdY n q x a b c l1 l2 l3 q.length q.length (ngL q)):=by
  have k:=LC_loop (n:=n) hq hl x a b c l1 l2 l3 (q.length-1) 1 (by omega) (by omega)
  have hg:q.getD 0 []=q[0]:=by rw [List.getD_eq_getElem?_getD,List.getElem?_eq_getElem (by omega)];rfl
  have hp:pX (q.getD 0 []):=by rw [hg];exact hq _ (List.getElem_mem (by omega))
  have e:[aZ (-vl (q.getD 0 []))]=(ngL q).take 1:=by
    have hn:=zdI q
    have t0:=zdn (l:=ngL q) (k:=0) (by omega)
    rw [zjK (by omega)] at t0
    rw [← t0];rfl
  refine zpZ n q x a b c l1 l2 l3 (by omega) hp (by simp) (by simp) (by simp) (by simp) ?_
  rw [← e] at k
  exact k
def bd:Nat→Nat
  | 0=>1
  | 1=>1
  | 2=>64
  | 3=>556
  | _=>3433
structure RInv (i:Nat) (a b:List (List Int)):Prop where
  i3:i≤3
  la:a.length≤5-i
  lb:b.length≤4-i
  b1:1≤b.length
  sa:∀l∈a,pQ (bd i) l
  sb:∀l∈b,pQ (bd (i+1)) l
theorem RInv.bnd {i:Nat} {a b:List (List Int)} (h:RInv i a b):bd i+a.length*(2*bd (i+1)+10)≤89000∧bd (i+1)≤40000∧(i≤2→bd i+a.length*(2*bd (i+1)+10)+3≤bd (i+2)):=by
  obtain ⟨i3,la,lb,b1,sa,sb⟩:=h
  have hm:bd i+a.length*(2*bd (i+1)+10)≤bd i+(5-i)*(2*bd (i+1)+10):=Nat.add_le_add_left (Nat.mul_le_mul_right _ la) _
  have hi:i=0∨i=1∨i=2∨i=3:=by omega
  refine ⟨Nat.le_trans hm ?_,?_,fun h2=>Nat.le_trans (Nat.add_le_add_right hm 3) ?_⟩
  · rcases hi with rfl | rfl | rfl | rfl<;>decide
  · rcases hi with rfl | rfl | rfl | rfl<;>decide
  · have hi:i=0∨i=1∨i=2:=by omega
    rcases hi with rfl | rfl | rfl<;>decide
theorem RInv.re {i:Nat} {a b:List (List Int)} (h:RInv i a b):pRe a b:=by
  have hb:=h.bnd
  obtain ⟨i3,la,lb,b1,sa,sb⟩:=h
  exact ⟨⟨bd i,bd (i+1),sa,sb,hb.1,hb.2.1⟩,by omega,b1,by omega⟩
theorem RInv.facts {i:Nat} {a b:List (List Int)} (h:RInv i a b):(rsT b a.length a).length<b.length∧∀l∈rsT b a.length a,pQ (bd i+a.length*(2*bd (i+1)+10)) l:=by
  have hb:=h.bnd
  obtain ⟨i3,la,lb,b1,sa,sb⟩:=h
  obtain ⟨_,i2,i3,i4⟩:=rre_l2 (n6:=0) (lr:=[]) b1 (by omega) sb a.length a (bd i) (Nat.le_refl _) (by omega) sa hb.1 hb.2.1
  exact ⟨i4,i2⟩
theorem RInv.px {i:Nat} {a b:List (List Int)} (h:RInv i a b):∀l∈rsT b a.length a,pX l:=fun l hl=>by
  have hb:=h.bnd
  exact(h.facts.2 l hl).mono (by omega)
theorem RInv.step {i:Nat} {a b:List (List Int)} (h:RInv i a b) (hne:rsT b a.length a≠[]):i≤2∧RInv (i+1) b (nxR a b):=by
  have hb:=h.bnd
  obtain ⟨f1,f2⟩:=h.facts
  obtain ⟨i3,la,lb,b1,sa,sb⟩:=h
  have hp:1≤(rsT b a.length a).length:=List.length_pos_iff.2 hne
  have hn:(nxR a b).length=(rsT b a.length a).length:=by simp [nxR]
  refine ⟨by omega,⟨by omega,by omega,by omega,by omega,sb,fun l hl=>?_⟩⟩
  unfold nxR at hl
  obtain ⟨x,hx,rfl⟩:=List.mem_map.1 hl
  exact kZ (za5 (f2 x hx)).neg (hb.2.2 (by omega))
theorem zmn {L:List (List (List Int))} {i:Nat} (h:L.length=i+2) (x:List (List Int)):(L++[x]).getD (i+1) []=L.getD (i+1) []∧(L++[x]).getD (i+2) []=x:=by
  constructor
  · simp only [List.getD_eq_getElem?_getD];rw [List.getElem?_append_left (by omega)]
  · simp only [List.getD_eq_getElem?_getD];rw [List.getElem?_append_right (by omega)];simp [h]
theorem LA_loop {x:List Int} {u v w:Int} {l1 l2:List (List Int)} {l3:List (List (List Int))}:∀(k i:Nat) (L:List (List (List Int))) (a b:List (List Int)),i+k=4→L.length=i+2→L.getD i []=a→L.getD (i+1) []=b→RInv i a b →
    zfB (zfC x u v w l1 l2 l3 L.length L) (Ex.exit 2,zfD x u v w l1 l2 l3 (L++chR k a b).length (L++chR k a b))
  | 0,i,L,a,b,hk,hL,ha,hb,h=>by have:=h.i3;omega
  | k + 1,i,L,a,b,hk,hL,ha,hb,h=>by
    have e1:Int.toNat ((L.length:Int)-2)=i:=by omega
    have e2:Int.toNat ((L.length:Int)-1)=i+1:=by omega
    have g1:L.getD (Int.toNat ((L.length:Int)-2)) (EK.dflt (EK.sl (EK.sl (EK.int IntKind.i64))))=a:=by rw [e1];exact ha
    have g2:L.getD (Int.toNat ((L.length:Int)-1)) (EK.dflt (EK.sl (EK.sl (EK.int IntKind.i64))))=b:=by rw [e2];exact hb
    have hre:=h.re
    unfold chR
    by_cases hne:rsT b a.length a=[]
    · rw [if_pos hne,List.append_nil]
      exact zp4 x u v w l1 l2 l3 L.length L (by omega) (by omega) (by omega) (by omega) (by omega) (by omega) (by omega) (by omega) (by rw [g1,g2];exact hre) (by rw [g1,g2,hne];rfl)
    · rw [if_neg hne]
      obtain ⟨i2,hs⟩:=h.step hne
      have hf:=h.facts.1
      have hlb:=h.lb
      obtain ⟨m1,m2⟩:=zmn hL (nxR a b)
      have ih:=LA_loop (x:=x) (u:=u) (v:=v) (w:=w) (l1:=l1) (l2:=l2) (l3:=l3) k (i+1) (L++[nxR a b]) b (nxR a b) (by omega) (by rw [List.length_append];simp;omega) (by rw [m1];exact hb) m2 hs
      have K:=LC_all (n:=L.length) h.px (by omega) (List.length_pos_iff.2 hne) x u v w l1 l2 L
      have hn:=zdI (rsT b a.length a)
      have go:=@zp5 x u v w l1 l2 l3 L.length L (rsT b a.length a).length (rsT b a.length a).length (ngL (rsT b a.length a)) (by omega) (by omega) (by omega) (by omega) (by omega) (by omega) (by omega) (by omega) (by rw [g1,g2];exact hre)
        (by rw [g1,g2];have:=List.length_pos_iff.2 hne;omega) (by rw [g1,g2];exact K) (by omega) (by simp) (by simp;omega) (by simp;omega) (Nat.le_refl _) (Ex.exit 2,zfD x u v w l1 l2 l3 (L++nxR a b :: chR k b (nxR a b)).length (L++nxR a b :: chR k b (nxR a b)))
      rw [List.take_length,show List.take (rsT b a.length a).length (ngL (rsT b a.length a))=nxR a b by rw [← hn,List.take_length];rfl] at go
      refine go ?_
      have e3:L.length+(List.take 1 [nxR a b]).length=(L++[nxR a b]).length:=by rw [List.length_append];rfl
      have e4:L++nxR a b :: chR k b (nxR a b)=(L++[nxR a b])++chR k b (nxR a b):=by rw [List.append_assoc];rfl
      rw [e3,e4]
      exact ih
theorem chR_ok:∀(k i:Nat) (a b:List (List Int)),RInv i a b→(chR k a b).length≤k∧∀q∈chR k a b,q.length≤5∧∀l∈q,pQ 3433 l
  | 0,_,_,_,_=>⟨Nat.le_refl _,fun _ h=>by cases h⟩
  | k + 1,i,a,b,h=>by
    unfold chR
    by_cases hne:rsT b a.length a=[]
    · rw [if_pos hne];exact ⟨Nat.zero_le _,fun _ h=>by cases h⟩
    · rw [if_neg hne]
      obtain ⟨i2,hs⟩:=h.step hne
      obtain ⟨c1,c2⟩:=chR_ok k (i+1) b (nxR a b) hs
      refine ⟨by simp only [List.length_cons];omega,fun q hq=>?_⟩
      rcases List.mem_cons.1 hq with rfl | hq
      · refine ⟨by have:=hs.lb;omega,fun l hl=>(hs.sb l hl).mono ?_⟩
        have hi:i=0∨i=1∨i=2:=by omega
        rcases hi with rfl | rfl | rfl<;>decide
      · exact c2 q hq
theorem rinv0 {p:List Int} (h:zdd p):RInv 0 (zaW p) (zbi p):=by
  obtain ⟨h2,h5,ha⟩:=h
  refine ⟨by omega,by rw [zed];omega,by rw [zce];omega,by rw [zce];omega,fun l hl=>?_,fun l hl=>?_⟩
  · unfold zaW at hl
    obtain ⟨x,hx,rfl⟩:=List.mem_map.1 hl
    have:=ha x hx
    exact ⟨by simp [bd],fun d hd=>by simp at hd;subst hd;exact flB this⟩
  · unfold zbi at hl
    obtain ⟨i,hi,rfl⟩:=List.mem_map.1 hl
    have hi:=List.mem_range.1 hi
    have g:=zeT ha (i+1)
    have m:=zla (a:=((i+1:Nat):Int)) (b:=p.getD (i+1) 0) (A:=5) (B:=1000) (by omega) g
    exact ⟨by simp [bd],fun d hd=>by
      simp only [List.mem_cons,List.not_mem_nil,or_false] at hd;subst hd;unfold bZ;omega⟩
def zqp (p:List Int):List (List (List Int)):=zaW p :: zbi p :: chR 4 (zaW p) (zbi p)
theorem chRR_vls {p:List Int} (h:zdd p):(zqp p).map vls=chZ p:=by
  unfold zqp chZ
  rw [List.map_cons,List.map_cons,chR_vls 4 _ _ (by rw [zce];have:=h.1;omega),vls_sing,vls_derR]
theorem zmV {p:List Int} (h:zdd p) (a b:Int):svs (zqp p) a b=svZ (chZ p) a b:=by
  rw [← chRR_vls h]
  unfold svs svZ
  rw [List.map_map];rfl
theorem chRR_ok {p:List Int} (h:zdd p) {a d:Int} (ha:a.natAbs≤1000000) (hd:d.natAbs≤1000000):pCh (zqp p) [a] [d]:=by
  have hi:=rinv0 h
  obtain ⟨c1,c2⟩:=chR_ok 4 0 (zaW p) (zbi p) hi
  have one:∀z:Int,z.natAbs≤1000000→pQ 1 [z]:=fun z hz=>⟨by simp,fun e he=>by simp at he;subst he;unfold bZ;omega⟩
  have key:∀q:List (List Int),q.length≤5→(∀l∈q,pQ 3433 l)→pAt q [a] [d]:=fun q hq hl=>by
    have:q.length*(1+13)≤5*(1+13):=Nat.mul_le_mul_right _ hq
    exact ⟨3433,1,hl,one a ha,one d hd,by omega,by omega⟩
  refine ⟨fun q hq=>?_,by unfold zqp;simp only [List.length_cons];omega⟩
  unfold zqp at hq
  rcases List.mem_cons.1 hq with rfl | hq
  · exact key _ hi.la fun l hl=>(hi.sa l hl).mono (by decide)
  rcases List.mem_cons.1 hq with rfl | hq
  · exact key _ (by have:=hi.lb;omega) fun l hl=>(hi.sb l hl).mono (by decide)
  · exact key q (c2 q hq).1 (c2 q hq).2
def zhV (p:List Int) (a b d:Int):Int:=if p.length=2 then(if a≤-(p.getD 0 0)*d∧-(p.getD 0 0)*d≤b then 1 else 0) else zdr p a b d
theorem rRoots_fc (p:List Int) (a b d:Int) (h:zgj p a b d):FC Tryz.prog 103 [.agg [.sq p,.lit (.int .i64 a),.lit (.int .i64 b),.lit (.int .i64 d)]] (.lit (.int .i64 (zhV p a b d))):=by
  obtain ⟨hp,ha,hb,hd⟩:=h
  have g0:=zeT hp.2.2 0
  have m:=zla (a:=0-p.getD 0 0) (b:=d) (A:=1000) (B:=1000000) (by omega) hd
  have hl:=hp.1
  have hl5:=hp.2.1
  have e0:0-p.getD 0 0 = -(p.getD 0 0):=by omega
  unfold zhV
  by_cases h2:p.length=2
  · rw [if_pos h2]
    by_cases h3:a≤-(p.getD 0 0)*d
    · by_cases h4:-(p.getD 0 0)*d≤b
      · rw [if_pos ⟨h3,h4⟩]
        exact rro_0 p a b d (by omega) (by omega) (by omega) (by omega) (by omega) (by rw [e0];exact h3) (by rw [e0];exact h4)
      · rw [if_neg (fun k=>h4 k.2)]
        exact rro_1 p a b d (by omega) (by omega) (by omega) (by omega) (by omega) (by rw [e0];exact h3) (by rw [e0];exact h4)
    · rw [if_neg (fun k=>h3 k.1)]
      exact rro_2 p a b d (by omega) (by omega) (by omega) (by omega) (by omega) (by rw [e0];exact h3)
  · rw [if_neg h2]
    have hi:=rinv0 hp
    have hle:=zlJ hp a b d
    have ra:=chRR_ok hp ha hd
    have rb:=chRR_ok hp hb hd
    have va:=zmV hp a d
    have vb:=zmV hp b d
    have L0:=rro0 hp a b d
    have s1:List.take p.length (zaW p)=zaW p:=by rw [← zed,List.take_length]
    have s2:List.take (p.length-1) (zbi p)=zbi p:=by rw [← zce,List.take_length]
    have sl:=zed p
    have dl:=zce p
    by_cases hne:rsT (zbi p) (zaW p).length (zaW p)=[]
    · have e:zqp p=[zaW p,zbi p]:=by unfold zqp chR;rw [if_pos hne]
      unfold zdr at hle ⊢
      rw [← va,← vb,e] at hle ⊢
      rw [e] at ra rb
      have go:=rro_3 p a b d p.length (p.length-1) p.length (zaW p) (zbi p) (by omega) L0 (by omega) (by omega)
        (by rw [s1,s2];exact zp2 p a b d (zaW p) (zbi p) [zaW p,zbi p] (by simp) (by simp) hi.re (by show((rsT (zbi p) (zaW p).length (zaW p)).length:Int)=0;rw [hne];rfl))
        (by simp) (by simp) (by simp) (by rw [s1,s2];exact ra) (by simp) (by rw [s1,s2];exact rb) (by rw [s1,s2,show List.take 1 [a]=[a] from rfl,show List.take 1 [b]=[b] from rfl,show List.take 1 [d]=[d] from rfl,zn1,zn1,zn1];show r64 ((zbb (svs [zaW p,zbi p] a d) 0 0).1-(zbb (svs [zaW p,zbi p] b d) 0 0).1);omega)
      rw [s1,s2,show List.take 1 [a]=[a] from rfl,show List.take 1 [b]=[b] from rfl,show List.take 1 [d]=[d] from rfl,zn1,zn1,zn1] at go
      exact go
    · obtain ⟨i2,hs⟩:=hi.step hne
      have e:zqp p=[zaW p,zbi p,nxR (zaW p) (zbi p)]++chR 3 (zbi p) (nxR (zaW p) (zbi p)):=by
        unfold zqp
        conv=>lhs;unfold chR
        rw [if_neg hne];rfl
      have L:=LA_loop (x:=p) (u:=a) (v:=b) (w:=d) (l1:=zaW p) (l2:=zbi p) (l3:=[zaW p,zbi p]) 3 1 [zaW p,zbi p,nxR (zaW p) (zbi p)] (zbi p) (nxR (zaW p) (zbi p)) rfl rfl rfl rfl hs
      rw [← e] at L
      have hf:=hi.facts.1
      have K:=LB_all hi.px (by omega) (List.length_pos_iff.2 hne) p a b d (zaW p) (zbi p) [zaW p,zbi p]
      have hn:=zdI (rsT (zbi p) (zaW p).length (zaW p))
      have go1:=@zp3 p a b d (zaW p) (zbi p) [zaW p,zbi p] (rsT (zbi p) (zaW p).length (zaW p)).length (rsT (zbi p) (zaW p).length (zaW p)).length (ngL (rsT (zbi p) (zaW p).length (zaW p))) (by simp) (by simp) hi.re
        (by have:=List.length_pos_iff.2 hne;show((rsT (zbi p) (zaW p).length (zaW p)).length:Int)≠0;omega) K (by omega) (by simp) (by simp) (by simp) (by simp) _
        (by
          rw [show List.take (rsT (zbi p) (zaW p).length (zaW p)).length (ngL (rsT (zbi p) (zaW p).length (zaW p)))=nxR (zaW p) (zbi p) by rw [← hn,List.take_length];rfl]
          exact L)
      have go:=rro_4 p a b d p.length (p.length-1) p.length (zaW p) (zbi p) (zqp p).length (zqp p) (by omega) L0 (by omega) (by omega) (by rw [s1,s2];exact go1) (Nat.le_refl _) (by simp) (by simp) (by rw [List.take_length];exact ra) (by simp) (by rw [List.take_length];exact rb)
        (by rw [List.take_length,show List.take 1 [a]=[a] from rfl,show List.take 1 [b]=[b] from rfl,show List.take 1 [d]=[d] from rfl,zn1,zn1,zn1,va,vb];unfold zdr at hle;omega)
      rw [List.take_length,show List.take 1 [a]=[a] from rfl,show List.take 1 [b]=[b] from rfl,show List.take 1 [d]=[d] from rfl,zn1,zn1,zn1,va,vb] at go
      exact go
def zjQ (p:List Int) (a b d:Int):Prop:=zgj p a b d
instance tRootsF {p:List Int} {a b d:Int}:Tst (zjQ p a b d):=⟨false,fun h=>by cases h⟩
noncomputable def ctrP6:Ctr:=(103,cFd zjQ (fun l a b d=>.lit (.int .i64 (zhV l a b d)))) :: ctrP5
theorem ctrP6_all:∀p∈ctrP6,lZ Tryz.prog p.1 p.2:=CAll.cons (ziE fun l a b d h=>rRoots_fc l a b d h) zhe
theorem zko:(dZ Tryz.prog ctrP6 bw).OK:=QZ ctrP6_all
noncomputable section
theorem rck_0 (p:List Int) (a b d:Int) (h1:(p.length:Int)<2):FC Tryz.prog 34 [.agg [.sq p,.lit (.int .i64 a),.lit (.int .i64 b),.lit (.int .i64 d)]] (aI 10):=fZ zko 60 [1] (.t h1<|.e) [1]
theorem rck_1 (p:List Int) (a b d:Int) (h1:¬((p.length:Int)<2)) (h2:(p.length:Int) > 5):FC Tryz.prog 34 [.agg [.sq p,.lit (.int .i64 a),.lit (.int .i64 b),.lit (.int .i64 d)]] (aI 10):=fZ zko 60 [0,1] (.f h1<|.t h2<|.e) [1,2]
abbrev zaR (s:St) (r:Ex × St):Prop:=Loops 1 Tryz.prog (pZ Tryz.prog 34 0) s r
abbrev KZ (a:Int) (b:List Int) (c d e f:Int):St:=⟨sp 62 [(1,.ref 0 0),(3,aI a),(4,aI f)],[.flat [.sq b,aI c,aI d,aI e] true],[]⟩
abbrev zdQ (a:Int) (b:List Int) (c d e:Int):St:=⟨sp 62 [(2,aI 2)],[.flat [.sq b,aI c,aI d,aI e] true],[]⟩
abbrev YZ (a:Int) (b:List Int) (c d e f:Int):St:=⟨sp 62 [(1,.ref 0 0),(3,aI a),(4,aI f)],[.flat [.sq b,aI c,aI d,aI e] true],[]⟩
theorem zo6 (a:Int) (b:List Int) (c d f g:Int) (h1:g<a) (h2:0≤g) (h3:g<(b.length:Int)) (h4:g.toNat<b.length) (h5:b.getD g.toNat 0≥-1000) (h6:¬(b.getD g.toNat 0≤1000)):zaR (KZ a b c d f g) (Ex.ret,(zdQ a b c d f)):=Loops.fin (LS.at zko 60 [] [2] [] [1,1,1] (.t h1<|.t h2<|.t h3<|.t h4<|.t h5<|.y h6<|.e) [1,2,3,4,5,6]) (fun h=>nomatch h)
theorem zo7 (a:Int) (b:List Int) (c d f g:Int) (h1:g<a) (h2:0≤g) (h3:g<(b.length:Int)) (h4:g.toNat<b.length) (h5:b.getD g.toNat 0≥-1000) (h6:b.getD g.toNat 0≤1000) (h7:r64 (g+1)) {r:Ex × St} (k:zaR (KZ a b c d f (g+1)) r):zaR (KZ a b c d f g) r:=Loops.go (LS.at zko 60 [] [1,3,4] [] [1,1,0] (.t h1<|.t h2<|.t h3<|.t h4<|.t h5<|.x h6<|.i h7<|.e) [1,2,3,4,5,6,7]) k
theorem zo8 (a:Int) (b:List Int) (c d g i:Int) (h1:i<a) (h2:0≤i) (h3:i<(b.length:Int)) (h4:i.toNat<b.length) (h5:¬(b.getD i.toNat 0≥-1000)):zaR (KZ a b c d g i) (Ex.ret,(zdQ a b c d g)):=Loops.fin (LS.at zko 60 [] [2] [] [1,0] (.t h1<|.t h2<|.t h3<|.t h4<|.f h5<|.e) [1,2,3,4,5]) (fun h=>nomatch h)
theorem zo9 (a:Int) (b:List Int) (c d g i:Int) (h1:¬(i<a)):zaR (KZ a b c d g i) (Ex.exit 0,(YZ a b c d g i)):=Loops.fin (LS.at zko 60 [] [1,3,4] [] [0] (.f h1<|.e) [1]) (fun h=>nomatch h)
theorem rck_2 (p:List Int) (a b d:Int) (h1:¬((p.length:Int)<2)) (h2:¬((p.length:Int) > 5)) (hL1:zaR (KZ ((p.length:Int)) p a b d (0)) (Ex.ret,(zdQ ((p.length:Int)) p a b d))):FC Tryz.prog 34 [.agg [.sq p,.lit (.int .i64 a),.lit (.int .i64 b),.lit (.int .i64 d)]] (aI 2):=fZ zko 60 [0,0] (.f h1<|.f h2<|.v [1,3,4] [] hL1<|.e) [1,2,0,3]
theorem rck_3 (p:List Int) (a b d c:Int) (h1:¬((p.length:Int)<2)) (h2:¬((p.length:Int) > 5)) (hL1:zaR (KZ ((p.length:Int)) p a b d (0)) (Ex.exit 0,(YZ ((p.length:Int)) p a b d c))) (h4:d≥1) (h5:¬(d≤1000000)):FC Tryz.prog 34 [.agg [.sq p,.lit (.int .i64 a),.lit (.int .i64 b),.lit (.int .i64 d)]] (aI 2):=fZ zko 60 [0,0,1,1] (.f h1<|.f h2<|.v [1,3,4] [] hL1<|.t h4<|.y h5<|.e) [1,2,0,3,4,5]
theorem rck_4 (p:List Int) (a b d c:Int) (h1:¬((p.length:Int)<2)) (h2:¬((p.length:Int) > 5)) (hL1:zaR (KZ ((p.length:Int)) p a b d (0)) (Ex.exit 0,(YZ ((p.length:Int)) p a b d c))) (h4:d≥1) (h5:d≤1000000) (h6:a≥-1000000) (h7:¬(a≤1000000)):FC Tryz.prog 34 [.agg [.sq p,.lit (.int .i64 a),.lit (.int .i64 b),.lit (.int .i64 d)]] (aI 2):=fZ zko 60 [0,0,1,0,1,1] (.f h1<|.f h2<|.v [1,3,4] [] hL1<|.t h4<|.x h5<|.t h6<|.y h7<|.e) [1,2,0,3,4,5,6,7]
theorem rck_5 (p:List Int) (a b d c:Int) (h1:¬((p.length:Int)<2)) (h2:¬((p.length:Int) > 5)) (hL1:zaR (KZ ((p.length:Int)) p a b d (0)) (Ex.exit 0,(YZ ((p.length:Int)) p a b d c))) (h4:d≥1) (h5:d≤1000000) (h6:a≥-1000000) (h7:a≤1000000) (h8:b≥-1000000) (h9:¬(b≤1000000)):FC Tryz.prog 34 [.agg [.sq p,.lit (.int .i64 a),.lit (.int .i64 b),.lit (.int .i64 d)]] (aI 2):=fZ zko 60 [0,0,1,0,1,0,1,1] (.f h1<|.f h2<|.v [1,3,4] [] hL1<|.t h4<|.x h5<|.t h6<|.x h7<|.t h8<|.y h9<|.e) [1,2,0,3,4,5,6,7,8,9]
theorem rck_6 (p:List Int) (a b d g:Int) (h1:¬((p.length:Int)<2)) (h2:¬((p.length:Int) > 5)) (hL1:zaR (KZ ((p.length:Int)) p a b d (0)) (Ex.exit 0,(YZ ((p.length:Int)) p a b d g))) (h4:d≥1) (h5:d≤1000000) (h6:a≥-1000000) (h7:a≤1000000) (h8:b≥-1000000) (h9:b≤1000000) (h10:r64 ((p.length:Int)-1)) (h11:0≤(p.length:Int)-1) (h12:(p.length:Int)-1<(p.length:Int)) (h13:((p.length:Int)-1).toNat<p.length) (h14:p.getD ((p.length:Int)-1).toNat 0≠1):FC Tryz.prog 34 [.agg [.sq p,.lit (.int .i64 a),.lit (.int .i64 b),.lit (.int .i64 d)]] (aI 3):=fZ zko 60 [0,0,1,0,1,0,1,0,1] (.f h1<|.f h2<|.v [1,3,4] [] hL1<|.t h4<|.x h5<|.t h6<|.x h7<|.t h8<|.x h9<|.i h10<|.t h11<|.t h12<|.t h13<|.c (bne_iff_ne.2 h14)<|.e) [1,2,0,3,4,5,6,7,8,9,10,11,12,13,14]
theorem rck_7 (p:List Int) (a b d g:Int) (h1:¬((p.length:Int)<2)) (h2:¬((p.length:Int) > 5)) (hL1:zaR (KZ ((p.length:Int)) p a b d (0)) (Ex.exit 0,(YZ ((p.length:Int)) p a b d g))) (h4:d≥1) (h5:d≤1000000) (h6:a≥-1000000) (h7:a≤1000000) (h8:b≥-1000000) (h9:b≤1000000) (h10:r64 ((p.length:Int)-1)) (h11:0≤(p.length:Int)-1) (h12:(p.length:Int)-1<(p.length:Int)) (h13:((p.length:Int)-1).toNat<p.length) (h14:p.getD ((p.length:Int)-1).toNat 0=1) (h15:zdd p) (h16:red p=true):FC Tryz.prog 34 [.agg [.sq p,.lit (.int .i64 a),.lit (.int .i64 b),.lit (.int .i64 d)]] (aI 3):=fZ zko 60 [0,0,1,0,1,0,1,0,0,1] (.f h1<|.f h2<|.v [1,3,4] [] hL1<|.t h4<|.x h5<|.t h6<|.x h7<|.t h8<|.x h9<|.i h10<|.t h11<|.t h12<|.t h13<|.c (bne_eq_false_iff_eq.2 h14)<|.c h15<|.c h16<|.e) [1,2,0,3,4,5,6,7,8,9,10,11,12,13,14,15,16]
theorem rck_8 (p:List Int) (a b d g:Int) (h1:¬((p.length:Int)<2)) (h2:¬((p.length:Int) > 5)) (hL1:zaR (KZ ((p.length:Int)) p a b d (0)) (Ex.exit 0,(YZ ((p.length:Int)) p a b d g))) (h4:d≥1) (h5:d≤1000000) (h6:a≥-1000000) (h7:a≤1000000) (h8:b≥-1000000) (h9:b≤1000000) (h10:r64 ((p.length:Int)-1)) (h11:0≤(p.length:Int)-1) (h12:(p.length:Int)-1<(p.length:Int)) (h13:((p.length:Int)-1).toNat<p.length) (h14:p.getD ((p.length:Int)-1).toNat 0=1) (h15:zdd p) (h16:red p=false) (h17:a > b):FC Tryz.prog 34 [.agg [.sq p,.lit (.int .i64 a),.lit (.int .i64 b),.lit (.int .i64 d)]] (aI 9):=fZ zko 60 [0,0,1,0,1,0,1,0,0,0,1] (.f h1<|.f h2<|.v [1,3,4] [] hL1<|.t h4<|.x h5<|.t h6<|.x h7<|.t h8<|.x h9<|.i h10<|.t h11<|.t h12<|.t h13<|.c (bne_eq_false_iff_eq.2 h14)<|.c h15<|.c h16<|.t h17<|.e) [1,2,0,3,4,5,6,7,8,9,10,11,12,13,14,15,16,17]
theorem rck_9 (p:List Int) (a b d g:Int) (h1:¬((p.length:Int)<2)) (h2:¬((p.length:Int) > 5)) (hL1:zaR (KZ ((p.length:Int)) p a b d (0)) (Ex.exit 0,(YZ ((p.length:Int)) p a b d g))) (h4:d≥1) (h5:d≤1000000) (h6:a≥-1000000) (h7:a≤1000000) (h8:b≥-1000000) (h9:b≤1000000) (h10:r64 ((p.length:Int)-1)) (h11:0≤(p.length:Int)-1) (h12:(p.length:Int)-1<(p.length:Int)) (h13:((p.length:Int)-1).toNat<p.length) (h14:p.getD ((p.length:Int)-1).toNat 0=1) (h15:zdd p) (h16:red p=false) (h17:¬(a > b)) (h18:zjQ p a b d) (h19:zhV p a b d≠1):FC Tryz.prog 34 [.agg [.sq p,.lit (.int .i64 a),.lit (.int .i64 b),.lit (.int .i64 d)]] (aI 11):=fZ zko 60 [0,0,1,0,1,0,1,0,0,0,0,1] (.f h1<|.f h2<|.v [1,3,4] [] hL1<|.t h4<|.x h5<|.t h6<|.x h7<|.t h8<|.x h9<|.i h10<|.t h11<|.t h12<|.t h13<|.c (bne_eq_false_iff_eq.2 h14)<|.c h15<|.c h16<|.f h17<|.c h18<|.c (bne_iff_ne.2 h19)<|.e) [1,2,0,3,4,5,6,7,8,9,10,11,12,13,14,15,16,17,18,19]
theorem rck_10 (p:List Int) (a b d g:Int) (h1:¬((p.length:Int)<2)) (h2:¬((p.length:Int) > 5)) (hL1:zaR (KZ ((p.length:Int)) p a b d (0)) (Ex.exit 0,(YZ ((p.length:Int)) p a b d g))) (h4:d≥1) (h5:d≤1000000) (h6:a≥-1000000) (h7:a≤1000000) (h8:b≥-1000000) (h9:b≤1000000) (h10:r64 ((p.length:Int)-1)) (h11:0≤(p.length:Int)-1) (h12:(p.length:Int)-1<(p.length:Int)) (h13:((p.length:Int)-1).toNat<p.length) (h14:p.getD ((p.length:Int)-1).toNat 0=1) (h15:zdd p) (h16:red p=false) (h17:¬(a > b)) (h18:zjQ p a b d) (h19:zhV p a b d=1):FC Tryz.prog 34 [.agg [.sq p,.lit (.int .i64 a),.lit (.int .i64 b),.lit (.int .i64 d)]] (aI 0):=fZ zko 60 [0,0,1,0,1,0,1,0,0,0,0,0] (.f h1<|.f h2<|.v [1,3,4] [] hL1<|.t h4<|.x h5<|.t h6<|.x h7<|.t h8<|.x h9<|.i h10<|.t h11<|.t h12<|.t h13<|.c (bne_eq_false_iff_eq.2 h14)<|.c h15<|.c h16<|.f h17<|.c h18<|.c (bne_eq_false_iff_eq.2 h19)<|.e) [1,2,0,3,4,5,6,7,8,9,10,11,12,13,14,15,16,17,18,19]
theorem rck_11 (p:List Int) (a b d c:Int) (h1:¬((p.length:Int)<2)) (h2:¬((p.length:Int) > 5)) (hL1:zaR (KZ ((p.length:Int)) p a b d (0)) (Ex.exit 0,(YZ ((p.length:Int)) p a b d c))) (h4:d≥1) (h5:d≤1000000) (h6:a≥-1000000) (h7:a≤1000000) (h8:¬(b≥-1000000)):FC Tryz.prog 34 [.agg [.sq p,.lit (.int .i64 a),.lit (.int .i64 b),.lit (.int .i64 d)]] (aI 2):=fZ zko 60 [0,0,1,0,1,0,0] (.f h1<|.f h2<|.v [1,3,4] [] hL1<|.t h4<|.x h5<|.t h6<|.x h7<|.f h8<|.e) [1,2,0,3,4,5,6,7,8]
theorem rck_12 (p:List Int) (a b d c:Int) (h1:¬((p.length:Int)<2)) (h2:¬((p.length:Int) > 5)) (hL1:zaR (KZ ((p.length:Int)) p a b d (0)) (Ex.exit 0,(YZ ((p.length:Int)) p a b d c))) (h4:d≥1) (h5:d≤1000000) (h6:¬(a≥-1000000)):FC Tryz.prog 34 [.agg [.sq p,.lit (.int .i64 a),.lit (.int .i64 b),.lit (.int .i64 d)]] (aI 2):=fZ zko 60 [0,0,1,0,0] (.f h1<|.f h2<|.v [1,3,4] [] hL1<|.t h4<|.x h5<|.f h6<|.e) [1,2,0,3,4,5,6]
theorem rck_13 (p:List Int) (a b d c:Int) (h1:¬((p.length:Int)<2)) (h2:¬((p.length:Int) > 5)) (hL1:zaR (KZ ((p.length:Int)) p a b d (0)) (Ex.exit 0,(YZ ((p.length:Int)) p a b d c))) (h4:¬(d≥1)):FC Tryz.prog 34 [.agg [.sq p,.lit (.int .i64 a),.lit (.int .i64 b),.lit (.int .i64 d)]] (aI 2):=fZ zko 60 [0,0,0] (.f h1<|.f h2<|.v [1,3,4] [] hL1<|.f h4<|.e) [1,2,0,3,4]
end
open Go.Kf
theorem one_roots {p:List Int} {a b d:Int}:zhV p a b d=1↔zl1 p a b d=true:=by
  unfold zhV zl1
  by_cases h2:p.length=2
  · rw [if_pos h2,if_pos h2,Bool.and_eq_true,decide_eq_true_eq,decide_eq_true_eq]
    by_cases h:a≤-(p.getD 0 0)*d∧-(p.getD 0 0)*d≤b
    · rw [if_pos h];exact ⟨fun _=>h,fun _=>rfl⟩
    · rw [if_neg h];exact ⟨fun k=>by omega,fun k=>absurd k h⟩
  · rw [if_neg h2,if_neg h2,beq_iff_eq]
theorem znE {p:List Int} (hl:p.length≤1000) (a b d:Int):∀(m i:Nat),i+m=p.length →
    (zew (p.drop i)=true∧zaR (KZ p.length p a b d i) (Ex.ret,zdQ p.length p a b d))∨(zew (p.drop i)=false∧∃t,zaR (KZ p.length p a b d i) (Ex.exit 0,YZ p.length p a b d t))
  | 0,i,hi=>by
    obtain rfl:i=p.length:=by omega
    exact .inr ⟨by rw [List.drop_length];rfl,p.length,zo9 p.length p a b d p.length (by omega)⟩
  | m + 1,i,hi=>by
    have hlt:i<p.length:=by omega
    have e1:Int.toNat (i:Int)=i:=rfl
    rw [zku hlt]
    by_cases h1:p.getD i 0≥-1000
    · by_cases h2:p.getD i 0≤1000
      · have go:=fun r=>@zo7 p.length p a b d i (by omega) (by omega) (by omega) (by omega) h1 h2 (by omega) r
        rw [decide_eq_false (show ¬p.getD i 0 < -1000 by omega),decide_eq_false (show ¬1000<p.getD i 0 by omega),Bool.false_or,Bool.false_or]
        rcases znE hl a b d m (i+1) (by omega) with ⟨x,k⟩ | ⟨x,t,k⟩
        · exact .inl ⟨x,go _ k⟩
        · exact .inr ⟨x,t,go _ k⟩
      · exact .inl ⟨by rw [decide_eq_true (show 1000<p.getD i 0 by omega)];simp,zo6 p.length p a b d i (by omega) (by omega) (by omega) (by omega) h1 h2⟩
    · exact .inl ⟨by rw [decide_eq_true (show p.getD i 0 < -1000 by omega)];simp,zo8 p.length p a b d i (by omega) (by omega) (by omega) (by omega) h1⟩
theorem rcheck_fc (p:List Int) (a b d:Int):FC Tryz.prog 34 [.agg [.sq p,.lit (.int .i64 a),.lit (.int .i64 b),.lit (.int .i64 d)]] (.lit (.int .i64 (zcb p a b d))):=by
  have loops:2≤p.length→p.length≤5→(zew p=true→zaR (KZ p.length p a b d 0) (Ex.ret,zdQ p.length p a b d))∧(zew p=false→∃t,zaR (KZ p.length p a b d 0) (Ex.exit 0,YZ p.length p a b d t)):=fun l2 l5=>by
    have:=znE (p:=p) (by omega) a b d p.length 0 (by omega)
    rw [List.drop_zero] at this
    rcases this with ⟨x,k⟩ | ⟨x,t,k⟩
    · exact ⟨fun _=>k,fun y=>by rw [x] at y;cases y⟩
    · exact ⟨fun y=>(by rw [x] at y;cases y),fun _=>⟨t,k⟩⟩
  rcases zhb p a b d with h | h | ⟨l2,l5,bg⟩ | ⟨l2,l5,bg,h⟩
  · have hrd:=h.rd
    have hro:=h.ro
    rw [h.eq]
    obtain ⟨l2,l5,bg,d1,d2,a1,a2,b1,b2⟩:=h
    obtain ⟨t,K⟩:=(loops l2 l5).2 bg
    have e1:Int.toNat ((p.length:Int)-1)=p.length-1:=by omega
    by_cases c1:p.getD (p.length-1) 0=1
    · cases c2:red p with
      | true=>
        rw [if_pos (.inr rfl)]
        exact rck_7 p a b d t (by omega) (by omega) K (by omega) (by omega) (by omega) (by omega) (by omega) (by omega) (by omega) (by omega) (by omega) (by omega) (by rw [e1];exact c1) hrd c2
      | false=>
        rw [if_neg (by simp only [c1,ne_eq,not_true_eq_false,false_or,Bool.false_eq_true,not_false_eq_true])]
        by_cases c3:b<a
        · rw [if_pos c3]
          exact rck_8 p a b d t (by omega) (by omega) K (by omega) (by omega) (by omega) (by omega) (by omega) (by omega) (by omega) (by omega) (by omega) (by omega) (by rw [e1];exact c1) hrd c2 c3
        · rw [if_neg c3]
          cases c4:zl1 p a b d with
          | false=>
            rw [if_pos rfl]
            exact rck_9 p a b d t (by omega) (by omega) K (by omega) (by omega) (by omega) (by omega) (by omega) (by omega) (by omega) (by omega) (by omega) (by omega) (by rw [e1];exact c1) hrd c2 c3 hro (fun e=>by rw [one_roots.1 e] at c4;cases c4)
          | true=>
            rw [if_neg (by decide)]
            exact rck_10 p a b d t (by omega) (by omega) K (by omega) (by omega) (by omega) (by omega) (by omega) (by omega) (by omega) (by omega) (by omega) (by omega) (by rw [e1];exact c1) hrd c2 c3 hro (one_roots.2 c4)
    · rw [if_pos (.inl c1)]
      exact rck_6 p a b d t (by omega) (by omega) K (by omega) (by omega) (by omega) (by omega) (by omega) (by omega) (by omega) (by omega) (by omega) (by omega) (by rw [e1];exact c1)
  · rw [zmb h]
    by_cases l2:p.length<2
    · exact rck_0 p a b d (by omega)
    · exact rck_1 p a b d (by omega) (by omega)
  · rw [zma ⟨l2,l5⟩ bg]
    exact rck_2 p a b d (by omega) (by omega) ((loops l2 l5).1 bg)
  · rw [zmc ⟨l2,l5⟩ h]
    obtain ⟨t,K⟩:=(loops l2 l5).2 bg
    by_cases d1:1≤d
    · by_cases d2:d≤1000000
      · by_cases a1:-1000000≤a
        · by_cases a2:a≤1000000
          · by_cases b1:-1000000≤b
            · exact rck_5 p a b d t (by omega) (by omega) K d1 d2 a1 a2 b1 (by omega)
            · exact rck_11 p a b d t (by omega) (by omega) K d1 d2 a1 a2 b1
          · exact rck_4 p a b d t (by omega) (by omega) K d1 d2 a1 a2
        · exact rck_12 p a b d t (by omega) (by omega) K d1 d2 a1
      · exact rck_3 p a b d t (by omega) (by omega) K d1 d2
    · exact rck_13 p a b d t (by omega) (by omega) K d1
noncomputable section
end
open Go.Kf
theorem LeL.six {a b c d e f e' f':AV} {l:List AV} (h1:Le e e') (h2:Le f f'):LeL (a :: b :: c :: d :: e :: f :: l) (a :: b :: c :: d :: e' :: f' :: l):=
  .cons (Le.refl _) (.cons (Le.refl _) (.cons (Le.refl _) (.cons (Le.refl _) (.cons h1 (.cons h2 (LeL.refl _))))))
theorem open_err (p:List Int) (a b d:Int) (h1:zcb p a b d≠0):FC Tryz.prog 35 [.agg [.sq p,.lit (.int .i64 a),.lit (.int .i64 b),.lit (.int .i64 d)]] (.tup [.lit (.pointer none),.lit (.int .i64 (zcb p a b d))]):=
  fZ okP5 60 [1] (.c (bne_iff_ne.2 h1)<|.e) [0,1]
noncomputable def cOpen (args:List AV):M AV:=match args with
  | [x]=>do
    let f ← asK fieldK x
    match f with
    | (l,a,b,d)=>do
      let z ← dec (decide (zcb l a b d=0))
      match z with
      | true=>M.pure (.tup [openA l a b d,.lit (.int .i64 0)])
      | false=>M.pure (.tup [.lit (.pointer none),.lit (.int .i64 (zcb l a b d))])
  | _=>fail 313
theorem cOpen_ok:lZ Tryz.prog 35 cOpen:=by
  intro args _
  unfold cOpen
  split
  · refine Spec.bind (asK_spec.mono fun f hf=>?_)
    obtain ⟨l,a,b,d⟩:=f
    refine Spec.bind (Spec.dec ?_)
    by_cases h:zcb l a b d=0
    · rw [decide_eq_true h]
      exact Spec.pure' ((open_fc l a b d h).le (.cons hf .nil) (Le.refl _))
    · rw [decide_eq_false h]
      exact Spec.pure' ((open_err l a b d h).le (.cons hf .nil) (Le.refl _))
  · exact Spec.fail
noncomputable section
end
open Go.Kf
abbrev F2:AV:=.agg [.sq [-2,0,1],.lit (.int .i64 1),.lit (.int .i64 2),.lit (.int .i64 1)]
abbrev R2:AV:=.pd [.sq [-2,0,1],.lit (.int .i64 1),.lit (.int .i64 2),.lit (.int .i64 1),.sl [.lit (.bool true),.wd (-2),.lit (.bool false),.wd 0,.lit (.bool false),.wd 1] 3,.sl [.lit (.bool false),.wd 2,.lit (.bool false),.wd 0] 2,
  .lit (.bool false),.wd 26087635650665564424,.lit (.bool false),.wd 26087635650665564425,.lit (.bool false),.wd 18446744073709551616] 0
theorem red2:red [-2,0,1]=false:=Value.bool.inj (AV.lit.inj (ziz fun h=>by
  rcases h.2 with ⟨x,hx⟩ | ⟨h5,_⟩
  · have e:pv [-2,0,1] x=(((0*x+1)*x+0)*x + -2:Int):=rfl
    rw [e] at hx
    have h2:x*x=2:=by grind
    have h3:x.natAbs*x.natAbs=2:=by rw [← Int.natAbs_mul,h2];rfl
    have:x.natAbs=0∨x.natAbs=1∨2≤x.natAbs:=by omega
    rcases this with h | h | h
    · rw [h] at h3;cases h3
    · rw [h] at h3;cases h3
    · have:=Nat.mul_le_mul h h;omega
  · cases h5))
theorem chk2:zcb [-2,0,1] 1 2 1=0:=by
  have hr:ChkR [-2,0,1] 1 2 1:=⟨by decide,by decide,by decide,by decide,by decide,by decide,by decide,by decide,by decide⟩
  rw [hr.eq,red2,if_neg (by decide),if_neg (by decide),show zl1 [-2,0,1] 1 2 1=true by kernel_rfl];rfl
theorem hv64:hvG [-2,0,1] 64 1 2 1=(26087635650665564424,26087635650665564425,18446744073709551616):=by kernel_rfl
theorem Le.lst_sl {l:List Int} {cells:List AV} {n:Nat} (h:cells=yZ .W l) (hn:n=l.length):Le (.lst .whole l) (.sl cells n):=by
  subst h;subst hn;exact Le.lst_slW l
theorem open2:FC Tryz.prog 35 [F2] (.tup [R2,.lit (.int .i64 0)]):=by
  have:=open_fc [-2,0,1] 1 2 1 chk2
  refine this.le (LeL.refl _) ?_
  unfold openA oA
  rw [show hvC [-2,0,1]=64 from rfl,hv64]
  exact Le.tup (.cons (Le.pd (LeL.six (Le.lst_sl rfl rfl) (Le.lst_sl rfl rfl))) (LeL.refl _))
abbrev nW:AV:=.agg [.sl [.lit (.slice none 0 0),.sq [1]] 2,.lit (.slice none 0 0)]
abbrev nA1 (a d:Int):AV:=.agg [.sl [.ni a] 1,.ni d]
abbrev nA2 (a b d:Int):AV:=.agg [.sl [.ni a,.ni b] 2,.ni d]
noncomputable section
theorem cRoot:zlZ (dZ Tryz.prog zeO bw) 300 68 [.lit (.int .i64 2)]=some (.tup [.agg [.sq [-2,0,1],aI 1,aI 2,aI 1],aI 0],[3≤3]):=by kernel_rfl
theorem cWhole1:zlZ (dZ Tryz.prog zeO bw) 300 31 [.lit (.int .i64 1)]=some (.agg [.sl [.ni 1] 1,.ni 1],[]):=by kernel_rfl
theorem cWhole3:zlZ (dZ Tryz.prog zeO bw) 300 31 [.lit (.int .i64 3)]=some (.agg [.sl [.ni 3] 1,.ni 1],[]):=by kernel_rfl
theorem cWhole100:zlZ (dZ Tryz.prog zeO bw) 300 31 [.lit (.int .i64 100)]=some (.agg [.sl [.ni 100] 1,.ni 1],[]):=by kernel_rfl
theorem cAdd1:zlZ (dZ Tryz.prog zeO bw) 300 24 [R2,nA1 1 1,nW]=some (.agg [.sl [.ni 1,.ni 1] 2,.ni 1],[]):=by kernel_rfl
theorem cAdd2:zlZ (dZ Tryz.prog zeO bw) 300 24 [R2,nW,nW]=some (.agg [.sl [.ni 0,.ni 2] 2,.ni 1],[]):=by kernel_rfl
theorem cSub:zlZ (dZ Tryz.prog zeO bw) 300 26 [R2,nA1 3 1,nA2 0 2 1]=some (.agg [.sl [.ni 3,.ni (-2)] 2,.ni 1],[]):=by kernel_rfl
theorem cMul:zlZ (dZ Tryz.prog zeO bw) 300 28 [R2,nA1 100 1,nW]=some (.agg [.sl [.ni 0,.ni 100] 2,.ni 1],[]):=by kernel_rfl
theorem cSign:zlZ (dZ Tryz.prog zeO bw) 300 30 [R2,nA2 3 (-2) 1]=some (aI 1,[]):=by kernel_rfl
theorem cFloor:zlZ (dZ Tryz.prog zeO bw) 300 33 [R2,nA2 0 100 1]=some (.ni 141,[]):=by kernel_rfl
theorem cQuo:zlZ (dZ Tryz.prog zeO bw) 300 19 [R2,nA1 1 1,nA2 1 1 1]=some (.tup [.agg [.sl [.ni (-1),.ni 1] 2,.ni 1],aI 0],[]):=by kernel_rfl
end
theorem cFmt:zlZ (dZ Tryz.prog ctrT2 bw) 300 76 [R2,nA2 (-1) 1 1]=some (.lit (.string ⟨#[45,49,44,49]⟩),[]):=by kernel_rfl
theorem root2:FC Tryz.prog 68 [.lit (.int .i64 2)] (.tup [F2,.lit (.int .i64 0)]):=zch okAw cRoot (.cons (Nat.le_refl _) .nil)
theorem whole1:FC Tryz.prog 31 [.lit (.int .i64 1)] (nA1 1 1):=zch okAw cWhole1 .nil
theorem whole3:FC Tryz.prog 31 [.lit (.int .i64 3)] (nA1 3 1):=zch okAw cWhole3 .nil
theorem whole100:FC Tryz.prog 31 [.lit (.int .i64 100)] (nA1 100 1):=zch okAw cWhole100 .nil
theorem add1:FC Tryz.prog 24 [R2,nA1 1 1,nW] (nA2 1 1 1):=zch okAw cAdd1 .nil
theorem add2:FC Tryz.prog 24 [R2,nW,nW] (nA2 0 2 1):=zch okAw cAdd2 .nil
theorem sub1:FC Tryz.prog 26 [R2,nA1 3 1,nA2 0 2 1] (nA2 3 (-2) 1):=zch okAw cSub .nil
theorem mul1:FC Tryz.prog 28 [R2,nA1 100 1,nW] (nA2 0 100 1):=zch okAw cMul .nil
theorem sign1:FC Tryz.prog 30 [R2,nA2 3 (-2) 1] (.lit (.int .i64 1)):=zch okAw cSign .nil
theorem floor1:FC Tryz.prog 33 [R2,nA2 0 100 1] (.ni 141):=zch okAw cFloor .nil
theorem fmt1:FC Tryz.prog 76 [R2,nA2 (-1) 1 1] (.lit (.string ⟨#[45,49,44,49]⟩)):=zch okT2 cFmt .nil
theorem quo1:FC Tryz.prog 19 [R2,nA1 1 1,nA2 1 1 1] (.tup [nA2 (-1) 1 1,.lit (.int .i64 0)]):=zch okAw cQuo .nil
def ctrW:Ctr:=(35,cK [F2] (.tup [R2,.lit (.int .i64 0)])) :: (68,cK [.lit (.int .i64 2)] (.tup [F2,.lit (.int .i64 0)])) ::
  (31,orC (cK [.lit (.int .i64 1)] (nA1 1 1)) (orC (cK [.lit (.int .i64 3)] (nA1 3 1)) (cK [.lit (.int .i64 100)] (nA1 100 1)))) ::
  (24,orC (cK [R2,nA1 1 1,nW] (nA2 1 1 1)) (cK [R2,nW,nW] (nA2 0 2 1))) ::
  (26,cK [R2,nA1 3 1,nA2 0 2 1] (nA2 3 (-2) 1)) ::
  (28,cK [R2,nA1 100 1,nW] (nA2 0 100 1)) ::
  (30,cK [R2,nA2 3 (-2) 1] (.lit (.int .i64 1))) ::
  (33,cK [R2,nA2 0 100 1] (.ni 141)) ::
  (76,cK [R2,nA2 (-1) 1 1] (.lit (.string ⟨#[45,49,44,49]⟩))) ::
  (19,cK [R2,nA1 1 1,nA2 1 1 1] (.tup [nA2 (-1) 1 1,.lit (.int .i64 0)])) :: ctrT2
theorem ctrW_all:∀p∈ctrW,lZ Tryz.prog p.1 p.2:=
  CAll.cons (zeM open2)<|CAll.cons (zeM root2)<|CAll.cons (orC_ok (zeM whole1) (orC_ok (zeM whole3) (zeM whole100)))<|CAll.cons (orC_ok (zeM add1) (zeM add2))<|CAll.cons (zeM sub1) <|
  CAll.cons (zeM mul1)<|CAll.cons (zeM sign1)<|CAll.cons (zeM floor1)<|CAll.cons (zeM fmt1)<|CAll.cons (zeM quo1) zkR
theorem okW:(dZ Tryz.prog ctrW bw).OK:=QZ ctrW_all
noncomputable section
theorem cAwake:zlZ (dZ Tryz.prog ctrW bw) 300 18 []=some (aT,[1≤1,1≤1,1≤1,1≤1,1≤1,1≤1,1≤1,1≤1,1≤1,1≤1,1≤1,1≤1,1≤1,1≤1,1≤1,1≤1,1≤1,1≤1,1≤1,1≤1,1≤1]):=by kernel_rfl
end
theorem awake_fc:FC Tryz.prog 18 [] (.lit (.bool true)):=zch okW cAwake (by(repeat' (first | exact AllC.nil | refine AllC.cons ?_ ?_));all_goals (first | (with_reducible rfl) | exact Nat.le_refl _ | trivial | decide))
noncomputable section
theorem bsh_0 (C:List (List Int)) (D:List Int) (k:Int) (h1:(C.length:Int) > 6):FC Tryz.prog 78 [.agg [.lst (.sl (.int .i64)) C,.sq D],.lit (.int .i64 k)] (.ff):=fZ okW 60 [1] (.t h1<|.e) [1]
theorem bsh_1 (C:List (List Int)) (D:List Int) (k:Int) (h1:¬((C.length:Int) > 6)) (h2:(D.length:Int) > k):FC Tryz.prog 78 [.agg [.lst (.sl (.int .i64)) C,.sq D],.lit (.int .i64 k)] (.ff):=fZ okW 60 [0,1] (.f h1<|.t h2<|.e) [1,2]
abbrev zel (s:St) (r:Ex × St):Prop:=Loops 1 Tryz.prog (pZ Tryz.prog 78 0) s r
abbrev zbl (a:Int) (b:List (List Int)) (c:List Int) (d:Int):St:=⟨sp 32 [(1,aI a),(2,.ref 0 0),(5,aI d)],[.flat [.lst (EK.sl (.int .i64)) b,.sq c] true],[]⟩
abbrev zg5 (a:Int) (b:List (List Int)) (c:List Int):St:=⟨sp 32 [(4,.ff)],[.flat [.lst (EK.sl (.int .i64)) b,.sq c] true],[]⟩
abbrev zg6 (a:Int) (b:List (List Int)) (c:List Int) (d:Int):St:=⟨sp 32 [(1,aI a),(2,.ref 0 0),(5,aI d)],[.flat [.lst (EK.sl (.int .i64)) b,.sq c] true],[]⟩
theorem zoc (a:Int) (b:List (List Int)) (c:List Int) (d:Int) (h1:d<(b.length:Int)) (h2:0≤d) (h3:(↑((b.getD d.toNat (EK.dflt (EK.sl (.int .i64)))).length):Int) > a):zel (zbl a b c d) (Ex.ret,(zg5 a b c)):=Loops.fin (LS.at okW 60 [] [4] [] [1,1] (.t h1<|.t h2<|.t h3<|.e) [1,2,1,3]) (fun h=>nomatch h)
theorem zod (a:Int) (b:List (List Int)) (c:List Int) (d:Int) (h1:d<(b.length:Int)) (h2:0≤d) (h3:¬((↑((b.getD d.toNat (EK.dflt (EK.sl (.int .i64)))).length):Int) > a)) (h4:r64 (d+1)) {r:Ex × St} (k:zel (zbl a b c (d+1)) r):zel (zbl a b c d) r:=Loops.go (LS.at okW 60 [] [1,2,5] [] [1,0] (.t h1<|.t h2<|.f h3<|.i h4<|.e) [1,2,1,3,4]) k
theorem zoe (a:Int) (b:List (List Int)) (c:List Int) (d:Int) (h1:¬(d<(b.length:Int))):zel (zbl a b c d) (Ex.exit 0,(zg6 a b c d)):=Loops.fin (LS.at okW 60 [] [1,2,5] [] [0] (.f h1<|.e) [1]) (fun h=>nomatch h)
theorem bsh_2 (C:List (List Int)) (D:List Int) (k:Int) (h1:¬((C.length:Int) > 6)) (h2:¬((D.length:Int) > k)) (hL1:zel (zbl k C D (0)) (Ex.ret,(zg5 k C D))):FC Tryz.prog 78 [.agg [.lst (.sl (.int .i64)) C,.sq D],.lit (.int .i64 k)] (.ff):=fZ okW 60 [0,0] (.f h1<|.f h2<|.v [1,2,5] [] hL1<|.e) [1,2,0,3]
theorem bsh_3 (C:List (List Int)) (D:List Int) (k a:Int) (h1:¬((C.length:Int) > 6)) (h2:¬((D.length:Int) > k)) (hL1:zel (zbl k C D (0)) (Ex.exit 0,(zg6 k C D a))):FC Tryz.prog 78 [.agg [.lst (.sl (.int .i64)) C,.sq D],.lit (.int .i64 k)] (.tt):=fZ okW 60 [0,0] (.f h1<|.f h2<|.v [1,2,5] [] hL1<|.e) [1,2,0,3]
end
def shN (x:List (List Int) × List Int) (k:Int):Prop:=x.1.length≤6∧(x.2.length:Int)≤k∧∀l∈x.1,(l.length:Int)≤k
instance decShN {x:List (List Int) × List Int} {k:Int}:Decidable (shN x k):=inferInstanceAs (Decidable (_∧_∧_))
theorem zje (C:List (List Int)) (D:List Int) (k:Int) (hC:C.length≤6):∀(n i:Nat),i+n=C.length →
    (∀l∈C.drop i,(l.length:Int)≤k)∧zel (zbl k C D i) (Ex.exit 0,zg6 k C D C.length)∨(¬ ∀l∈C.drop i,(l.length:Int)≤k)∧zel (zbl k C D i) (Ex.ret,zg5 k C D)
  | 0,i,hi=>by
    obtain rfl:i=C.length:=by omega
    exact .inl ⟨by simp,zoe k C D _ (by omega)⟩
  | n + 1,i,hi=>by
    have hlt:i<C.length:=by omega
    have hg:C.getD (Int.toNat (i:Int)) (EK.dflt (EK.sl (EK.int IntKind.i64)))=C[i]:=by
      rw [Int.toNat_natCast,List.getD_eq_getElem?_getD,List.getElem?_eq_getElem hlt];rfl
    have hd:C.drop i=C[i] :: C.drop (i+1):=List.drop_eq_getElem_cons hlt
    by_cases h:(C[i].length:Int)≤k
    · have go:∀r,zel (zbl k C D ((i:Int)+1)) r→zel (zbl k C D i) r:=fun r hr=>
        zod k C D i (by omega) (by omega) (by rw [hg];omega) (by omega) hr
      rcases zje C D k hC n (i+1) (by omega) with ⟨h1,h2⟩ | ⟨h1,h2⟩
      · refine .inl ⟨fun l hl=>?_,go _ h2⟩
        rw [hd] at hl
        rcases List.mem_cons.1 hl with rfl | hl
        · exact h
        · exact h1 l hl
      · exact .inr ⟨fun h3=>h1 fun l hl=>h3 l (by rw [hd];exact List.mem_cons_of_mem _ hl),go _ h2⟩
    · exact .inr ⟨fun h3=>h (h3 _ (by rw [hd];exact List.mem_cons_self)),zoc k C D i (by omega) (by omega) (by rw [hg];omega)⟩
theorem litB {P:Program} {f:FuncId} {a:List AV} {q:Prop} [Decidable q] (ht:q→FC P f a .tt) (hf:¬q→FC P f a .ff):FC P f a (.lit (.bool (decide q))):=by
  by_cases h:q
  · rw [decide_eq_true h];exact(ht h).res fun E v hv=>by cases hv;exact .lit _
  · rw [decide_eq_false h];exact(hf h).res fun E v hv=>by cases hv;exact .lit _
theorem bShort_fc (x:List (List Int) × List Int) (k:Int) (_:True):FC Tryz.prog 78 [numK.val x,.lit (.int .i64 k)] (.lit (.bool (decide (shN x k)))):=by
  obtain ⟨C,D⟩:=x
  refine litB (fun h=>?_) fun h=>?_
  · obtain ⟨h1,h2,h3⟩:=h
    rcases zje C D k h1 C.length 0 (by omega) with ⟨_,k2⟩ | ⟨k1,_⟩
    · exact bsh_3 C D k _ (by simp only at h1;omega) (by simp only at h2;omega) k2
    · exact absurd h3 k1
  · by_cases h1:C.length≤6
    · by_cases h2:(D.length:Int)≤k
      · rcases zje C D k h1 C.length 0 (by omega) with ⟨k1,_⟩ | ⟨_,k2⟩
        · exact absurd ⟨h1,h2,k1⟩ h
        · exact bsh_2 C D k (by omega) (by omega) k2
      · exact bsh_1 C D k (by omega) (by omega)
    · exact bsh_0 C D k (by omega)
def ctrA:Ctr:=(18,cK [] (.lit (.bool true))) :: (78,cD2 numK (.int .i64) (fun _ _=>True) (fun x k=>.lit (.bool (decide (shN x k))))) :: ctrX
theorem zm4:∀p∈ctrA,lZ Tryz.prog p.1 p.2:=CAll.cons (zeM awake_fc)<|CAll.cons (zg7 bShort_fc) zna
theorem okA:(dZ Tryz.prog ctrA bw).OK:=QZ zm4
noncomputable section
theorem ls_0 (A B:List (List Int)) (h1:(A.length:Int)≠(B.length:Int)):FC Tryz.prog 88 [.lst (.sl (.int .i64)) A,.lst (.sl (.int .i64)) B] (.ff):=fZ okA 60 [1] (.c (bne_iff_ne.2 h1)<|.e) [1]
abbrev ziu (s:St) (r:Ex × St):Prop:=Loops 0 Tryz.prog (pZ Tryz.prog 88 0) s r
abbrev zcB (a b:List (List Int)) (c:Int):St:=⟨sp 27 [(0,.lst (EK.sl (.int .i64)) a),(1,.lst (EK.sl (.int .i64)) b),(5,aI c)],[],[]⟩
abbrev zjE (a b:List (List Int)):St:=⟨sp 27 [(4,.ff)],[],[]⟩
abbrev zjF (a b:List (List Int)) (c:Int):St:=⟨sp 27 [(0,.lst (EK.sl (.int .i64)) a),(1,.lst (EK.sl (.int .i64)) b),(5,aI c)],[],[]⟩
theorem ls_L0_0_0 (a b:List (List Int)) (d:Int) (h1:d<(a.length:Int)) (h2:0≤d) (h3:d<(b.length:Int)) (h4:pIn (a.getD d.toNat (EK.dflt (EK.sl (.int .i64)))) (b.getD d.toNat (EK.dflt (EK.sl (.int .i64))))) (h5:¬(a.getD d.toNat (EK.dflt (EK.sl (.int .i64)))=b.getD d.toNat (EK.dflt (EK.sl (.int .i64))))):ziu (zcB a b d) (Ex.ret,(zjE a b)):=Loops.fin (LS.at okA 60 [] [4] [] [1,1] (.t h1<|.t h2<|.t h3<|.c h4<|.y h5<|.e) [1,2,1,2,3,4,5]) (fun h=>nomatch h)
theorem ls_L0_0_1 (a b:List (List Int)) (d:Int) (h1:d<(a.length:Int)) (h2:0≤d) (h3:d<(b.length:Int)) (h4:pIn (a.getD d.toNat (EK.dflt (EK.sl (.int .i64)))) (b.getD d.toNat (EK.dflt (EK.sl (.int .i64))))) (h5:a.getD d.toNat (EK.dflt (EK.sl (.int .i64)))=b.getD d.toNat (EK.dflt (EK.sl (.int .i64)))) (h6:r64 (d+1)) {r:Ex × St} (k:ziu (zcB a b (d+1)) r):ziu (zcB a b d) r:=Loops.go (LS.at okA 60 [] [0,1,5] [] [1,0] (.t h1<|.t h2<|.t h3<|.c h4<|.x h5<|.i h6<|.e) [1,2,1,2,3,4,5,6]) k
theorem ls_L0_0_2 (a b:List (List Int)) (c:Int) (h1:¬(c<(a.length:Int))):ziu (zcB a b c) (Ex.exit 0,(zjF a b c)):=Loops.fin (LS.at okA 60 [] [0,1,5] [] [0] (.f h1<|.e) [1]) (fun h=>nomatch h)
theorem ls_1 (A B:List (List Int)) (h1:(A.length:Int)=(B.length:Int)) (hL1:ziu (zcB A B (0)) (Ex.ret,(zjE A B))):FC Tryz.prog 88 [.lst (.sl (.int .i64)) A,.lst (.sl (.int .i64)) B] (.ff):=fZ okA 60 [0] (.c (bne_eq_false_iff_eq.2 h1)<|.v [0,1,5] [] hL1<|.e) [1,0,2]
theorem ls_2 (A B:List (List Int)) (a:Int) (h1:(A.length:Int)=(B.length:Int)) (hL1:ziu (zcB A B (0)) (Ex.exit 0,(zjF A B a))):FC Tryz.prog 88 [.lst (.sl (.int .i64)) A,.lst (.sl (.int .i64)) B] (.tt):=fZ okA 60 [0] (.c (bne_eq_false_iff_eq.2 h1)<|.v [0,1,5] [] hL1<|.e) [1,0,2]
end
def pLi (x:List (List Int)):Prop:=(decide (x.length≤1048576)&&x.all fun l=>decide (l.length≤1048576))=true
theorem pLi_iff {x:List (List Int)}:pLi x↔x.length≤1048576∧∀l∈x,l.length≤1048576:=by
  unfold pLi;rw [Bool.and_eq_true,decide_eq_true_eq,List.all_eq_true]
  exact ⟨fun h=>⟨h.1,fun l hl=>of_decide_eq_true (h.2 l hl)⟩,fun h=>⟨h.1,fun l hl=>decide_eq_true (h.2 l hl)⟩⟩
instance tLi2 {x y:List (List Int)}:Tst (pLi x∧pLi y):=⟨(decide (x.length≤1048576)&&x.all fun l=>decide (l.length≤1048576))&&(decide (y.length≤1048576)&&y.all fun l=>decide (l.length≤1048576)),fun h=>by rwa [Bool.and_eq_true] at h⟩
theorem ls_loop (A B:List (List Int)) (hl:A.length=B.length) (hA:pLi A) (hB:pLi B):∀(n i:Nat),i+n=A.length →
    A.drop i=B.drop i∧ziu (zcB A B i) (Ex.exit 0,zjF A B A.length)∨A.drop i≠B.drop i∧ziu (zcB A B i) (Ex.ret,zjE A B)
  | 0,i,hi=>by
    obtain rfl:i=A.length:=by omega
    exact .inl ⟨by rw [List.drop_length,hl,List.drop_length],ls_L0_0_2 A B _ (by omega)⟩
  | n + 1,i,hi=>by
    have ha:i<A.length:=by omega
    have hb:i<B.length:=by omega
    have ga:A.getD (Int.toNat (i:Int)) (EK.dflt (EK.sl (EK.int IntKind.i64)))=A[i]:=by
      rw [Int.toNat_natCast,List.getD_eq_getElem?_getD,List.getElem?_eq_getElem ha];rfl
    have gb:B.getD (Int.toNat (i:Int)) (EK.dflt (EK.sl (EK.int IntKind.i64)))=B[i]:=by
      rw [Int.toNat_natCast,List.getD_eq_getElem?_getD,List.getElem?_eq_getElem hb];rfl
    have da:A.drop i=A[i] :: A.drop (i+1):=List.drop_eq_getElem_cons ha
    have db:B.drop i=B[i] :: B.drop (i+1):=List.drop_eq_getElem_cons hb
    have hp:pIn A[i] B[i]:=⟨(pLi_iff.1 hA).2 _ (List.getElem_mem ha),(pLi_iff.1 hB).2 _ (List.getElem_mem hb)⟩
    have l1:=(pLi_iff.1 hA).1
    by_cases h:A[i]=B[i]
    · have go:∀r,ziu (zcB A B ((i:Int)+1)) r→ziu (zcB A B i) r:=fun r hr=>
        ls_L0_0_1 A B i (by omega) (by omega) (by omega) (by rw [ga,gb];exact hp) (by rw [ga,gb];exact h) (by omega) hr
      rcases ls_loop A B hl hA hB n (i+1) (by omega) with ⟨h1,h2⟩ | ⟨h1,h2⟩
      · exact .inl ⟨by rw [da,db,h,h1],go _ h2⟩
      · exact .inr ⟨fun h3=>h1 (by rw [da,db] at h3;exact(List.cons.inj h3).2),go _ h2⟩
    · exact .inr ⟨fun h3=>h (by rw [da,db] at h3;exact(List.cons.inj h3).1),ls_L0_0_0 A B i (by omega) (by omega) (by omega) (by rw [ga,gb];exact hp) (by rw [ga,gb];exact h)⟩
theorem lists_fc (A B:List (List Int)) (h:pLi A∧pLi B):FC Tryz.prog 88 [.lst (.sl (.int .i64)) A,.lst (.sl (.int .i64)) B] (.lit (.bool (decide (A=B)))):=by
  by_cases hl:A.length=B.length
  · rcases ls_loop A B hl h.1 h.2 A.length 0 (by omega) with ⟨h1,h2⟩ | ⟨h1,h2⟩
    · exact litB (fun _=>ls_2 A B _ (by omega) h2) fun h3=>absurd h1 h3
    · exact litB (fun h3=>absurd h3 h1) fun _=>ls_1 A B (by omega) h2
  · exact litB (fun h3=>absurd (congrArg _ h3) hl) fun _=>ls_0 A B (by omega)
def ctrB:Ctr:=(88,cD2 (.sl (.sl (.int .i64))) (.sl (.sl (.int .i64))) (fun A B=>pLi A∧pLi B) (fun A B=>.lit (.bool (decide (A=B))))) :: ctrA
theorem zm5:∀p∈ctrB,lZ Tryz.prog p.1 p.2:=CAll.cons (zg7 lists_fc) zm4
theorem okB:(dZ Tryz.prog ctrB bw).OK:=QZ zm5
noncomputable section
theorem sn_0 (x y:List (List Int) × List Int) (h1:pLi x.fst∧pLi y.fst) (h2:x.fst=y.fst) (h3:pIn x.snd y.snd):FC Tryz.prog 21 [numK.val x,numK.val y] (.lit (.bool (decide (x.snd=y.snd)))):=fZ okB 60 [1] (.c h1<|.t h2<|.c h3<|.e) [1,2,3]
theorem sn_1 (x y:List (List Int) × List Int) (h1:pLi x.fst∧pLi y.fst) (h2:¬(x.fst=y.fst)):FC Tryz.prog 21 [numK.val x,numK.val y] (.ff):=fZ okB 60 [0] (.c h1<|.f h2<|.e) [1,2]
end
def pNl (x:List (List Int) × List Int):Prop:=pLi x.1∧x.2.length≤1048576
instance tNl {x:List (List Int) × List Int}:Tst (pNl x):=⟨(decide (x.1.length≤1048576)&&x.1.all fun l=>decide (l.length≤1048576))&&decide (x.2.length≤1048576),fun h=>by
  rw [Bool.and_eq_true,decide_eq_true_eq] at h;exact h⟩
theorem zqb (x y:List (List Int) × List Int) (h:pNl x∧pNl y):FC Tryz.prog 21 [numK.val x,numK.val y] (.lit (.bool (decide (x=y)))):=by
  obtain ⟨⟨h1,h2⟩,h3,h4⟩:=h
  by_cases e:x.1=y.1
  · have:=sn_0 x y ⟨h1,h3⟩ e ⟨h2,h4⟩
    rwa [show decide (x=y)=decide (x.2=y.2) from decide_eq_decide.2 ⟨fun h=>by rw [h],fun h=>Prod.ext e h⟩]
  · exact litB (fun h=>absurd (congrArg Prod.fst h) e) fun _=>sn_1 x y ⟨h1,h3⟩ e
abbrev zgu:=List (List Int) × List Int
abbrev vecK:EK:=.pr numK numK
abbrev matK:EK:=.pr numK (.pr numK (.pr numK numK))
def ctrD:Ctr:=(21,cD2 numK numK (fun x y=>pNl x∧pNl y) (fun A B=>.lit (.bool (decide (A=B))))) :: ctrB
theorem zm6:∀p∈ctrD,lZ Tryz.prog p.1 p.2:=CAll.cons (zg7 zqb) zm5
theorem okD:(dZ Tryz.prog ctrD bw).OK:=QZ zm6
end Go.Proofs.YtloaeinogiplbaaGreatDoor
end
section
open Go Go.Ev Go.RowKit
namespace Go.Proofs.YtloaeinogiplbaaGreatDoor
open Go.Proofs
set_option maxRecDepth 100000
set_option maxHeartbeats 1000000
set_option linter.unusedVariables false
set_option linter.unusedSimpArgs false
open Go.Kf
abbrev NT:=numK.ty
def adN (p:List Int) (x y:NT):NT:=gvN (plN (tkN p x) (tkN p y))
def suN (p:List Int) (x y:NT):NT:=gvN (plN (tkN p x) (ngN (tkN p y)))
def muN (p:List Int) (x y:NT):NT:=gvN (tmN p (tkN p x) (tkN p y))
def Gd (p:List Int) (x:NT):Prop:=pTk p x.1 x.2∧Bd 800 (tkN p x)
def pOp (p:List Int) (x y:NT):Prop:=Gd p x∧Gd p y
def cO (f:List Int→NT→NT→NT) (args:List AV):M AV:=match args with
  | [r,y,z]=>do
    let p ← zqo r
    let x ← asK numK y
    let x2 ← asK numK z
    tell (pOp p x x2)
    M.pure (.agg [.lst (.sl (.int .i64)) (f p x x2).1,.sq (f p x x2).2])
  | _=>fail 324
noncomputable def ctrQ3:Ctr:=(24,cO adN) :: (26,cO suN) :: (28,cO muN) :: ctrQ2
theorem zbe {p:List Int} {x:NT} (h:Gd p x):Nrm (qO p) (tkN p x):=(tk_ok (A:=20000) h.1 (by decide) (fun l hl=>(h.1.2.2.1 l hl).2) h.1.2.2.2.2).1
theorem bd_pNs {u v:NZ} (bu:Bd 2000 u) (bv:Bd 2000 v) (pu:0<u.2) (pv:0<v.2):pPlN u v:=
  ⟨⟨by omega,bu.2 0,bu.2 1,bu.2 2,bu.2 3,bu.1⟩,⟨by omega,bv.2 0,bv.2 1,bv.2 2,bv.2 3,bv.1⟩,pu,pv⟩
theorem bd_pGv {m:Nat} {u:NZ} (bu:Bd m u) (hm:m≤1048576):pGvN u:=⟨vZ (bu.2 0) hm,vZ (bu.2 1) hm,vZ (bu.2 2) hm,vZ (bu.2 3) hm,vZ bu.1 hm⟩
theorem ad_fc {p:List Int} {x y:NT} (h:pOp p x y):FC Tryz.prog 24 [reA (.lst .whole p),numK.val x,numK.val y] (numK.val (adN p x y)):=by
  have n1:=zbe h.1
  have n2:=zbe h.2
  exact RAdd_fc p x y h.1.1 h.2.1 (bd_pNs (h.1.2.mono (by decide)) (h.2.2.mono (by decide)) n1.pos n2.pos) (bd_pGv (pl_bd h.1.2 h.2.2 n1.pos n2.pos) (by decide))
theorem su_fc {p:List Int} {x y:NT} (h:pOp p x y):FC Tryz.prog 26 [reA (.lst .whole p),numK.val x,numK.val y] (numK.val (suN p x y)):=by
  have n1:=zbe h.1
  have n2:=(ng_ok (qO_4 h.1.1.1) (zbe h.2)).1
  have b2:=ng_bd h.2.2
  exact RSub_fc p x y h.1.1 h.2.1 (bd_pNs (h.1.2.mono (by decide)) (b2.mono (by decide)) n1.pos n2.pos) (bd_pGv (pl_bd h.1.2 b2 n1.pos n2.pos) (by decide))
theorem mu_fc {p:List Int} {x y:NT} (h:pOp p x y):FC Tryz.prog 28 [reA (.lst .whole p),numK.val x,numK.val y] (numK.val (muN p x y)):=by
  have n1:=zbe h.1
  have n2:=zbe h.2
  exact RMul_fc p x y h.1.1 h.2.1 h.1.1.1 (bd_pNs (h.1.2.mono (by decide)) (h.2.2.mono (by decide)) n1.pos n2.pos) (bd_pGv (tm_ok h.1.1.1 n1 n2 h.1.2 h.2.2).2.2 (by decide))
theorem cO_ok {f:List Int→NT→NT→NT} {k:FuncId} (h:∀p x y,pOp p x y→FC Tryz.prog k [reA (.lst .whole p),numK.val x,numK.val y] (numK.val (f p x y))):lZ Tryz.prog k (cO f):=by
  intro args _
  unfold cO
  split
  · exact Spec.bind (asRL_spec.mono fun p hr=>Spec.bind (asK_spec.mono fun x hx=>Spec.bind (asK_spec.mono fun y hy=>Spec.bind (Spec.tell fun hp=>Spec.pure' ((h p x y hp).le (.cons hr (.cons hx (.cons hy .nil))) (Le.refl _))))))
  · exact Spec.fail
theorem ctrQ3_all:∀p∈ctrQ3,lZ Tryz.prog p.1 p.2:=CAll.cons (cO_ok fun _ _ _=>ad_fc)<|CAll.cons (cO_ok fun _ _ _=>su_fc)<|CAll.cons (cO_ok fun _ _ _=>mu_fc) zkQ
abbrev kdQ3:List (TypeId × EK):=kdQ2
theorem okQ3:(dZ Tryz.prog ctrQ3 bw [] kdQ3).OK:=OZ zcM mixed ctrQ3_all zcF
noncomputable section
theorem oC_0 (p:List Int) (u v:vecK.ty) (h1:pOp p u.fst v.snd) (h2:pOp p u.snd v.fst) (h3:pOp p (muN p u.fst v.snd) (muN p u.snd v.fst)):FC Tryz.prog 43 [reA (.lst .whole p),vecK.val u,vecK.val v] (.agg [.lst (EK.sl (.int .i64)) (suN p (muN p u.fst v.snd) (muN p u.snd v.fst)).fst,.sq (suN p (muN p u.fst v.snd) (muN p u.snd v.fst)).snd]):=fZ okQ3 60 [] (.c h1<|.c h2<|.c h3<|.e) [1,2,3]
theorem oY_0 (p:List Int) (m:matK.ty) (v:vecK.ty) (h1:pOp p m.fst v.fst) (h2:pOp p m.snd.fst v.snd) (h3:pOp p (muN p m.fst v.fst) (muN p m.snd.fst v.snd)) (h4:pOp p m.snd.snd.fst v.fst) (h5:pOp p m.snd.snd.snd v.snd) (h6:pOp p (muN p m.snd.snd.fst v.fst) (muN p m.snd.snd.snd v.snd)):FC Tryz.prog 42 [reA (.lst .whole p),matK.val m,vecK.val v] (.agg [.lst (EK.sl (.int .i64)) (adN p (muN p m.fst v.fst) (muN p m.snd.fst v.snd)).fst,.sq (adN p (muN p m.fst v.fst) (muN p m.snd.fst v.snd)).snd,.lst (EK.sl (.int .i64)) (adN p (muN p m.snd.snd.fst v.fst) (muN p m.snd.snd.snd v.snd)).fst,.sq (adN p (muN p m.snd.snd.fst v.fst) (muN p m.snd.snd.snd v.snd)).snd]):=fZ okQ3 60 [] (.c h1<|.c h2<|.c h3<|.c h4<|.c h5<|.c h6<|.e) [1,2,3,4,5,6]
abbrev IZ (m:matK.ty):AV:=.agg [.lst (EK.sl (.int .i64)) m.fst.fst,.sq m.fst.snd,.lst (EK.sl (.int .i64)) m.snd.fst.fst,.sq m.snd.fst.snd,.lst (EK.sl (.int .i64)) m.snd.snd.fst.fst,.sq m.snd.snd.fst.snd,.lst (EK.sl (.int .i64)) m.snd.snd.snd.fst,.sq m.snd.snd.snd.snd]
abbrev zaU (p:List Int) (m:matK.ty) (n:matK.ty):Row:=.flat [.lst (EK.sl (.int .i64)) (adN p (muN p m.fst n.fst) (muN p m.snd.fst n.snd.snd.fst)).fst,.sq (adN p (muN p m.fst n.fst) (muN p m.snd.fst n.snd.snd.fst)).snd,.lst (EK.sl (.int .i64)) (adN p (muN p m.snd.snd.fst n.fst) (muN p m.snd.snd.snd n.snd.snd.fst)).fst,.sq (adN p (muN p m.snd.snd.fst n.fst) (muN p m.snd.snd.snd n.snd.snd.fst)).snd] true
abbrev zaN (m:matK.ty):Row:=.flat [.lst (EK.sl (.int .i64)) m.fst.fst,.sq m.fst.snd,.lst (EK.sl (.int .i64)) m.snd.fst.fst,.sq m.snd.fst.snd,.lst (EK.sl (.int .i64)) m.snd.snd.fst.fst,.sq m.snd.snd.fst.snd,.lst (EK.sl (.int .i64)) m.snd.snd.snd.fst,.sq m.snd.snd.snd.snd] true
abbrev zcC (p:List Int) (m:matK.ty) (n:matK.ty):Row:=.flat [.lst (EK.sl (.int .i64)) (adN p (muN p m.fst n.snd.fst) (muN p m.snd.fst n.snd.snd.snd)).fst,.sq (adN p (muN p m.fst n.snd.fst) (muN p m.snd.fst n.snd.snd.snd)).snd,.lst (EK.sl (.int .i64)) (adN p (muN p m.snd.snd.fst n.snd.fst) (muN p m.snd.snd.snd n.snd.snd.snd)).fst,.sq (adN p (muN p m.snd.snd.fst n.snd.fst) (muN p m.snd.snd.snd n.snd.snd.snd)).snd] true
abbrev zc7 (p:List Int) (m:matK.ty) (n:matK.ty):AV:=.agg [.lst (EK.sl (.int .i64)) (adN p (muN p m.fst n.snd.fst) (muN p m.snd.fst n.snd.snd.snd)).fst,.sq (adN p (muN p m.fst n.snd.fst) (muN p m.snd.fst n.snd.snd.snd)).snd,.lst (EK.sl (.int .i64)) (adN p (muN p m.snd.snd.fst n.snd.fst) (muN p m.snd.snd.snd n.snd.snd.snd)).fst,.sq (adN p (muN p m.snd.snd.fst n.snd.fst) (muN p m.snd.snd.snd n.snd.snd.snd)).snd]
abbrev zc8 (p:List Int) (m:matK.ty) (n:matK.ty):AV:=.agg [.lst (EK.sl (.int .i64)) (adN p (muN p m.fst n.fst) (muN p m.snd.fst n.snd.snd.fst)).fst,.sq (adN p (muN p m.fst n.fst) (muN p m.snd.fst n.snd.snd.fst)).snd,.lst (EK.sl (.int .i64)) (adN p (muN p m.snd.snd.fst n.fst) (muN p m.snd.snd.snd n.snd.snd.fst)).fst,.sq (adN p (muN p m.snd.snd.fst n.fst) (muN p m.snd.snd.snd n.snd.snd.fst)).snd]
abbrev zc9 (n:matK.ty):Row:=.flat [.lst (EK.sl (.int .i64)) n.fst.fst,.sq n.fst.snd,.lst (EK.sl (.int .i64)) n.snd.fst.fst,.sq n.snd.fst.snd,.lst (EK.sl (.int .i64)) n.snd.snd.fst.fst,.sq n.snd.snd.fst.snd,.lst (EK.sl (.int .i64)) n.snd.snd.snd.fst,.sq n.snd.snd.snd.snd] true
abbrev zda (n:matK.ty):AV:=.agg [.lst (EK.sl (.int .i64)) n.fst.fst,.sq n.fst.snd,.lst (EK.sl (.int .i64)) n.snd.fst.fst,.sq n.snd.fst.snd,.lst (EK.sl (.int .i64)) n.snd.snd.fst.fst,.sq n.snd.snd.fst.snd,.lst (EK.sl (.int .i64)) n.snd.snd.snd.fst,.sq n.snd.snd.snd.snd]
abbrev JZ (p:List Int):AV:=.pd [aJ,aJ,aJ,aJ,.lst EK.whole p,aJ,aJ,aJ,aJ,aJ,aJ,aJ] 0
abbrev zdb (n:matK.ty):AV:=.agg [.lst (EK.sl (.int .i64)) n.snd.fst.fst,.sq n.snd.fst.snd,.lst (EK.sl (.int .i64)) n.snd.snd.snd.fst,.sq n.snd.snd.snd.snd]
abbrev zbJ (n:matK.ty):AV:=.agg [.lst (EK.sl (.int .i64)) n.fst.fst,.sq n.fst.snd,.lst (EK.sl (.int .i64)) n.snd.snd.fst.fst,.sq n.snd.snd.fst.snd]
abbrev zd8 (n:matK.ty):Row:=.flat [.lst (EK.sl (.int .i64)) n.fst.fst,.sq n.fst.snd,.lst (EK.sl (.int .i64)) n.snd.snd.fst.fst,.sq n.snd.snd.fst.snd] true
abbrev zbK (n:matK.ty):AV:=.agg [.lst (EK.sl (.int .i64)) n.snd.snd.fst.fst,.sq n.snd.snd.fst.snd]
abbrev zbL (n:matK.ty):AV:=.agg [.lst (EK.sl (.int .i64)) n.snd.snd.snd.fst,.sq n.snd.snd.snd.snd]
abbrev zbM (n:matK.ty):AV:=.agg [.lst (EK.sl (.int .i64)) n.snd.fst.fst,.sq n.snd.fst.snd]
abbrev zbN (n:matK.ty):AV:=.agg [.lst (EK.sl (.int .i64)) n.fst.fst,.sq n.fst.snd]
abbrev zbO:Row:=.flat [aN,aN,aN,aN,aN,aN,aN,aN] true
abbrev oP_0_s0 (p:List Int) (m n:matK.ty):St:=⟨sp 34 [(0,(JZ p)),(1,(IZ m)),(2,(zda n)),(4,.ref 0 0),(5,.ref 1 0),(6,.ref 2 0),(7,.ref 9 0),(8,.ref 10 0),(9,(JZ p)),(10,(IZ m)),(11,.ref 1 0),(12,(zbN n)),(13,.ref 1 4),(14,(zbK n)),(15,(zbJ n)),(16,(zc8 p m n)),(17,(JZ p)),(18,(IZ m)),(19,.ref 1 2),(20,(zbM n)),(21,.ref 1 6),(22,(zbL n)),(23,(zdb n)),(24,(zc7 p m n))],[(zaN m),(zc9 n),zbO,(zaN m),(zd8 n),(zaU p m n),(zaN m),.flat [.lst (EK.sl (.int .i64)) n.snd.fst.fst,.sq n.snd.fst.snd,.lst (EK.sl (.int .i64)) n.snd.snd.snd.fst,.sq n.snd.snd.snd.snd] true,(zcC p m n),(zaU p m n),(zcC p m n)],[5,8]⟩
abbrev oP_0_s1 (p:List Int) (m n:matK.ty):St:=⟨sp 34 [(0,(JZ p)),(1,(IZ m)),(2,(zda n)),(4,.ref 0 0),(5,.ref 1 0),(6,.ref 2 0),(7,.ref 6 0),(8,.ref 7 0),(9,(JZ p)),(10,(IZ m)),(11,.ref 1 0),(12,(zbN n)),(13,.ref 1 4),(14,(zbK n)),(15,(zbJ n)),(16,(zc8 p m n)),(17,(JZ p)),(18,(IZ m)),(19,.ref 1 2),(20,(zbM n)),(21,.ref 1 6),(22,(zbL n)),(23,(zdb n)),(24,(zc7 p m n))],[(zaN m),(zc9 n),zbO,(zaN m),(zd8 n),(zaU p m n),(zaU p m n),(zcC p m n)],[5,6]⟩
abbrev oP_0_s2 (p:List Int) (m n:matK.ty):St:=⟨sp 34 [(0,(JZ p)),(1,(IZ m)),(2,(zda n)),(4,.ref 0 0),(5,.ref 1 0),(6,.ref 2 0),(7,.ref 7 0),(8,.ref 6 0),(9,(JZ p)),(10,(IZ m)),(11,.ref 1 0),(12,(zbN n)),(13,.ref 1 4),(14,(zbK n)),(15,(zbJ n)),(16,(zc8 p m n)),(17,(JZ p)),(18,(IZ m)),(19,.ref 1 2),(20,(zbM n)),(21,.ref 1 6),(22,(zbL n)),(23,(zdb n)),(24,(zc7 p m n))],[(zaN m),(zc9 n),zbO,(zaN m),(zd8 n),(zaU p m n),(zcC p m n),(zaU p m n)],[5,6]⟩
abbrev oP_0_s3 (p:List Int) (m n:matK.ty):St:=⟨sp 34 [(0,(JZ p)),(1,(IZ m)),(2,(zda n)),(4,.ref 0 0),(5,.ref 1 0),(6,.ref 2 0),(7,.ref 6 0),(8,.ref 7 0),(9,(JZ p)),(10,(IZ m)),(11,.ref 1 0),(12,(zbN n)),(13,.ref 1 4),(14,(zbK n)),(15,(zbJ n)),(16,(zc8 p m n)),(17,(JZ p)),(18,(IZ m)),(19,.ref 1 2),(20,(zbM n)),(21,.ref 1 6),(22,(zbL n)),(23,(zdb n)),(24,(zc7 p m n))],[(zaN m),(zc9 n),zbO,(zaN m),(zd8 n),(zaU p m n),(zaU p m n),(zcC p m n)],[5]⟩
abbrev oP_0_s4 (p:List Int) (m n:matK.ty):St:=⟨sp 34 [(0,(JZ p)),(1,(IZ m)),(2,(zda n)),(4,.ref 0 0),(5,.ref 1 0),(6,.ref 2 0),(7,.ref 3 0),(8,.ref 7 0),(9,(JZ p)),(10,(IZ m)),(11,.ref 1 0),(12,(zbN n)),(13,.ref 1 4),(14,(zbK n)),(15,(zbJ n)),(16,(zc8 p m n)),(17,(JZ p)),(18,(IZ m)),(19,.ref 1 2),(20,(zbM n)),(21,.ref 1 6),(22,(zbL n)),(23,(zdb n)),(24,(zc7 p m n))],[(zaN m),(zc9 n),zbO,(zaU p m n),(zaN m),(zd8 n),(zaU p m n),(zcC p m n)],[3,6]⟩
abbrev oP_0_s5 (p:List Int) (m n:matK.ty):St:=⟨sp 34 [(0,(JZ p)),(1,(IZ m)),(2,(zda n)),(4,.ref 0 0),(5,.ref 1 0),(6,.ref 2 0),(7,.ref 3 0),(8,.ref 4 0),(9,(JZ p)),(10,(IZ m)),(11,.ref 1 0),(12,(zbN n)),(13,.ref 1 4),(14,(zbK n)),(15,(zbJ n)),(16,(zc8 p m n)),(17,(JZ p)),(18,(IZ m)),(19,.ref 1 2),(20,(zbM n)),(21,.ref 1 6),(22,(zbL n)),(23,(zdb n)),(24,(zc7 p m n))],[(zaN m),(zc9 n),zbO,(zaU p m n),(zcC p m n)],[3]⟩
abbrev oP_0_s6 (p:List Int) (m n:matK.ty):St:=⟨sp 34 [(0,(JZ p)),(1,(IZ m)),(2,(zda n)),(4,.ref 0 0),(5,.ref 1 0),(6,.ref 2 0),(7,.ref 7 0),(8,.ref 3 0),(9,(JZ p)),(10,(IZ m)),(11,.ref 1 0),(12,(zbN n)),(13,.ref 1 4),(14,(zbK n)),(15,(zbJ n)),(16,(zc8 p m n)),(17,(JZ p)),(18,(IZ m)),(19,.ref 1 2),(20,(zbM n)),(21,.ref 1 6),(22,(zbL n)),(23,(zdb n)),(24,(zc7 p m n))],[(zaN m),(zc9 n),zbO,(zcC p m n),(zaN m),(zd8 n),(zaU p m n),(zaU p m n)],[3,6]⟩
abbrev oP_0_s7 (p:List Int) (m n:matK.ty):St:=⟨sp 34 [(0,(JZ p)),(1,(IZ m)),(2,(zda n)),(4,.ref 0 0),(5,.ref 1 0),(6,.ref 2 0),(7,.ref 4 0),(8,.ref 3 0),(9,(JZ p)),(10,(IZ m)),(11,.ref 1 0),(12,(zbN n)),(13,.ref 1 4),(14,(zbK n)),(15,(zbJ n)),(16,(zc8 p m n)),(17,(JZ p)),(18,(IZ m)),(19,.ref 1 2),(20,(zbM n)),(21,.ref 1 6),(22,(zbL n)),(23,(zdb n)),(24,(zc7 p m n))],[(zaN m),(zc9 n),zbO,(zcC p m n),(zaU p m n)],[3]⟩
abbrev oP_0_s8 (p:List Int) (m n:matK.ty):St:=⟨sp 34 [(0,(JZ p)),(1,(IZ m)),(2,(zda n)),(4,.ref 0 0),(5,.ref 1 0),(6,.ref 2 0),(7,.ref 3 0),(8,.ref 4 0),(9,(JZ p)),(10,(IZ m)),(11,.ref 1 0),(12,(zbN n)),(13,.ref 1 4),(14,(zbK n)),(15,(zbJ n)),(16,(zc8 p m n)),(17,(JZ p)),(18,(IZ m)),(19,.ref 1 2),(20,(zbM n)),(21,.ref 1 6),(22,(zbL n)),(23,(zdb n)),(24,(zc7 p m n))],[(zaN m),(zc9 n),zbO,(zaU p m n),(zcC p m n)],[]⟩
theorem oP_0 (p:List Int) (m n:matK.ty) (h1:pOp p m.fst n.fst) (h2:pOp p m.snd.fst n.snd.snd.fst) (h3:pOp p (muN p m.fst n.fst) (muN p m.snd.fst n.snd.snd.fst)) (h4:pOp p m.snd.snd.fst n.fst) (h5:pOp p m.snd.snd.snd n.snd.snd.fst) (h6:pOp p (muN p m.snd.snd.fst n.fst) (muN p m.snd.snd.snd n.snd.snd.fst)) (h7:pOp p m.fst n.snd.fst) (h8:pOp p m.snd.fst n.snd.snd.snd) (h9:pOp p (muN p m.fst n.snd.fst) (muN p m.snd.fst n.snd.snd.snd)) (h10:pOp p m.snd.snd.fst n.snd.fst) (h11:pOp p m.snd.snd.snd n.snd.snd.snd) (h12:pOp p (muN p m.snd.snd.fst n.snd.fst) (muN p m.snd.snd.snd n.snd.snd.snd)):FC Tryz.prog 40 [reA (.lst .whole p),matK.val m,matK.val n] (.agg [.lst (EK.sl (.int .i64)) (adN p (muN p m.fst n.fst) (muN p m.snd.fst n.snd.snd.fst)).fst,.sq (adN p (muN p m.fst n.fst) (muN p m.snd.fst n.snd.snd.fst)).snd,.lst (EK.sl (.int .i64)) (adN p (muN p m.fst n.snd.fst) (muN p m.snd.fst n.snd.snd.snd)).fst,.sq (adN p (muN p m.fst n.snd.fst) (muN p m.snd.fst n.snd.snd.snd)).snd,.lst (EK.sl (.int .i64)) (adN p (muN p m.snd.snd.fst n.fst) (muN p m.snd.snd.snd n.snd.snd.fst)).fst,.sq (adN p (muN p m.snd.snd.fst n.fst) (muN p m.snd.snd.snd n.snd.snd.fst)).snd,.lst (EK.sl (.int .i64)) (adN p (muN p m.snd.snd.fst n.snd.fst) (muN p m.snd.snd.snd n.snd.snd.snd)).fst,.sq (adN p (muN p m.snd.snd.fst n.snd.fst) (muN p m.snd.snd.snd n.snd.snd.snd)).snd]):=fZ okQ3 60 [] (.c h1<|.c h2<|.c h3<|.c h4<|.c h5<|.c h6<|.c h7<|.c h8<|.c h9<|.c h10<|.c h11<|.c h12<|.s (oP_0_s0 p m n)<|.s (oP_0_s1 p m n)<|.s (oP_0_s2 p m n)<|.s (oP_0_s3 p m n)<|.s (oP_0_s4 p m n)<|.s (oP_0_s5 p m n)<|.s (oP_0_s6 p m n)<|.s (oP_0_s7 p m n)<|.s (oP_0_s8 p m n)<|.e) [1,2,3,4,5,6,7,8,9,10,11,12,13,7,8,9,10,11,12,7,8,9,10,11,12,14,7,8,9,10,11,12,7,8,9,10,11,12,15,16,16,1,2,3,4,5,6,7,8,9,10,11,12,7,8,9,10,11,12,17,1,2,3,4,5,6,7,8,9,10,11,12,18,1,2,3,4,5,6,7,8,9,10,11,12,7,8,9,10,11,12,19,1,2,3,4,5,6,7,8,9,10,11,12,20,21,21]
end
def crN (p:List Int) (u v:vecK.ty):NT:=suN p (muN p u.1 v.2) (muN p u.2 v.1)
def apN (p:List Int) (m:matK.ty) (v:vecK.ty):vecK.ty:=(adN p (muN p m.1 v.1) (muN p m.2.1 v.2),adN p (muN p m.2.2.1 v.1) (muN p m.2.2.2 v.2))
def prN (p:List Int) (m n:matK.ty):matK.ty:=(adN p (muN p m.1 n.1) (muN p m.2.1 n.2.2.1),adN p (muN p m.1 n.2.1) (muN p m.2.1 n.2.2.2),adN p (muN p m.2.2.1 n.1) (muN p m.2.2.2 n.2.2.1),adN p (muN p m.2.2.1 n.2.1) (muN p m.2.2.2 n.2.2.2))
def pDt (p:List Int) (a b c d:NT):Prop:=pOp p a b∧pOp p c d∧pOp p (muN p a b) (muN p c d)
theorem cr_fc {p:List Int} {u v:vecK.ty} (h:pDt p u.1 v.2 u.2 v.1):FC Tryz.prog 43 [reA (.lst .whole p),vecK.val u,vecK.val v] (numK.val (crN p u v)):=oC_0 p u v h.1 h.2.1 h.2.2
theorem ap_fc {p:List Int} {m:matK.ty} {v:vecK.ty} (h:pDt p m.1 v.1 m.2.1 v.2∧pDt p m.2.2.1 v.1 m.2.2.2 v.2):FC Tryz.prog 42 [reA (.lst .whole p),matK.val m,vecK.val v] (vecK.val (apN p m v)):=oY_0 p m v h.1.1 h.1.2.1 h.1.2.2 h.2.1 h.2.2.1 h.2.2.2
theorem pr_fc {p:List Int} {m n:matK.ty} (h:pDt p m.1 n.1 m.2.1 n.2.2.1∧pDt p m.1 n.2.1 m.2.1 n.2.2.2∧pDt p m.2.2.1 n.1 m.2.2.2 n.2.2.1∧pDt p m.2.2.1 n.2.1 m.2.2.2 n.2.2.2):FC Tryz.prog 40 [reA (.lst .whole p),matK.val m,matK.val n] (matK.val (prN p m n)):=oP_0 p m n h.1.1 h.1.2.1 h.1.2.2 h.2.2.1.1 h.2.2.1.2.1 h.2.2.1.2.2 h.2.1.1 h.2.1.2.1 h.2.1.2.2 h.2.2.2.1 h.2.2.2.2.1 h.2.2.2.2.2
end Go.Proofs.YtloaeinogiplbaaGreatDoor
end
section
open Go Go.Ev Go.RowKit
namespace Go.Proofs.YtloaeinogiplbaaGreatDoor
open Go.Proofs
set_option maxRecDepth 100000
set_option maxHeartbeats 1000000
set_option linter.unusedVariables false
set_option linter.unusedSimpArgs false
noncomputable section
end
open Go.Kf
theorem znZ {q c:List Int} (h:zn4 q c):(zaX c).length≤q.length:=by
  rcases zf2 c with h0 | h0
  · rw [h0];exact Nat.zero_le _
  · apply Nat.le_of_not_lt
    intro hlt
    apply h0
    rw [List.getLastD_eq_getLast?,List.getLast?_eq_getElem?]
    have:=zbZ c ((zaX c).length-1)
    rw [h _ (by omega),List.getD_eq_getElem?_getD] at this
    exact this
theorem ziR {m:Nat} {z:Int} (h:Sz m z) (hm:m≤20000):zbu (aZ z):=by
  refine ⟨?_,fun d hd=>?_⟩
  · rw [eZ]
    have:dl z≤m:=TZ _ _ h
    omega
  · have:=zdH z d hd
    unfold bZ
    omega
def Nb (p:List Int) (m:Nat) (x:NT):Prop:=pTk p x.1 x.2∧Bd m (tkN p x)
theorem Nb.gd {p:List Int} {m:Nat} {x:NT} (h:Nb p m x) (hm:m≤800):Gd p x:=⟨h.1,h.2.mono hm⟩
def Cn (p:List Int) (x:NT):Prop:=∃u,Nrm (qO p) u∧x=gvN u
theorem gv_nb {p:List Int} (h:zls p) {u:NZ} (hu:Nrm (qO p) u) {m:Nat} (hb:Bd m u) (hm:m≤20000):Nb p m (gvN u):=by
  refine ⟨⟨h,?_,?_,ziR hb.1 hm,?_⟩,?_⟩
  · show((zaX u.1).map aZ).length≤100
    rw [List.length_map]
    have:=znZ hu.sh
    have:=qO_4 h
    omega
  · intro l hl
    obtain ⟨z,hz,rfl⟩:=List.mem_map.1 hl
    obtain ⟨i,hi,rfl⟩:=List.getElem_of_mem hz
    have e:=zbZ u.1 i
    rw [List.getD_eq_getElem?_getD,List.getElem?_eq_getElem hi,Option.getD_some] at e
    have s:Sz m (zaX u.1)[i]:=by rw [e];exact hb.2 i
    exact ⟨ziR s hm,by rw [cZ];exact s.mono hm⟩
  · show Sz 20000 (vl (aZ u.2))
    rw [cZ];exact hb.1.mono hm
  · rw [tk_gv h hu];exact hb
section
variable {p:List Int} [hq:Fact' (1≤(qO p).length)]
abbrev FR (p:List Int):Type:=F (qO p).length (pV (qO p))
def fv (p:List Int) [hq:Fact' (1≤(qO p).length)] (x:NT):FR p:=⟨nv (qO p) (tkN p x),sup_val hq.ok _ _⟩
def Op (m:Nat) (x:NT) (f:FR p):Prop:=Nb p m x∧fv p x=f
theorem op_gv (h:zls p) {u:NZ} (hu:Nrm (qO p) u) {m:Nat} (hb:Bd m u) (hm:m≤20000) {f:FR p} (hf:nv (qO p) u=f.1):Op m (gvN u) f:=
  ⟨gv_nb h hu hb hm,Subtype.ext (by show nv (qO p) (tkN p (gvN u))=f.1;rw [tk_gv h hu];exact hf)⟩
theorem ad_op {m k:Nat} {x y:NT} {f g:FR p} (hx:Op m x f) (hy:Op k y g) (hm:m≤800) (hk:k≤800):Op (m+k+1) (adN p x y) (CR.add f g):=by
  have h:=hx.1.1.1
  have n1:=zbe (hx.1.gd hm)
  have n2:=zbe (hy.1.gd hk)
  have ⟨n3,v3⟩:=pl_ok (qO_4 h) n1 n2
  exact op_gv h n3 (pl_bd hx.1.2 hy.1.2 n1.pos n2.pos) (by omega) (by rw [v3,← hx.2,← hy.2];rfl)
theorem su_op {m k:Nat} {x y:NT} {f g:FR p} (hx:Op m x f) (hy:Op k y g) (hm:m≤800) (hk:k≤800):Op (m+k+1) (suN p x y) (CR.add f (CR.neg g)):=by
  have h:=hx.1.1.1
  have n1:=zbe (hx.1.gd hm)
  have ⟨n2,v2⟩:=ng_ok (qO_4 h) (zbe (hy.1.gd hk))
  have ⟨n3,v3⟩:=pl_ok (qO_4 h) n1 n2
  exact op_gv h n3 (pl_bd hx.1.2 (ng_bd hy.1.2) n1.pos n2.pos) (by omega) (by rw [v3,v2,← hx.2,← hy.2];rfl)
theorem zoB {m k:Nat} {x y:NT} {f g:FR p} (hx:Op m x f) (hy:Op k y g) (hm:m≤800) (hk:k≤800):Op (m+k+10) (muN p x y) (CR.mul f g):=by
  have h:=hx.1.1.1
  have ⟨n3,v3,b3⟩:=tm_ok h (zbe (hx.1.gd hm)) (zbe (hy.1.gd hk)) hx.1.2 hy.1.2
  exact op_gv h n3 b3 (by omega) (by rw [v3,← hx.2,← hy.2];rfl)
omit hq in
theorem Op.of {m:Nat} {x:NT} [hq:Fact' (1≤(qO p).length)] (h:Nb p m x):Op m x (fv p x):=⟨h,rfl⟩
omit hq in
theorem cn_ad {x y:NT} (hx:Gd p x) (hy:Gd p y):Cn p (adN p x y):=⟨_,(pl_ok (qO_4 hx.1.1) (zbe hx) (zbe hy)).1,rfl⟩
omit hq in
theorem cn_su {x y:NT} (hx:Gd p x) (hy:Gd p y):Cn p (suN p x y):=⟨_,(pl_ok (qO_4 hx.1.1) (zbe hx) (ng_ok (qO_4 hx.1.1) (zbe hy)).1).1,rfl⟩
omit hq in
theorem cn_mu {x y:NT} (hx:Gd p x) (hy:Gd p y):Cn p (muN p x y):=⟨_,(tm_ok hx.1.1 (zbe hx) (zbe hy) hx.2 hy.2).1,rfl⟩
theorem op_eq {m k:Nat} {x y:NT} {f g:FR p} (hx:Op m x f) (hy:Op k y g) (cx:Cn p x) (cy:Cn p y) (h:f=g):x=y:=by
  obtain ⟨u,hu,rfl⟩:=cx
  obtain ⟨v,hv,rfl⟩:=cy
  have hP:=hx.1.1.1
  have e:=hx.2.trans (h.trans hy.2.symm)
  have e1:nv (qO p) (tkN p (gvN u))=nv (qO p) (tkN p (gvN v)):=congrArg Subtype.val e
  rw [tk_gv hP hu,tk_gv hP hv] at e1
  rw [nv_inj hu hv e1]
end
theorem Op.dt {p:List Int} [hq:Fact' (1≤(qO p).length)] {i j k l:Nat} {a b c d:NT} {f g h e:FR p} (ha:Op i a f) (hb:Op j b g) (hc:Op k c h) (hd:Op l d e) (s1:i+j+10≤800) (s2:k+l+10≤800):pDt p a b c d:=
  ⟨⟨ha.1.gd (by omega),hb.1.gd (by omega)⟩,⟨hc.1.gd (by omega),hd.1.gd (by omega)⟩,(zoB ha hb (by omega) (by omega)).1.gd s1,(zoB hc hd (by omega) (by omega)).1.gd s2⟩
noncomputable section
end
open Go.Kf
def dtN (p:List Int) (m:matK.ty):NT:=suN p (muN p m.1 m.2.2.2) (muN p m.2.1 m.2.2.1)
section
variable {p:List Int} [hq:Fact' (1≤(qO p).length)]
def OV (m:Nat) (u:vecK.ty) (f:FR p × FR p):Prop:=Op m u.1 f.1∧Op m u.2 f.2
def OM (m:Nat) (u:matK.ty) (f:FR p × FR p × FR p × FR p):Prop:=Op m u.1 f.1∧Op m u.2.1 f.2.1∧Op m u.2.2.1 f.2.2.1∧Op m u.2.2.2 f.2.2.2
abbrev aR (a b c d:FR p):FR p:=CR.add (CR.mul a b) (CR.mul c d)
abbrev sR (a b c d:FR p):FR p:=CR.add (CR.mul a b) (CR.neg (CR.mul c d))
theorem two {i j k:Nat} {a b c d:NT} {f g h e:FR p} (ha:Op i a f) (hb:Op j b g) (hc:Op i c h) (hd:Op j d e) (hs:i+j+10≤800) (hk:k=2*(i+j)+21):pDt p a b c d∧Op k (adN p (muN p a b) (muN p c d)) (aR f g h e)∧Op k (suN p (muN p a b) (muN p c d)) (sR f g h e):=by
  subst hk
  have h1:=zoB ha hb (by omega) (by omega)
  have h2:=zoB hc hd (by omega) (by omega)
  have e:i+j+10+(i+j+10)+1=2*(i+j)+21:=by omega
  exact ⟨ha.dt hb hc hd hs hs,e▸ad_op h1 h2 hs hs,e▸su_op h1 h2 hs hs⟩
def PrC (p:List Int) (m n:matK.ty):Prop:=pDt p m.1 n.1 m.2.1 n.2.2.1∧pDt p m.1 n.2.1 m.2.1 n.2.2.2∧pDt p m.2.2.1 n.1 m.2.2.2 n.2.2.1∧pDt p m.2.2.1 n.2.1 m.2.2.2 n.2.2.2
def ApC (p:List Int) (m:matK.ty) (v:vecK.ty):Prop:=pDt p m.1 v.1 m.2.1 v.2∧pDt p m.2.2.1 v.1 m.2.2.2 v.2
def CrC (p:List Int) (u v:vecK.ty):Prop:=pDt p u.1 v.2 u.2 v.1
def DtC (p:List Int) (m:matK.ty):Prop:=pDt p m.1 m.2.2.2 m.2.1 m.2.2.1
theorem pr_op {i j k:Nat} {m n:matK.ty} {f g:FR p × FR p × FR p × FR p} (hm:OM i m f) (hn:OM j n g) (hs:i+j+10≤800) (hk:k=2*(i+j)+21):PrC p m n∧OM k (prN p m n) (aR f.1 g.1 f.2.1 g.2.2.1,aR f.1 g.2.1 f.2.1 g.2.2.2,aR f.2.2.1 g.1 f.2.2.2 g.2.2.1,aR f.2.2.1 g.2.1 f.2.2.2 g.2.2.2):=by
  have h1:=two hm.1 hn.1 hm.2.1 hn.2.2.1 hs hk
  have h2:=two hm.1 hn.2.1 hm.2.1 hn.2.2.2 hs hk
  have h3:=two hm.2.2.1 hn.1 hm.2.2.2 hn.2.2.1 hs hk
  have h4:=two hm.2.2.1 hn.2.1 hm.2.2.2 hn.2.2.2 hs hk
  exact ⟨⟨h1.1,h2.1,h3.1,h4.1⟩,h1.2.1,h2.2.1,h3.2.1,h4.2.1⟩
theorem ap_op {i j k:Nat} {m:matK.ty} {v:vecK.ty} {f:FR p × FR p × FR p × FR p} {g:FR p × FR p} (hm:OM i m f) (hv:OV j v g) (hs:i+j+10≤800) (hk:k=2*(i+j)+21):ApC p m v∧OV k (apN p m v) (aR f.1 g.1 f.2.1 g.2,aR f.2.2.1 g.1 f.2.2.2 g.2):=by
  have h1:=two hm.1 hv.1 hm.2.1 hv.2 hs hk
  have h2:=two hm.2.2.1 hv.1 hm.2.2.2 hv.2 hs hk
  exact ⟨⟨h1.1,h2.1⟩,h1.2.1,h2.2.1⟩
theorem cr_op {i j k:Nat} {u v:vecK.ty} {f g:FR p × FR p} (hu:OV i u f) (hv:OV j v g) (hs:i+j+10≤800) (hk:k=2*(i+j)+21):CrC p u v∧Op k (crN p u v) (sR f.1 g.2 f.2 g.1):=by
  have h1:=two hu.1 hv.2 hu.2 hv.1 hs hk
  exact ⟨h1.1,h1.2.2⟩
theorem dt_op {i k:Nat} {m:matK.ty} {f:FR p × FR p × FR p × FR p} (hm:OM i m f) (hs:i+i+10≤800) (hk:k=2*(i+i)+21):DtC p m∧Op k (dtN p m) (sR f.1 f.2.2.2 f.2.1 f.2.2.1):=by
  have h1:=two hm.1 hm.2.2.2 hm.2.1 hm.2.2.1 hs hk
  exact ⟨h1.1,h1.2.2⟩
omit hq in
theorem zip {a b c d:NT} (h:pDt p a b c d):Cn p (adN p (muN p a b) (muN p c d))∧Cn p (suN p (muN p a b) (muN p c d)):=⟨cn_ad h.2.2.1 h.2.2.2,cn_su h.2.2.1 h.2.2.2⟩
end
abbrev eM {R:Type} [CR R] (a b c d e f g h x y z w:R):Nat→R:=fun i=>[a,b,c,d,e,f,g,h,x,y,z,w].getD i CR.zero
theorem cn_nl {p:List Int} {x:NT} {m:Nat} (hc:Cn p x) (hb:Nb p m x) (hm:m≤1048576):pNl x:=by
  obtain ⟨u,hu,rfl⟩:=hc
  have hP:=hb.1.1
  have b:Bd m u:=by have:=hb.2;rwa [tk_gv hP hu] at this
  refine ⟨pLi_iff.2 ⟨?_,fun l hl=>?_⟩,?_⟩
  · show((zaX u.1).map aZ).length≤1048576
    rw [List.length_map]
    have:=znZ hu.sh
    have:=qO_4 hP
    omega
  · obtain ⟨z,hz,rfl⟩:=List.mem_map.1 hl
    obtain ⟨i,hi,rfl⟩:=List.getElem_of_mem hz
    have e:=zbZ u.1 i
    rw [List.getD_eq_getElem?_getD,List.getElem?_eq_getElem hi,Option.getD_some] at e
    have s:Sz m (zaX u.1)[i]:=by rw [e];exact b.2 i
    rw [eZ]
    exact Nat.le_trans (TZ _ _ s) hm
  · show(aZ u.2).length≤1048576
    rw [eZ]
    exact Nat.le_trans (TZ _ _ b.1) hm
structure PlC (p:List Int) (M N:matK.ty) (U W:vecK.ty):Prop where
  mn:PrC p M N
  c1:ApC p (prN p M N) U
  c2:ApC p N U
  c3:ApC p M (apN p N U)
  c4:ApC p M U
  c5:ApC p M W
  c6:CrC p (apN p M U) (apN p M W)
  c7:DtC p M
  c8:CrC p U W
  c9:pOp p (dtN p M) (crN p U W)
  c10:DtC p (prN p M N)
  c11:DtC p N
  c12:pOp p (dtN p M) (dtN p N)
  m1:pNl (apN p (prN p M N) U).1∧pNl (apN p (prN p M N) U).2
  m2:pNl (crN p (apN p M U) (apN p M W))
  m3:pNl (dtN p (prN p M N))
  e1:apN p (prN p M N) U=apN p M (apN p N U)
  e2:crN p (apN p M U) (apN p M W)=muN p (dtN p M) (crN p U W)
  e3:dtN p (prN p M N)=muN p (dtN p M) (dtN p N)
def NbV (p:List Int) (m:Nat) (v:vecK.ty):Prop:=Nb p m v.1∧Nb p m v.2
def NbM (p:List Int) (m:Nat) (v:matK.ty):Prop:=Nb p m v.1∧Nb p m v.2.1∧Nb p m v.2.2.1∧Nb p m v.2.2.2
theorem planes {p:List Int} {M N:matK.ty} {U W:vecK.ty} (hp:zls p) (hM:NbM p 17 M) (hN:NbM p 17 N) (hU:NbV p 17 U) (hW:NbV p 17 W):PlC p M N U W:=by
  haveI:Fact' (1≤(qO p).length):=⟨qO_1 hp⟩
  have oM:OM 17 M (fv p M.1,fv p M.2.1,fv p M.2.2.1,fv p M.2.2.2):=⟨.of hM.1,.of hM.2.1,.of hM.2.2.1,.of hM.2.2.2⟩
  have oN:OM 17 N (fv p N.1,fv p N.2.1,fv p N.2.2.1,fv p N.2.2.2):=⟨.of hN.1,.of hN.2.1,.of hN.2.2.1,.of hN.2.2.2⟩
  have oU:OV 17 U (fv p U.1,fv p U.2):=⟨.of hU.1,.of hU.2⟩
  have oW:OV 17 W (fv p W.1,fv p W.2):=⟨.of hW.1,.of hW.2⟩
  have ⟨mn,omn⟩:=pr_op oM oN (k:=89) (by omega) (by omega)
  have ⟨c1,o1⟩:=ap_op omn oU (k:=233) (by omega) (by omega)
  have ⟨c2,o2⟩:=ap_op oN oU (k:=89) (by omega) (by omega)
  have ⟨c3,o3⟩:=ap_op oM o2 (k:=233) (by omega) (by omega)
  have ⟨c4,o4⟩:=ap_op oM oU (k:=89) (by omega) (by omega)
  have ⟨c5,o5⟩:=ap_op oM oW (k:=89) (by omega) (by omega)
  have ⟨c6,o6⟩:=cr_op o4 o5 (k:=377) (by omega) (by omega)
  have ⟨c7,o7⟩:=dt_op oM (k:=89) (by omega) (by omega)
  have ⟨c8,o8⟩:=cr_op oU oW (k:=89) (by omega) (by omega)
  have ⟨c10,o10⟩:=dt_op omn (k:=377) (by omega) (by omega)
  have ⟨c11,o11⟩:=dt_op oN (k:=89) (by omega) (by omega)
  have c9:pOp p (dtN p M) (crN p U W):=⟨o7.1.gd (by omega),o8.1.gd (by omega)⟩
  have c12:pOp p (dtN p M) (dtN p N):=⟨o7.1.gd (by omega),o11.1.gd (by omega)⟩
  have o9:=zoB o7 o8 (by omega) (by omega)
  have o12:=zoB o7 o11 (by omega) (by omega)
  let E:=eM (fv p M.1) (fv p M.2.1) (fv p M.2.2.1) (fv p M.2.2.2) (fv p N.1) (fv p N.2.1) (fv p N.2.2.1) (fv p N.2.2.2) (fv p U.1) (fv p U.2) (fv p W.1) (fv p W.2)
  let v:=RE.v
  let A:=fun a b c d:RE=>RE.add (.mul a b) (.mul c d)
  let S:=fun a b c d:RE=>RE.sub (.mul a b) (.mul c d)
  have q1:=zj6 (e:=E) (A (A (v 0) (v 4) (v 1) (v 6)) (v 8) (A (v 0) (v 5) (v 1) (v 7)) (v 9)) (A (v 0) (A (v 4) (v 8) (v 5) (v 9)) (v 1) (A (v 6) (v 8) (v 7) (v 9))) (by decide)
  have q2:=zj6 (e:=E) (A (A (v 2) (v 4) (v 3) (v 6)) (v 8) (A (v 2) (v 5) (v 3) (v 7)) (v 9)) (A (v 2) (A (v 4) (v 8) (v 5) (v 9)) (v 3) (A (v 6) (v 8) (v 7) (v 9))) (by decide)
  have q3:=zj6 (e:=E) (S (A (v 0) (v 8) (v 1) (v 9)) (A (v 2) (v 10) (v 3) (v 11)) (A (v 2) (v 8) (v 3) (v 9)) (A (v 0) (v 10) (v 1) (v 11))) (.mul (S (v 0) (v 3) (v 1) (v 2)) (S (v 8) (v 11) (v 9) (v 10))) (by decide)
  have q4:=zj6 (e:=E) (S (A (v 0) (v 4) (v 1) (v 6)) (A (v 2) (v 5) (v 3) (v 7)) (A (v 0) (v 5) (v 1) (v 7)) (A (v 2) (v 4) (v 3) (v 6))) (.mul (S (v 0) (v 3) (v 1) (v 2)) (S (v 4) (v 7) (v 5) (v 6))) (by decide)
  exact ⟨mn,c1,c2,c3,c4,c5,c6,c7,c8,c9,c10,c11,c12,⟨cn_nl (zip c1.1).1 o1.1.1 (by omega),cn_nl (zip c1.2).1 o1.2.1 (by omega)⟩,cn_nl (zip c6).2 o6.1 (by omega),cn_nl (zip c10).2 o10.1 (by omega),Prod.ext (op_eq o1.1 o3.1 (zip c1.1).1 (zip c3.1).1 q1) (op_eq o1.2 o3.2 (zip c1.2).1 (zip c3.2).1 q2),op_eq o6 o9 (zip c6).2 (cn_mu c9.1 c9.2) q3,op_eq o10 o12 (zip c10).2 (cn_mu c12.1 c12.2) q4⟩
noncomputable section
end
open Go.Kf
noncomputable section
theorem sv_0 (a b c d:zgu) (h1:pNl (a,b).fst∧pNl (c,d).fst) (h2:(a,b).fst=(c,d).fst) (h3:pNl (a,b).snd∧pNl (c,d).snd):FC Tryz.prog 41 [vecK.val (a,b),vecK.val (c,d)] (.lit (.bool (decide ((a,b).snd=(c,d).snd)))):=fZ okD 60 [1] (.c h1<|.t h2<|.c h3<|.e) [1,2,3]
theorem sv_1 (a b c d:zgu) (h1:pNl (a,b).fst∧pNl (c,d).fst) (h2:¬((a,b).fst=(c,d).fst)):FC Tryz.prog 41 [vecK.val (a,b),vecK.val (c,d)] (.ff):=fZ okD 60 [0] (.c h1<|.f h2<|.e) [1,2]
theorem sm_0 (a b c d f g i j:zgu) (h1:pNl (a,b,c,d).fst∧pNl (f,g,i,j).fst) (h2:(a,b,c,d).fst=(f,g,i,j).fst) (h3:pNl (a,b,c,d).snd.fst∧pNl (f,g,i,j).snd.fst) (h4:(a,b,c,d).snd.fst=(f,g,i,j).snd.fst) (h5:pNl (a,b,c,d).snd.snd.fst∧pNl (f,g,i,j).snd.snd.fst) (h6:(a,b,c,d).snd.snd.fst=(f,g,i,j).snd.snd.fst) (h7:pNl (a,b,c,d).snd.snd.snd∧pNl (f,g,i,j).snd.snd.snd):FC Tryz.prog 51 [matK.val (a,b,c,d),matK.val (f,g,i,j)] (.lit (.bool (decide ((a,b,c,d).snd.snd.snd=(f,g,i,j).snd.snd.snd)))):=fZ okD 60 [1,1,1] (.c h1<|.t h2<|.c h3<|.t h4<|.c h5<|.t h6<|.c h7<|.e) [1,2,3,4,5,6,7]
theorem sm_1 (a b c d g i j l:zgu) (h1:pNl (a,b,c,d).fst∧pNl (g,i,j,l).fst) (h2:(a,b,c,d).fst=(g,i,j,l).fst) (h3:pNl (a,b,c,d).snd.fst∧pNl (g,i,j,l).snd.fst) (h4:(a,b,c,d).snd.fst=(g,i,j,l).snd.fst) (h5:pNl (a,b,c,d).snd.snd.fst∧pNl (g,i,j,l).snd.snd.fst) (h6:¬((a,b,c,d).snd.snd.fst=(g,i,j,l).snd.snd.fst)):FC Tryz.prog 51 [matK.val (a,b,c,d),matK.val (g,i,j,l)] (.ff):=fZ okD 60 [1,1,0] (.c h1<|.t h2<|.c h3<|.t h4<|.c h5<|.f h6<|.e) [1,2,3,4,5,6]
theorem sm_2 (a b c d g i j l:zgu) (h1:pNl (a,b,c,d).fst∧pNl (g,i,j,l).fst) (h2:(a,b,c,d).fst=(g,i,j,l).fst) (h3:pNl (a,b,c,d).snd.fst∧pNl (g,i,j,l).snd.fst) (h4:¬((a,b,c,d).snd.fst=(g,i,j,l).snd.fst)):FC Tryz.prog 51 [matK.val (a,b,c,d),matK.val (g,i,j,l)] (.ff):=fZ okD 60 [1,0] (.c h1<|.t h2<|.c h3<|.f h4<|.e) [1,2,3,4]
theorem sm_3 (a b c d g i j l:zgu) (h1:pNl (a,b,c,d).fst∧pNl (g,i,j,l).fst) (h2:¬((a,b,c,d).fst=(g,i,j,l).fst)):FC Tryz.prog 51 [matK.val (a,b,c,d),matK.val (g,i,j,l)] (.ff):=fZ okD 60 [0] (.c h1<|.f h2<|.e) [1,2]
end
def pVe (x:zgu × zgu):Prop:=pNl x.1∧pNl x.2
def pMa (x:zgu × zgu × zgu × zgu):Prop:=pNl x.1∧pNl x.2.1∧pNl x.2.2.1∧pNl x.2.2.2
instance tVe {x:zgu × zgu}:Tst (pVe x):=inferInstanceAs (Tst (_∧_))
instance tMa {x:zgu × zgu × zgu × zgu}:Tst (pMa x):=inferInstanceAs (Tst (pNl x.1∧pNl x.2.1∧pNl x.2.2.1∧pNl x.2.2.2))
theorem zqc (x y:zgu × zgu) (h:pVe x∧pVe y):FC Tryz.prog 41 [vecK.val x,vecK.val y] (.lit (.bool (decide (x=y)))):=by
  obtain ⟨a,b⟩:=x
  obtain ⟨c,d⟩:=y
  obtain ⟨⟨h1,h2⟩,h3,h4⟩:=h
  by_cases e:a=c
  · have:=sv_0 a b c d ⟨h1,h3⟩ e ⟨h2,h4⟩
    rwa [show decide ((a,b)=(c,d))=decide (b=d) from decide_eq_decide.2 ⟨fun h=>(Prod.mk.inj h).2,fun h=>Prod.ext e h⟩]
  · exact litB (fun h=>absurd (Prod.mk.inj h).1 e) fun _=>sv_1 a b c d ⟨h1,h3⟩ e
theorem zqa (x y:zgu × zgu × zgu × zgu) (h:pMa x∧pMa y):FC Tryz.prog 51 [matK.val x,matK.val y] (.lit (.bool (decide (x=y)))):=by
  obtain ⟨a,b,c,d⟩:=x
  obtain ⟨a',b',c',d'⟩:=y
  obtain ⟨⟨h1,h2,h3,h4⟩,k1,k2,k3,k4⟩:=h
  by_cases e1:a=a'
  case neg=>exact litB (fun h=>absurd (Prod.mk.inj h).1 e1) fun _=>sm_3 a b c d a' b' c' d' ⟨h1,k1⟩ e1
  by_cases e2:b=b'
  case neg=>exact litB (fun h=>absurd (Prod.mk.inj (Prod.mk.inj h).2).1 e2) fun _=>sm_2 a b c d a' b' c' d' ⟨h1,k1⟩ e1 ⟨h2,k2⟩ e2
  by_cases e3:c=c'
  case neg=>exact litB (fun h=>absurd (Prod.mk.inj (Prod.mk.inj (Prod.mk.inj h).2).2).1 e3) fun _=>sm_1 a b c d a' b' c' d' ⟨h1,k1⟩ e1 ⟨h2,k2⟩ e2 ⟨h3,k3⟩ e3
  have:=sm_0 a b c d a' b' c' d' ⟨h1,k1⟩ e1 ⟨h2,k2⟩ e2 ⟨h3,k3⟩ e3 ⟨h4,k4⟩
  rwa [show decide ((a,b,c,d)=(a',b',c',d'))=decide (d=d') from decide_eq_decide.2 ⟨fun h=>(Prod.mk.inj (Prod.mk.inj (Prod.mk.inj h).2).2).2,fun h=>by rw [e1,e2,e3,h]⟩]
def ctrS:Ctr:=(41,cD2 vecK vecK (fun x y=>pVe x∧pVe y) (fun A B=>.lit (.bool (decide (A=B))))) :: (51,cD2 matK matK (fun x y=>pMa x∧pMa y) (fun A B=>.lit (.bool (decide (A=B))))) :: ctrD
theorem zm9:∀p∈ctrS,lZ Tryz.prog p.1 p.2:=CAll.cons (zg7 zqc)<|CAll.cons (zg7 zqa) zm6
end Go.Proofs.YtloaeinogiplbaaGreatDoor
end
section
open Go Go.Ev Go.RowKit
namespace Go.Proofs.YtloaeinogiplbaaGreatDoor
open Go.Proofs
set_option maxRecDepth 100000
set_option maxHeartbeats 1000000
set_option linter.unusedVariables false
set_option linter.unusedSimpArgs false
open Go.Kf
noncomputable def ctrV1:Ctr:=(35,cOpen) :: (34,cFd (fun _ _ _ _=>True) (fun l a b d=>.lit (.int .i64 (zcb l a b d)))) :: ctrS
abbrev kdV:List (TypeId × EK):=[(27,numK)]
theorem zhf:∀p∈ctrV1,lZ Tryz.prog p.1 p.2:=CAll.cons cOpen_ok<|CAll.cons (ziE fun l a b d _=>rcheck_fc l a b d) zm9
theorem okV1:(dZ Tryz.prog ctrV1 bw).OK:=QZ zhf
theorem okV1k:(dZ Tryz.prog ctrV1 bw [] kdV).OK:=OZ zcM mixed zhf zcF
noncomputable section
theorem rop_0 (p:List Int) (a b d:Int) (h1:zcb p a b d≠0):FC Tryz.prog 77 [.agg [.sq p,.lit (.int .i64 a),.lit (.int .i64 b),.lit (.int .i64 d)]] (.tup [.agg [aN,aI 0,aI 0,aI 0],aI (zcb p a b d)]):=fZ okV1 60 [1] (.c (bne_iff_ne.2 h1)<|.e) [0,1]
theorem rop_1 (p:List Int) (a b d:Int) (h1:zcb p a b d=0) (h2:(0+p.length)*8≤140737488355328) (h3:0+p.length≤4611686018427387904) (h4:0+p.length≤(List.take 0 []++p).length):FC Tryz.prog 77 [.agg [.sq p,.lit (.int .i64 a),.lit (.int .i64 b),.lit (.int .i64 d)]] (.tup [.agg [.sq ((List.take 0 []++p).take (0+p.length)),aI a,aI b,aI d],aI 0]):=fZ okV1 60 [0] (.c (bne_eq_false_iff_eq.2 h1)<|.t h2<|.t h3<|.c (show decide (p.length=p.length)=true from decide_eq_true rfl)<|.c h4<|.e) [0,1,2,3,0,4,5]
abbrev zeu (s:St) (r:Ex × St):Prop:=Loops 0 Tryz.prog (pZ Tryz.prog 16 0) s r
abbrev zbp (a:List (List (List Int) × List Int)) (b:Int):St:=⟨sp 16 [(0,.lst (EK.pr (EK.sl (EK.sl (.int .i64))) (EK.sl (.int .i64))) a),(3,aI b)],[],[]⟩
abbrev zhZ (a:List (List (List Int) × List Int)):St:=⟨sp 16 [(2,.ff)],[],[]⟩
abbrev zh0 (a:List (List (List Int) × List Int)) (b:Int):St:=⟨sp 16 [(0,.lst (EK.pr (EK.sl (EK.sl (.int .i64))) (EK.sl (.int .i64))) a),(3,aI b)],[],[]⟩
theorem zqg (a:List (List (List Int) × List Int)) (b:Int) (h1:b<(a.length:Int)) (h2:0≤b) (h3:¬(shN (a.getD b.toNat (EK.dflt (EK.pr (EK.sl (EK.sl (.int .i64))) (EK.sl (.int .i64))))) 2)):zeu (zbp a b) (Ex.ret,(zhZ a)):=Loops.fin (LS.at okV1k 60 [] [2] [] [1,1] (.t h1<|.t h2<|.y h3<|.e) [1,2,1,0,3]) (fun h=>nomatch h)
theorem zqh (a:List (List (List Int) × List Int)) (b:Int) (h1:b<(a.length:Int)) (h2:0≤b) (h3:shN (a.getD b.toNat (EK.dflt (EK.pr (EK.sl (EK.sl (.int .i64))) (EK.sl (.int .i64))))) 2) (h4:r64 (b+1)) {r:Ex × St} (k:zeu (zbp a (b+1)) r):zeu (zbp a b) r:=Loops.go (LS.at okV1k 60 [] [0,3] [] [1,0] (.t h1<|.t h2<|.x h3<|.i h4<|.e) [1,2,1,0,3,4]) k
theorem zqi (a:List (List (List Int) × List Int)) (b:Int) (h1:¬(b<(a.length:Int))):zeu (zbp a b) (Ex.exit 0,(zh0 a b)):=Loops.fin (LS.at okV1k 60 [] [0,3] [] [0] (.f h1<|.e) [1]) (fun h=>nomatch h)
theorem sml_0 (l:List numK.ty) (hL1:zeu (zbp l (0)) (Ex.ret,(zhZ l))):FC Tryz.prog 16 [.lst numK l] (.ff):=fZ okV1k 60 [] (.v [0,3] [] hL1<|.e) [0,1]
theorem sml_1 (l:List numK.ty) (a:Int) (hL1:zeu (zbp l (0)) (Ex.exit 0,(zh0 l a))):FC Tryz.prog 16 [.lst numK l] (.tt):=fZ okV1k 60 [] (.v [0,3] [] hL1<|.e) [0,1]
end
theorem zkf (l:List numK.ty) (hl:l.length≤100):∀(n i:Nat),i+n=l.length →
    (∀x∈l.drop i,shN x 2)∧zeu (zbp l i) (Ex.exit 0,zh0 l l.length)∨(¬ ∀x∈l.drop i,shN x 2)∧zeu (zbp l i) (Ex.ret,zhZ l)
  | 0,i,hi=>by
    obtain rfl:i=l.length:=by omega
    exact .inl ⟨by simp,zqi l _ (by omega)⟩
  | n + 1,i,hi=>by
    have hlt:i<l.length:=by omega
    have hg:l.getD (Int.toNat (i:Int)) (EK.dflt numK)=l[i]:=by
      rw [Int.toNat_natCast,List.getD_eq_getElem?_getD,List.getElem?_eq_getElem hlt];rfl
    have hd:l.drop i=l[i] :: l.drop (i+1):=List.drop_eq_getElem_cons hlt
    by_cases h:shN l[i] 2
    · have go:∀r,zeu (zbp l ((i:Int)+1)) r→zeu (zbp l i) r:=fun r hr=>
        zqh l i (by omega) (by omega) (by have h':=h;rw [← hg] at h';exact h') (by unfold r64;omega) hr
      rcases zkf l hl n (i+1) (by omega) with ⟨h1,h2⟩ | ⟨h1,h2⟩
      · refine .inl ⟨fun x hx=>?_,go _ h2⟩
        rw [hd] at hx
        rcases List.mem_cons.1 hx with rfl | hx
        · exact h
        · exact h1 x hx
      · exact .inr ⟨fun h3=>h1 fun x hx=>h3 x (by rw [hd];exact List.mem_cons_of_mem _ hx),go _ h2⟩
    · exact .inr ⟨fun h3=>h (h3 _ (by rw [hd];exact List.mem_cons_self)),zqg l i (by omega) (by omega) (by have h':=h;rw [← hg] at h';exact h')⟩
def ziO (l:List numK.ty):Prop:=∀x∈l,shN x 2
instance decLight {l:List numK.ty}:Decidable (ziO l):=inferInstanceAs (Decidable (∀x∈l,shN x 2))
def pSm (l:List numK.ty):Prop:=l.length≤100
instance tSm {l:List numK.ty}:Tst (pSm l):=⟨decide (l.length≤100),of_decide_eq_true⟩
theorem lsmall_fc (l:List numK.ty) (h:pSm l):FC Tryz.prog 16 [.lst numK l] (.lit (.bool (decide (ziO l)))):=by
  refine litB (fun hs=>?_) fun hs=>?_
  · rcases zkf l h l.length 0 (by omega) with ⟨_,k⟩ | ⟨k,_⟩
    · exact sml_1 l _ k
    · exact absurd hs k
  · rcases zkf l h l.length 0 (by omega) with ⟨k,_⟩ | ⟨_,k⟩
    · exact absurd k hs
    · exact sml_0 l k
theorem rOpen_ok (p:List Int) (a b d:Int) (h:zcb p a b d=0):FC Tryz.prog 77 [.agg [.sq p,.lit (.int .i64 a),.lit (.int .i64 b),.lit (.int .i64 d)]] (.tup [.agg [.sq p,.lit (.int .i64 a),.lit (.int .i64 b),.lit (.int .i64 d)],.lit (.int .i64 0)]):=by
  have hr:=chk_ok h
  have hl:p.length≤5:=hr.l5
  have:=rop_1 p a b d h (by omega) (by omega) (by simp)
  rw [show List.take (0+p.length) (List.take 0 []++p)=p by simp] at this
  exact this
noncomputable def cROpen (args:List AV):M AV:=match args with
  | [x]=>do
    let f ← asK fieldK x
    match f with
    | (l,a,b,d)=>do
      let z ← dec (decide (zcb l a b d=0))
      match z with
      | true=>M.pure (.tup [.agg [.sq l,.lit (.int .i64 a),.lit (.int .i64 b),.lit (.int .i64 d)],.lit (.int .i64 0)])
      | false=>M.pure (.tup [.agg [.lit (.slice none 0 0),.lit (.int .i64 0),.lit (.int .i64 0),.lit (.int .i64 0)],.lit (.int .i64 (zcb l a b d))])
  | _=>fail 325
theorem cROpen_ok:lZ Tryz.prog 77 cROpen:=by
  intro args _
  unfold cROpen
  split
  · refine Spec.bind (asK_spec.mono fun f hf=>?_)
    obtain ⟨l,a,b,d⟩:=f
    refine Spec.bind (Spec.dec ?_)
    by_cases h:zcb l a b d=0
    · rw [decide_eq_true h]
      exact Spec.pure' ((rOpen_ok l a b d h).le (.cons hf .nil) (Le.refl _))
    · rw [decide_eq_false h]
      exact Spec.pure' ((rop_0 l a b d h).le (.cons hf .nil) (Le.refl _))
  · exact Spec.fail
noncomputable def ctrV2:Ctr:=(16,cD1 (.sl numK) pSm (fun l=>.lit (.bool (decide (ziO l))))) :: (77,cROpen) :: ctrV1
theorem ctrV2_all:∀p∈ctrV2,lZ Tryz.prog p.1 p.2:=CAll.cons (ziD lsmall_fc)<|CAll.cons cROpen_ok zhf
theorem okV2:(dZ Tryz.prog ctrV2 bw [] kdV).OK:=OZ zcM mixed ctrV2_all zcF
abbrev planeK:EK:=.pr matK (.pr matK (.pr vecK vecK))
end Go.Proofs.YtloaeinogiplbaaGreatDoor
end
section
open Go Go.Ev Go.RowKit
namespace Go.Proofs.YtloaeinogiplbaaGreatDoor
open Go.Proofs
set_option maxRecDepth 100000
set_option maxHeartbeats 1000000
set_option linter.unusedVariables false
set_option linter.unusedSimpArgs false
noncomputable section
theorem bot_0 (p:List Int) (a b d:Int) (h1:(p.length:Int) > 5):FC Tryz.prog 15 [.agg [.sq p,.lit (.int .i64 a),.lit (.int .i64 b),.lit (.int .i64 d)]] (.tup [.lit (Value.pointer none),.agg [aN,aI 0,aI 0,aI 0],.ff]):=fZ okV2 60 [1] (.t h1<|.e) [1]
theorem bot_1 (p:List Int) (a b d:Int) (h1:¬((p.length:Int) > 5)) (h2:zcb p a b d=0):FC Tryz.prog 15 [.agg [.sq p,.lit (.int .i64 a),.lit (.int .i64 b),.lit (.int .i64 d)]] (.tup [.pd [.sq p,aI a,aI b,aI d,.lst EK.whole p,.lst EK.whole (trZ p),.lit (.bool (decide ((hvG p (hvC p) a b d).fst<0))),.wd (hvG p (hvC p) a b d).fst,.lit (.bool (decide ((hvG p (hvC p) a b d).snd.fst<0))),.wd (hvG p (hvC p) a b d).snd.fst,.lit (.bool (decide ((hvG p (hvC p) a b d).snd.snd<0))),.wd (hvG p (hvC p) a b d).snd.snd] 0,.agg [.sq p,aI a,aI b,aI d],aT]):=fZ okV2 60 [0,1,3] (.f h1<|.t h2<|.e) [1,2,2]
theorem bot_2 (p:List Int) (a b d:Int) (h1:¬((p.length:Int) > 5)) (h2:¬(zcb p a b d=0)) (h3:zcb p a b d≠0):FC Tryz.prog 15 [.agg [.sq p,.lit (.int .i64 a),.lit (.int .i64 b),.lit (.int .i64 d)]] (.tup [.lit (Value.pointer none),.agg [aN,aI 0,aI 0,aI 0],.ff]):=fZ okV2 60 [0,0,1] (.f h1<|.f h2<|.c (bne_iff_ne.2 h3)<|.e) [1,2,3]
theorem opn_0 (p:List Int) (a b d:Int) (h1:(p.length:Int) > 5):FC Tryz.prog 17 [.agg [.sq p,.lit (.int .i64 a),.lit (.int .i64 b),.lit (.int .i64 d)]] (.tt):=fZ okV2 60 [1] (.t h1<|.e) [1]
theorem opn_1 (p:List Int) (a b d:Int) (h1:¬((p.length:Int) > 5)) (h2:zcb p a b d=0) (h3:true=(zcb p a b d==0)):FC Tryz.prog 17 [.agg [.sq p,.lit (.int .i64 a),.lit (.int .i64 b),.lit (.int .i64 d)]] (aT):=fZ okV2 60 [0,1,1] (.f h1<|.t h2<|.c (beq_iff_eq.2 h3)<|.e) [1,2,0,3]
theorem opn_3 (p:List Int) (a b d:Int) (h1:¬((p.length:Int) > 5)) (h2:¬(zcb p a b d=0)) (h3:false=(zcb p a b d==0)):FC Tryz.prog 17 [.agg [.sq p,.lit (.int .i64 a),.lit (.int .i64 b),.lit (.int .i64 d)]] (.lit (.bool ((zcb p a b d==0)==false))):=fZ okV2 60 [0,0,1] (.f h1<|.f h2<|.c (beq_iff_eq.2 h3)<|.e) [1,2,0,3]
theorem lgt_0 (a b c d e f g h x y z w:numK.ty) (h1:12≤List.length [a,b,c,d,e,f,g,h,x,y,z,w]) (h2:pSm (List.take 12 [a,b,c,d,e,f,g,h,x,y,z,w])):FC Tryz.prog 39 [.agg [.lst (.sl (.int .i64)) a.1,.sq a.2,.lst (.sl (.int .i64)) b.1,.sq b.2,.lst (.sl (.int .i64)) c.1,.sq c.2,.lst (.sl (.int .i64)) d.1,.sq d.2,.lst (.sl (.int .i64)) e.1,.sq e.2,.lst (.sl (.int .i64)) f.1,.sq f.2,.lst (.sl (.int .i64)) g.1,.sq g.2,.lst (.sl (.int .i64)) h.1,.sq h.2,.lst (.sl (.int .i64)) x.1,.sq x.2,.lst (.sl (.int .i64)) y.1,.sq y.2,.lst (.sl (.int .i64)) z.1,.sq z.2,.lst (.sl (.int .i64)) w.1,.sq w.2]] (.lit (.bool (decide (ziO (List.take 12 [a,b,c,d,e,f,g,h,x,y,z,w]))))):=fZ okV2 60 [] (.c h1<|.c h2<|.e) [1,2]
theorem dtr_0 (p:List Int) (m:matK.ty) (h1:pOp p m.fst m.snd.snd.snd) (h2:pOp p m.snd.fst m.snd.snd.fst) (h3:pOp p (muN p m.fst m.snd.snd.snd) (muN p m.snd.fst m.snd.snd.fst)):FC Tryz.prog 44 [reA (.lst .whole p),matK.val m] (.agg [.lst (EK.sl (.int .i64)) (suN p (muN p m.fst m.snd.snd.snd) (muN p m.snd.fst m.snd.snd.fst)).fst,.sq (suN p (muN p m.fst m.snd.snd.snd) (muN p m.snd.fst m.snd.snd.fst)).snd]):=fZ okQ3 60 [] (.c h1<|.c h2<|.c h3<|.e) [1,2,3]
end
open Go.Kf
theorem opened_fc (f:fieldK.ty):FC Tryz.prog 17 [fieldK.val f] (.lit (.bool true)):=by
  obtain ⟨p,a,b,d⟩:=f
  by_cases h5:p.length≤5
  · by_cases h0:zcb p a b d=0
    · exact opn_1 p a b d (by omega) h0 (by rw [h0];rfl)
    · have:=opn_3 p a b d (by omega) h0 (beq_false_of_ne h0).symm
      rw [show(zcb p a b d==0)=false from beq_false_of_ne h0] at this
      exact this
  · exact(opn_0 p a b d (by omega)).res fun E v hv=>by cases hv;exact .lit _
noncomputable def cBoth (args:List AV):M AV:=match args with
  | [x]=>do
    let f ← asK fieldK x
    match f with
    | (l,a,b,d)=>do
      let z ← dec (decide (l.length≤5∧zcb l a b d=0))
      match z with
      | true=>M.pure (.tup [openA l a b d,.agg [.sq l,.lit (.int .i64 a),.lit (.int .i64 b),.lit (.int .i64 d)],.lit (.bool true)])
      | false=>M.pure (.tup [.lit (.pointer none),.agg [.lit (.slice none 0 0),.lit (.int .i64 0),.lit (.int .i64 0),.lit (.int .i64 0)],.ff])
  | _=>fail 326
theorem cBoth_ok:lZ Tryz.prog 15 cBoth:=by
  intro args _
  unfold cBoth
  split
  · refine Spec.bind (asK_spec.mono fun f hf=>?_)
    obtain ⟨l,a,b,d⟩:=f
    refine Spec.bind (Spec.dec ?_)
    by_cases h:l.length≤5∧zcb l a b d=0
    · rw [decide_eq_true h]
      exact Spec.pure' ((bot_1 l a b d (by omega) h.2).le (.cons hf .nil) (Le.refl _))
    · rw [decide_eq_false h]
      by_cases h5:l.length≤5
      · exact Spec.pure' ((bot_2 l a b d (by omega) (fun k=>h ⟨h5,k⟩) (fun k=>h ⟨h5,k⟩)).le (.cons hf .nil) (Le.refl _))
      · exact Spec.pure' ((bot_0 l a b d (by omega)).le (.cons hf .nil) (Le.refl _))
  · exact Spec.fail
end Go.Proofs.YtloaeinogiplbaaGreatDoor
end
section
open Go Go.Ev Go.RowKit
namespace Go.Proofs.YtloaeinogiplbaaGreatDoor
open Go.Proofs
set_option maxRecDepth 100000
set_option maxHeartbeats 1000000
set_option linter.unusedVariables false
set_option linter.unusedSimpArgs false
open Go.Kf
def ziP (P:planeK.ty):Prop:=ziO [P.1.1,P.1.2.1,P.1.2.2.1,P.1.2.2.2,P.2.1.1,P.2.1.2.1,P.2.1.2.2.1,P.2.1.2.2.2,P.2.2.1.1,P.2.2.1.2,P.2.2.2.1,P.2.2.2.2]
instance decLightP {P:planeK.ty}:Decidable (ziP P):=inferInstanceAs (Decidable (ziO _))
def cAp (args:List AV):M AV:=match args with
  | [r,y,z]=>do
    let p ← zqo r
    let m ← asK matK y
    let v ← asK vecK z
    tell (ApC p m v)
    M.pure (.agg [.lst (.sl (.int .i64)) (apN p m v).1.1,.sq (apN p m v).1.2,.lst (.sl (.int .i64)) (apN p m v).2.1,.sq (apN p m v).2.2])
  | _=>fail 327
def cPr (args:List AV):M AV:=match args with
  | [r,y,z]=>do
    let p ← zqo r
    let m ← asK matK y
    let n ← asK matK z
    tell (PrC p m n)
    M.pure (.agg [.lst (.sl (.int .i64)) (prN p m n).1.1,.sq (prN p m n).1.2,.lst (.sl (.int .i64)) (prN p m n).2.1.1,.sq (prN p m n).2.1.2,.lst (.sl (.int .i64)) (prN p m n).2.2.1.1,.sq (prN p m n).2.2.1.2,.lst (.sl (.int .i64)) (prN p m n).2.2.2.1,.sq (prN p m n).2.2.2.2])
  | _=>fail 328
def cCr (args:List AV):M AV:=match args with
  | [r,y,z]=>do
    let p ← zqo r
    let u ← asK vecK y
    let v ← asK vecK z
    tell (CrC p u v)
    M.pure (.agg [.lst (.sl (.int .i64)) (crN p u v).1,.sq (crN p u v).2])
  | _=>fail 329
def cDt (args:List AV):M AV:=match args with
  | [r,y]=>do
    let p ← zqo r
    let m ← asK matK y
    tell (DtC p m)
    M.pure (.agg [.lst (.sl (.int .i64)) (dtN p m).1,.sq (dtN p m).2])
  | _=>fail 330
noncomputable def ctrV3:Ctr:=(39,cD1 planeK (fun _=>True) (fun P=>.lit (.bool (decide (ziP P))))) :: (17,cFd (fun _ _ _ _=>True) (fun _ _ _ _=>.lit (.bool true))) :: (15,cBoth) :: ctrS
noncomputable def ctrV4:Ctr:=(42,cAp) :: (40,cPr) :: (43,cCr) :: (44,cDt) :: (28,cO muN) :: ctrV3
theorem dt_fc {p:List Int} {m:matK.ty} (h:DtC p m):FC Tryz.prog 44 [reA (.lst .whole p),matK.val m] (numK.val (dtN p m)):=dtr_0 p m h.1 h.2.1 h.2.2
theorem light_fc (P:planeK.ty) (_:True):FC Tryz.prog 39 [planeK.val P] (.lit (.bool (decide (ziP P)))):=lgt_0 P.1.1 P.1.2.1 P.1.2.2.1 P.1.2.2.2 P.2.1.1 P.2.1.2.1 P.2.1.2.2.1 P.2.1.2.2.2 P.2.2.1.1 P.2.2.1.2 P.2.2.2.1 P.2.2.2.2 (Nat.le_refl 12) (show(12:Nat)≤100 by decide)
theorem cAp_ok:lZ Tryz.prog 42 cAp:=by
  intro args _
  unfold cAp
  split
  · exact Spec.bind (asRL_spec.mono fun p hr=>Spec.bind (asK_spec.mono fun x hx=>Spec.bind (asK_spec.mono fun y hy=>Spec.bind (Spec.tell fun hp=>Spec.pure' ((ap_fc hp).le (.cons hr (.cons hx (.cons hy .nil))) (Le.refl _))))))
  · exact Spec.fail
theorem cPr_ok:lZ Tryz.prog 40 cPr:=by
  intro args _
  unfold cPr
  split
  · exact Spec.bind (asRL_spec.mono fun p hr=>Spec.bind (asK_spec.mono fun x hx=>Spec.bind (asK_spec.mono fun y hy=>Spec.bind (Spec.tell fun hp=>Spec.pure' ((pr_fc hp).le (.cons hr (.cons hx (.cons hy .nil))) (Le.refl _))))))
  · exact Spec.fail
theorem cCr_ok:lZ Tryz.prog 43 cCr:=by
  intro args _
  unfold cCr
  split
  · exact Spec.bind (asRL_spec.mono fun p hr=>Spec.bind (asK_spec.mono fun x hx=>Spec.bind (asK_spec.mono fun y hy=>Spec.bind (Spec.tell fun hp=>Spec.pure' ((cr_fc hp).le (.cons hr (.cons hx (.cons hy .nil))) (Le.refl _))))))
  · exact Spec.fail
theorem cDt_ok:lZ Tryz.prog 44 cDt:=by
  intro args _
  unfold cDt
  split
  · exact Spec.bind (asRL_spec.mono fun p hr=>Spec.bind (asK_spec.mono fun x hx=>Spec.bind (Spec.tell fun hp=>Spec.pure' ((dt_fc hp).le (.cons hr (.cons hx .nil)) (Le.refl _)))))
  · exact Spec.fail
theorem ctrV3_all:∀p∈ctrV3,lZ Tryz.prog p.1 p.2:=CAll.cons (ziD light_fc)<|CAll.cons (ziE fun l a b d _=>opened_fc (l,a,b,d))<|CAll.cons cBoth_ok zm9
theorem ctrV4_all:∀p∈ctrV4,lZ Tryz.prog p.1 p.2:=CAll.cons cAp_ok<|CAll.cons cPr_ok<|CAll.cons cCr_ok<|CAll.cons cDt_ok<|CAll.cons (cO_ok fun _ _ _=>mu_fc) ctrV3_all
theorem okV4:(dZ Tryz.prog ctrV4 bw [] kdV).OK:=OZ zcM mixed ctrV4_all zcF
noncomputable section
theorem fpl_0 (p:List Int) (a b d:Int) (M N:matK.ty) (U W:vecK.ty) (h1:p.length≤5∧zcb p a b d=0) (h2:¬(ziP (M,N,U,W))):FC Tryz.prog 7 [.agg [.sq p,.lit (.int .i64 a),.lit (.int .i64 b),.lit (.int .i64 d)],.agg [.lst (.sl (.int .i64)) M.1.1,.sq M.1.2,.lst (.sl (.int .i64)) M.2.1.1,.sq M.2.1.2,.lst (.sl (.int .i64)) M.2.2.1.1,.sq M.2.2.1.2,.lst (.sl (.int .i64)) M.2.2.2.1,.sq M.2.2.2.2,.lst (.sl (.int .i64)) N.1.1,.sq N.1.2,.lst (.sl (.int .i64)) N.2.1.1,.sq N.2.1.2,.lst (.sl (.int .i64)) N.2.2.1.1,.sq N.2.2.1.2,.lst (.sl (.int .i64)) N.2.2.2.1,.sq N.2.2.2.2,.lst (.sl (.int .i64)) U.1.1,.sq U.1.2,.lst (.sl (.int .i64)) U.2.1,.sq U.2.2,.lst (.sl (.int .i64)) W.1.1,.sq W.1.2,.lst (.sl (.int .i64)) W.2.1,.sq W.2.2]] (aT):=fZ okV4 60 [1,3] (.t h1<|.y h2<|.e) [1,0,2,0]
theorem fpl_1 (p:List Int) (a b d:Int) (M N:matK.ty) (U W:vecK.ty) (h1:p.length≤5∧zcb p a b d=0) (h2:ziP (M,N,U,W)) (h3:PrC p M N) (h4:ApC p (prN p M N) U) (h5:ApC p N U) (h6:ApC p M (apN p N U)) (h7:pVe (apN p (prN p M N) U)∧pVe (apN p M (apN p N U))) (h8:(apN p (prN p M N) U)=(apN p M (apN p N U))) (h9:ApC p M U) (h10:ApC p M W) (h11:CrC p (apN p M U) (apN p M W)) (h12:DtC p M) (h13:CrC p U W) (h14:pOp p (dtN p M) (crN p U W)) (h15:pNl (crN p (apN p M U) (apN p M W))∧pNl (muN p (dtN p M) (crN p U W))) (h16:(crN p (apN p M U) (apN p M W))=(muN p (dtN p M) (crN p U W))) (h17:DtC p (prN p M N)) (h18:DtC p N) (h19:pOp p (dtN p M) (dtN p N)) (h20:pNl (dtN p (prN p M N))∧pNl (muN p (dtN p M) (dtN p N))) (h21:(dtN p (prN p M N))=(muN p (dtN p M) (dtN p N))):FC Tryz.prog 7 [.agg [.sq p,.lit (.int .i64 a),.lit (.int .i64 b),.lit (.int .i64 d)],.agg [.lst (.sl (.int .i64)) M.1.1,.sq M.1.2,.lst (.sl (.int .i64)) M.2.1.1,.sq M.2.1.2,.lst (.sl (.int .i64)) M.2.2.1.1,.sq M.2.2.1.2,.lst (.sl (.int .i64)) M.2.2.2.1,.sq M.2.2.2.2,.lst (.sl (.int .i64)) N.1.1,.sq N.1.2,.lst (.sl (.int .i64)) N.2.1.1,.sq N.2.1.2,.lst (.sl (.int .i64)) N.2.2.1.1,.sq N.2.2.1.2,.lst (.sl (.int .i64)) N.2.2.2.1,.sq N.2.2.2.2,.lst (.sl (.int .i64)) U.1.1,.sq U.1.2,.lst (.sl (.int .i64)) U.2.1,.sq U.2.2,.lst (.sl (.int .i64)) W.1.1,.sq W.1.2,.lst (.sl (.int .i64)) W.2.1,.sq W.2.2]] (aT):=fZ okV4 60 [1,2,1,1,1] (.t h1<|.x h2<|.c h3<|.c h4<|.c h5<|.c h6<|.c h7<|.t h8<|.c h9<|.c h10<|.c h11<|.c h12<|.c h13<|.c h14<|.c h15<|.t h16<|.c h17<|.c h18<|.c h19<|.c h20<|.t h21<|.e) [1,0,2,3,4,5,6,7,8,9,10,11,12,13,14,15,16,17,12,18,19,20,21]
theorem fpl_5 (p:List Int) (a b d:Int) (M N:matK.ty) (U W:vecK.ty) (h1:¬(p.length≤5∧zcb p a b d=0)):FC Tryz.prog 7 [.agg [.sq p,.lit (.int .i64 a),.lit (.int .i64 b),.lit (.int .i64 d)],.agg [.lst (.sl (.int .i64)) M.1.1,.sq M.1.2,.lst (.sl (.int .i64)) M.2.1.1,.sq M.2.1.2,.lst (.sl (.int .i64)) M.2.2.1.1,.sq M.2.2.1.2,.lst (.sl (.int .i64)) M.2.2.2.1,.sq M.2.2.2.2,.lst (.sl (.int .i64)) N.1.1,.sq N.1.2,.lst (.sl (.int .i64)) N.2.1.1,.sq N.2.1.2,.lst (.sl (.int .i64)) N.2.2.1.1,.sq N.2.2.1.2,.lst (.sl (.int .i64)) N.2.2.2.1,.sq N.2.2.2.2,.lst (.sl (.int .i64)) U.1.1,.sq U.1.2,.lst (.sl (.int .i64)) U.2.1,.sq U.2.2,.lst (.sl (.int .i64)) W.1.1,.sq W.1.2,.lst (.sl (.int .i64)) W.2.1,.sq W.2.2]] (aT):=fZ okV4 60 [0] (.f h1<|.e) [1,0]
end
open Go.Kf
def NumR (x:NT):Prop:=(∀l∈x.1,∀d∈l,bZ d)∧∀d∈x.2,bZ d
theorem nb17 {p:List Int} {x:NT} (hp:zls p) (hr:NumR x) (hs:shN x 2):Nb p 17 x:=by
  obtain ⟨h1,h2,h3⟩:=hs
  have sz:∀ {l:List Int},(∀d∈l,bZ d)→(l.length:Int)≤2→Sz 5 (vl l):=fun hd hl=>(vl_sz hd).mono (by omega)
  have s1:∀l∈x.1,Sz 5 (vl l):=fun l hl=>sz (hr.1 l hl) (h3 l hl)
  have s2:=sz hr.2 h2
  have ht:pTk p x.1 x.2:=⟨hp,by omega,fun l hl=>⟨⟨by have:=h3 l hl;omega,hr.1 l hl⟩,(s1 l hl).mono (by decide)⟩,⟨by omega,hr.2⟩,s2.mono (by decide)⟩
  exact ⟨ht,(tk_ok ht (by decide) s1 s2).2.2.mono (by omega)⟩
theorem chk_pol {p:List Int} {a b d:Int} (h:zcb p a b d=0):zls p:=by
  have hr:=chk_ok h
  exact ⟨hr.l2,hr.l5,bigc_f hr.bg⟩
def zb6 (P:planeK.ty):List NT:=[P.1.1,P.1.2.1,P.1.2.2.1,P.1.2.2.2,P.2.1.1,P.2.1.2.1,P.2.1.2.2.1,P.2.1.2.2.2,P.2.2.1.1,P.2.2.1.2,P.2.2.2.1,P.2.2.2.2]
theorem planes_fc (f:fieldK.ty) (P:planeK.ty) (hR:∀x∈zb6 P,NumR x):FC Tryz.prog 7 [fieldK.val f,planeK.val P] (.lit (.bool true)):=by
  obtain ⟨p,a,b,d⟩:=f
  by_cases h:p.length≤5∧zcb p a b d=0
  · by_cases hl:ziP P
    · have hp:=chk_pol h.2
      have nb:∀x∈zb6 P,Nb p 17 x:=fun x hx=>nb17 hp (hR x hx) (hl x hx)
      obtain ⟨M,N,U,W⟩:=P
      have C:PlC p M N U W:=planes hp ⟨nb _ (by simp [zb6]),nb _ (by simp [zb6]),nb _ (by simp [zb6]),nb _ (by simp [zb6])⟩ ⟨nb _ (by simp [zb6]),nb _ (by simp [zb6]),nb _ (by simp [zb6]),nb _ (by simp [zb6])⟩ ⟨nb _ (by simp [zb6]),nb _ (by simp [zb6])⟩ ⟨nb _ (by simp [zb6]),nb _ (by simp [zb6])⟩
      have m1:pVe (apN p (prN p M N) U):=C.m1
      exact fpl_1 p a b d M N U W h hl C.mn C.c1 C.c2 C.c3 ⟨m1,C.e1▸m1⟩ C.e1 C.c4 C.c5 C.c6 C.c7 C.c8 C.c9 ⟨C.m2,C.e2▸C.m2⟩ C.e2 C.c10 C.c11 C.c12 ⟨C.m3,C.e3▸C.m3⟩ C.e3
    · exact fpl_0 p a b d P.1 P.2.1 P.2.2.1 P.2.2.2 h hl
  · exact fpl_5 p a b d P.1 P.2.1 P.2.2.1 P.2.2.2 h
end Go.Proofs.YtloaeinogiplbaaGreatDoor
end
section
open Go Go.Ev Go.RowKit
namespace Go.Proofs.YtloaeinogiplbaaGreatDoor
open Go.Proofs
theorem numR_of {x:NT} (h:okK numK x):NumR x:=⟨fun l hl d hd=>h.1 l hl d hd,fun d hd=>h.2 d hd⟩
theorem zoM (f:fieldK.ty) (P:planeK.ty) (h:okK planeK P):FC Tryz.prog 7 [fieldK.val f,planeK.val P] (.lit (.bool true)):=by
  refine planes_fc f P fun x hx=>numR_of ?_
  obtain ⟨⟨a,b,c,d⟩,⟨e,g,i,j⟩,⟨k,l⟩,m,n⟩:=h
  simp only [zb6,List.mem_cons,List.not_mem_nil,or_false] at hx
  rcases hx with rfl | rfl | rfl | rfl | rfl | rfl | rfl | rfl | rfl | rfl | rfl | rfl<;>assumption
end Go.Proofs.YtloaeinogiplbaaGreatDoor
end
