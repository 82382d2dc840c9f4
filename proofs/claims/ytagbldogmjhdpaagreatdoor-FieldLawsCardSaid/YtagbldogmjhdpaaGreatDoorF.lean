/- Part of a proof about a given program: see the last module of the claim. -/
import Derived.Test.YtagbldogmjhdpaaGreatDoorE
import Derived.Test.YtagbldogmjhdpaaGreatDoorD
import Derived.Test.YtagbldogmjhdpaaGreatDoorC
section
open Go Go.Ev Go.RowKit
namespace Go.Proofs.YtagbldogmjhdpaaGreatDoor
open Go.Proofs
set_option maxRecDepth 100000
set_option maxHeartbeats 1000000
set_option linter.unusedVariables false
set_option linter.unusedSimpArgs false
noncomputable section
abbrev zhZ (s:St) (r:Ex × St):Prop:=Loops 2 tP (kZ tP 141 0) s r
abbrev zgK (a:List (List Int)) (b:List Int) (c:Nat) (d:List (List Int)):St:=⟨sp 72 [(1,.lst KI a),(5,.sq b),(6,.own 1 0 c 1)],[.dead,.lst KI d true],[1,0]⟩
abbrev zfe (a:List (List Int)) (b:List Int) (c:Nat) (d e:List (List Int)):St:=⟨sp 72 [(1,.lst KI a),(5,.sq b),(6,.lst KI e)],[.dead,.lst KI d true],[1,0]⟩
abbrev zlR (a:List (List Int)) (b:List Int) (c:Nat) (d:List (List Int)):St:=⟨sp 72 [(1,.lst KI a),(5,.sq b),(6,.own 1 0 c 1)],[.dead,.lst KI d true],[1,0]⟩
abbrev zdg (a:List (List Int)) (b:List Int) (c:Nat) (d e:List (List Int)):St:=⟨sp 72 [(1,.lst KI a),(5,.sq b),(6,.lst KI e)],[.dead,.lst KI d true],[1,0]⟩
abbrev zfc (s:St) (r:Ex × St):Prop:=Loops 2 tP (kZ tP 141 1) s r
abbrev zfd (a:List (List Int)) (b:List Int) (c:Nat) (d:List Int) (e:List (List Int)):St:=⟨sp 72 [(1,.lst KI a),(5,.sq b),(6,.own 1 0 c 1),(7,.sq d),(8,aN),(9,aI 0)],[.dead,.lst KI e true],[1,0]⟩
abbrev zbU (a:List (List Int)) (b:List Int) (c:Nat) (d:List Int) (e:List (List Int)) (f:Nat) (g:Int) (i:List (List Int)):St:=⟨sp 72 [(1,.lst KI a),(5,.sq b),(6,.own 1 0 c 1),(7,.sq d),(8,.own 2 0 f 1),(9,aI g)],[.dead,.lst KI e true,.lst KI i true],[1,0]⟩
abbrev rre_L0_E0 (a:List (List Int)) (b:List Int) (c:Nat) (d:List Int) (e:List (List Int)):St:=⟨sp 72 [(1,.lst KI a),(5,.sq b),(6,.own 1 0 c 1),(7,.sq d),(8,aN),(9,aI 0)],[.dead,.lst KI e true],[1,0]⟩
abbrev za3 (a:List (List Int)) (b:List Int) (c:Nat) (d:List Int) (e:List (List Int)) (f:Nat) (g:Int) (i:List (List Int)):St:=⟨sp 72 [(1,.lst KI a),(5,.sq b),(6,.own 1 0 c 1),(7,.sq d),(8,.own 2 0 f 1),(9,aI g)],[.dead,.lst KI e true,.lst KI i true],[1,0]⟩
theorem zqL (a:List (List Int)) (b:List Int) (d:Nat) (f:List Int) (g:List (List Int)) (h1:0<(d:Int)) (h2:0<g.length) (h3:pMu (g.getD 0 []) b) (h4:pMu (aZ (vl (g.getD 0 [])*vl b)) b) (h5:r64 (0-(d:Int))) (h6:r64 (0-(d:Int)+(a.length:Int))) (h7:0-(d:Int)+(a.length:Int)≥0) (h8:0≤0-(d:Int)+(a.length:Int)) (h9:0-(d:Int)+(a.length:Int)<(a.length:Int)) (h10:pMu f b) (h11:pMu (aZ (vl f*vl b)) (a.getD (0-(d:Int)+(a.length:Int)).toNat [])) (h12:pSu (aZ (vl (aZ (vl (g.getD 0 [])*vl b))*vl b)) (aZ (vl (aZ (vl f*vl b))*vl (a.getD (0-(d:Int)+(a.length:Int)).toNat [])))) (h13:1≤List.length [aZ (vl (aZ (vl (aZ (vl (g.getD 0 [])*vl b))*vl b))-vl (aZ (vl (aZ (vl f*vl b))*vl (a.getD (0-(d:Int)+(a.length:Int)).toNat []))))]) (h14:0<(List.take 1 [aZ (vl (aZ (vl (aZ (vl (g.getD 0 [])*vl b))*vl b))-vl (aZ (vl (aZ (vl f*vl b))*vl (a.getD (0-(d:Int)+(a.length:Int)).toNat []))))]).length) (h15:(List.take 1 [aZ (vl (aZ (vl (aZ (vl (g.getD 0 [])*vl b))*vl b))-vl (aZ (vl (aZ (vl f*vl b))*vl (a.getD (0-(d:Int)+(a.length:Int)).toNat []))))]).length*24≤140737488355328) (h16:(List.take 1 [aZ (vl (aZ (vl (aZ (vl (g.getD 0 [])*vl b))*vl b))-vl (aZ (vl (aZ (vl f*vl b))*vl (a.getD (0-(d:Int)+(a.length:Int)).toNat []))))]).length≤4611686018427387904):LG zfc (zfd a b d f g) (zbU a b d f g (1) (1) ([aZ (vl (aZ (vl (aZ (vl (g.getD 0 [])*vl b))*vl b))-vl (aZ (vl (aZ (vl f*vl b))*vl (a.getD (0-(d:Int)+(a.length:Int)).toNat []))))])):=Loops.go (LS.at zc5 60 [3] [1,5,6,7,8,9] [1,0] [1,1] (.t h1<|.t h2<|.c h3<|.c h4<|.i h5<|.i h6<|.t h7<|.t h8<|.t h9<|.c h10<|.c h11<|.c h12<|.c h13<|.t h14<|.t h15<|.t h16<|.e) [1,0,1,2,3,4,5,6,7,8,9,10,11,12,13,14,15,16,0])
theorem zqM (a:List (List Int)) (b:List Int) (d:Nat) (g:List Int) (j:List (List Int)) (h1:0<(d:Int)) (h2:0<j.length) (h3:pMu (j.getD 0 []) b) (h4:pMu (aZ (vl (j.getD 0 [])*vl b)) b) (h5:r64 (0-(d:Int))) (h6:r64 (0-(d:Int)+(a.length:Int))) (h7:¬(0-(d:Int)+(a.length:Int)≥0)) (h8:1≤List.length [aZ (vl (aZ (vl (j.getD 0 [])*vl b))*vl b)]) (h9:0<(List.take 1 [aZ (vl (aZ (vl (j.getD 0 [])*vl b))*vl b)]).length) (h10:(List.take 1 [aZ (vl (aZ (vl (j.getD 0 [])*vl b))*vl b)]).length*24≤140737488355328) (h11:(List.take 1 [aZ (vl (aZ (vl (j.getD 0 [])*vl b))*vl b)]).length≤4611686018427387904):LG zfc (zfd a b d g j) (zbU a b d g j (1) (1) ([aZ (vl (aZ (vl (j.getD 0 [])*vl b))*vl b)])):=Loops.go (LS.at zc5 60 [3] [1,5,6,7,8,9] [1,0] [1,0] (.t h1<|.t h2<|.c h3<|.c h4<|.i h5<|.i h6<|.f h7<|.c h8<|.t h9<|.t h10<|.t h11<|.e) [1,0,1,2,3,4,5,6,7,8,9,10,11,0])
theorem rre_L0_0_2 (a:List (List Int)) (b:List Int) (c:Nat) (d:List Int) (g:List (List Int)) (h1:¬(0<(c:Int))):zfc (zfd a b c d g) (Ex.exit 2,(rre_L0_E0 a b c d g)):=LF (LS.at zc5 60 [] [1,5,6,7,8,9] [1,0] [0] (.f h1<|.e) [1])
theorem zqN (a:List (List Int)) (b:List Int) (d:Nat) (f:List Int) (g:List (List Int)) (j:Nat) (l:Int) (m:List (List Int)) (h1:l<(d:Int)) (h2:0≤l) (h3:l.toNat<g.length) (h4:pMu (g.getD l.toNat []) b) (h5:pMu (aZ (vl (g.getD l.toNat [])*vl b)) b) (h6:r64 (l-(d:Int))) (h7:r64 (l-(d:Int)+(a.length:Int))) (h8:l-(d:Int)+(a.length:Int)≥0) (h9:0≤l-(d:Int)+(a.length:Int)) (h10:l-(d:Int)+(a.length:Int)<(a.length:Int)) (h11:pMu f b) (h12:pMu (aZ (vl f*vl b)) (a.getD (l-(d:Int)+(a.length:Int)).toNat [])) (h13:pSu (aZ (vl (aZ (vl (g.getD l.toNat [])*vl b))*vl b)) (aZ (vl (aZ (vl f*vl b))*vl (a.getD (l-(d:Int)+(a.length:Int)).toNat [])))) (h14:1≤List.length [aZ (vl (aZ (vl (aZ (vl (g.getD l.toNat [])*vl b))*vl b))-vl (aZ (vl (aZ (vl f*vl b))*vl (a.getD (l-(d:Int)+(a.length:Int)).toNat []))))]) (h15:(j+(List.take 1 [aZ (vl (aZ (vl (aZ (vl (g.getD l.toNat [])*vl b))*vl b))-vl (aZ (vl (aZ (vl f*vl b))*vl (a.getD (l-(d:Int)+(a.length:Int)).toNat []))))]).length)*24≤140737488355328) (h16:j+(List.take 1 [aZ (vl (aZ (vl (aZ (vl (g.getD l.toNat [])*vl b))*vl b))-vl (aZ (vl (aZ (vl f*vl b))*vl (a.getD (l-(d:Int)+(a.length:Int)).toNat []))))]).length≤4611686018427387904) (h17:j≤m.length) (h18:r64 (l+1)):LG zfc (zbU a b d f g j l m) (zbU a b d f g (j+(List.take 1 [aZ (vl (aZ (vl (aZ (vl (g.getD l.toNat [])*vl b))*vl b))-vl (aZ (vl (aZ (vl f*vl b))*vl (a.getD (l-(d:Int)+(a.length:Int)).toNat []))))]).length) (l+1) (m.take j++List.take 1 [aZ (vl (aZ (vl (aZ (vl (g.getD l.toNat [])*vl b))*vl b))-vl (aZ (vl (aZ (vl f*vl b))*vl (a.getD (l-(d:Int)+(a.length:Int)).toNat []))))])):=Loops.go (LS.at zc5 60 [4] [1,5,6,7,8,9] [1,0] [1,1] (.t h1<|.t h2<|.t h3<|.c h4<|.c h5<|.i h6<|.i h7<|.t h8<|.t h9<|.t h10<|.c h11<|.c h12<|.c h13<|.c h14<|.t h15<|.t h16<|.t h17<|.i h18<|.e) [1,2,1,3,4,5,6,7,8,9,10,11,12,13,14,15,16,17,18])
theorem zqO (a:List (List Int)) (b:List Int) (d:Nat) (g:List Int) (j:List (List Int)) (l:Nat) (m:Int) (n:List (List Int)) (h1:m<(d:Int)) (h2:0≤m) (h3:m.toNat<j.length) (h4:pMu (j.getD m.toNat []) b) (h5:pMu (aZ (vl (j.getD m.toNat [])*vl b)) b) (h6:r64 (m-(d:Int))) (h7:r64 (m-(d:Int)+(a.length:Int))) (h8:¬(m-(d:Int)+(a.length:Int)≥0)) (h9:1≤List.length [aZ (vl (aZ (vl (j.getD m.toNat [])*vl b))*vl b)]) (h10:(l+(List.take 1 [aZ (vl (aZ (vl (j.getD m.toNat [])*vl b))*vl b)]).length)*24≤140737488355328) (h11:l+(List.take 1 [aZ (vl (aZ (vl (j.getD m.toNat [])*vl b))*vl b)]).length≤4611686018427387904) (h12:l≤n.length) (h13:r64 (m+1)):LG zfc (zbU a b d g j l m n) (zbU a b d g j (l+(List.take 1 [aZ (vl (aZ (vl (j.getD m.toNat [])*vl b))*vl b)]).length) (m+1) (n.take l++List.take 1 [aZ (vl (aZ (vl (j.getD m.toNat [])*vl b))*vl b)])):=Loops.go (LS.at zc5 60 [4] [1,5,6,7,8,9] [1,0] [1,0] (.t h1<|.t h2<|.t h3<|.c h4<|.c h5<|.i h6<|.i h7<|.f h8<|.c h9<|.t h10<|.t h11<|.t h12<|.i h13<|.e) [1,2,1,3,4,5,6,7,8,9,10,11,12,13])
theorem zqP (a:List (List Int)) (b:List Int) (c:Nat) (d:List Int) (g:List (List Int)) (i:Nat) (j:Int) (l:List (List Int)) (h1:¬(j<(c:Int))):zfc (zbU a b c d g i j l) (Ex.exit 2,(za3 a b c d g i j l)):=LF (LS.at zc5 60 [2] [1,5,6,7,8,9] [1,0] [0] (.f h1<|.e) [1])
theorem zqV (a:List (List Int)) (b:List Int) (d:Nat) (f:List (List Int)) (g:Nat) (j:Int) (l:List (List Int)) (h1:(d:Int)≥(a.length:Int)) (h2:r64 ((d:Int)-1)) (h3:0≤(d:Int)-1) (h4:(d:Int)-1<(d:Int)) (h5:((d:Int)-1).toNat<f.length) (hL1:zfc (zfd a b d (f.getD ((d:Int)-1).toNat []) f) (Ex.exit 2,(za3 a b d (f.getD ((d:Int)-1).toNat []) f g j l))) (h7:g≤l.length) (h8:pSh (l.take g)):LG zhZ (zgK a b d f) (zfe a b d f ((l.take g).take (Kf.cutN (vls (l.take g)) (l.take g).length))):=Loops.go (LS.at zc5 60 [] [1,5,6] [1,0] [1] (.t h1<|.i h2<|.t h3<|.t h4<|.t h5<|.v [1,5,6,7,8,9] [1,0] hL1<|.c h7<|.c h8<|.e) [1,2,3,4,5,0,6,7,8])
theorem zqW (a:List (List Int)) (b:List Int) (c:Nat) (d:List (List Int)) (h1:¬((c:Int)≥(a.length:Int))):zhZ (zgK a b c d) (Ex.exit 0,(zlR a b c d)):=LF (LS.at zc5 60 [] [1,5,6] [1,0] [0] (.f h1<|.e) [1])
abbrev zgh (s:St) (r:Ex × St):Prop:=Loops 2 tP (kZ tP 141 1) s r
abbrev zgJ (a:List (List Int)) (b:List Int) (c:List (List Int)) (d:List Int) (e:List (List Int)):St:=⟨sp 72 [(1,.lst KI a),(5,.sq b),(6,.lst KI c),(7,.sq d),(8,aN),(9,aI 0)],[.dead,.lst KI e true],[1,0]⟩
abbrev zbV (a:List (List Int)) (b:List Int) (c:List (List Int)) (d:List Int) (e:List (List Int)) (f:Nat) (g:Int) (i:List (List Int)):St:=⟨sp 72 [(1,.lst KI a),(5,.sq b),(6,.lst KI c),(7,.sq d),(8,.own 2 0 f 1),(9,aI g)],[.dead,.lst KI e true,.lst KI i true],[1,0]⟩
abbrev za4 (a:List (List Int)) (b:List Int) (c:List (List Int)) (d:List Int) (e:List (List Int)) (f:Nat) (g:Int) (i:List (List Int)):St:=⟨sp 72 [(1,.lst KI a),(5,.sq b),(6,.lst KI c),(7,.sq d),(8,.own 2 0 f 1),(9,aI g)],[.dead,.lst KI e true,.lst KI i true],[1,0]⟩
theorem zqQ (a:List (List Int)) (b:List Int) (d:List (List Int)) (f:List Int) (g:List (List Int)) (h1:0<(d.length:Int)) (h2:pMu (d.getD 0 []) b) (h3:pMu (aZ (vl (d.getD 0 [])*vl b)) b) (h4:r64 (0-(d.length:Int))) (h5:r64 (0-(d.length:Int)+(a.length:Int))) (h6:0-(d.length:Int)+(a.length:Int)≥0) (h7:0≤0-(d.length:Int)+(a.length:Int)) (h8:0-(d.length:Int)+(a.length:Int)<(a.length:Int)) (h9:pMu f b) (h10:pMu (aZ (vl f*vl b)) (a.getD (0-(d.length:Int)+(a.length:Int)).toNat [])) (h11:pSu (aZ (vl (aZ (vl (d.getD 0 [])*vl b))*vl b)) (aZ (vl (aZ (vl f*vl b))*vl (a.getD (0-(d.length:Int)+(a.length:Int)).toNat [])))) (h12:1≤List.length [aZ (vl (aZ (vl (aZ (vl (d.getD 0 [])*vl b))*vl b))-vl (aZ (vl (aZ (vl f*vl b))*vl (a.getD (0-(d.length:Int)+(a.length:Int)).toNat []))))]) (h13:0<(List.take 1 [aZ (vl (aZ (vl (aZ (vl (d.getD 0 [])*vl b))*vl b))-vl (aZ (vl (aZ (vl f*vl b))*vl (a.getD (0-(d.length:Int)+(a.length:Int)).toNat []))))]).length) (h14:(List.take 1 [aZ (vl (aZ (vl (aZ (vl (d.getD 0 [])*vl b))*vl b))-vl (aZ (vl (aZ (vl f*vl b))*vl (a.getD (0-(d.length:Int)+(a.length:Int)).toNat []))))]).length*24≤140737488355328) (h15:(List.take 1 [aZ (vl (aZ (vl (aZ (vl (d.getD 0 [])*vl b))*vl b))-vl (aZ (vl (aZ (vl f*vl b))*vl (a.getD (0-(d.length:Int)+(a.length:Int)).toNat []))))]).length≤4611686018427387904):LG zgh (zgJ a b d f g) (zbV a b d f g (1) (1) ([aZ (vl (aZ (vl (aZ (vl (d.getD 0 [])*vl b))*vl b))-vl (aZ (vl (aZ (vl f*vl b))*vl (a.getD (0-(d.length:Int)+(a.length:Int)).toNat []))))])):=Loops.go (LS.at zc5 60 [3] [1,5,6,7,8,9] [1,0] [1,1] (.t h1<|.c h2<|.c h3<|.i h4<|.i h5<|.t h6<|.t h7<|.t h8<|.c h9<|.c h10<|.c h11<|.c h12<|.t h13<|.t h14<|.t h15<|.e) [1,0,1,2,3,4,5,6,7,8,9,10,11,12,13,14,15,0])
theorem zqR (a:List (List Int)) (b:List Int) (d:List (List Int)) (g:List Int) (j:List (List Int)) (h1:0<(d.length:Int)) (h2:pMu (d.getD 0 []) b) (h3:pMu (aZ (vl (d.getD 0 [])*vl b)) b) (h4:r64 (0-(d.length:Int))) (h5:r64 (0-(d.length:Int)+(a.length:Int))) (h6:¬(0-(d.length:Int)+(a.length:Int)≥0)) (h7:1≤List.length [aZ (vl (aZ (vl (d.getD 0 [])*vl b))*vl b)]) (h8:0<(List.take 1 [aZ (vl (aZ (vl (d.getD 0 [])*vl b))*vl b)]).length) (h9:(List.take 1 [aZ (vl (aZ (vl (d.getD 0 [])*vl b))*vl b)]).length*24≤140737488355328) (h10:(List.take 1 [aZ (vl (aZ (vl (d.getD 0 [])*vl b))*vl b)]).length≤4611686018427387904):LG zgh (zgJ a b d g j) (zbV a b d g j (1) (1) ([aZ (vl (aZ (vl (d.getD 0 [])*vl b))*vl b)])):=Loops.go (LS.at zc5 60 [3] [1,5,6,7,8,9] [1,0] [1,0] (.t h1<|.c h2<|.c h3<|.i h4<|.i h5<|.f h6<|.c h7<|.t h8<|.t h9<|.t h10<|.e) [1,0,1,2,3,4,5,6,7,8,9,10,0])
theorem zqS (a:List (List Int)) (b:List Int) (d:List (List Int)) (f:List Int) (g:List (List Int)) (j:Nat) (l:Int) (m:List (List Int)) (h1:l<(d.length:Int)) (h2:0≤l) (h3:pMu (d.getD l.toNat []) b) (h4:pMu (aZ (vl (d.getD l.toNat [])*vl b)) b) (h5:r64 (l-(d.length:Int))) (h6:r64 (l-(d.length:Int)+(a.length:Int))) (h7:l-(d.length:Int)+(a.length:Int)≥0) (h8:0≤l-(d.length:Int)+(a.length:Int)) (h9:l-(d.length:Int)+(a.length:Int)<(a.length:Int)) (h10:pMu f b) (h11:pMu (aZ (vl f*vl b)) (a.getD (l-(d.length:Int)+(a.length:Int)).toNat [])) (h12:pSu (aZ (vl (aZ (vl (d.getD l.toNat [])*vl b))*vl b)) (aZ (vl (aZ (vl f*vl b))*vl (a.getD (l-(d.length:Int)+(a.length:Int)).toNat [])))) (h13:1≤List.length [aZ (vl (aZ (vl (aZ (vl (d.getD l.toNat [])*vl b))*vl b))-vl (aZ (vl (aZ (vl f*vl b))*vl (a.getD (l-(d.length:Int)+(a.length:Int)).toNat []))))]) (h14:(j+(List.take 1 [aZ (vl (aZ (vl (aZ (vl (d.getD l.toNat [])*vl b))*vl b))-vl (aZ (vl (aZ (vl f*vl b))*vl (a.getD (l-(d.length:Int)+(a.length:Int)).toNat []))))]).length)*24≤140737488355328) (h15:j+(List.take 1 [aZ (vl (aZ (vl (aZ (vl (d.getD l.toNat [])*vl b))*vl b))-vl (aZ (vl (aZ (vl f*vl b))*vl (a.getD (l-(d.length:Int)+(a.length:Int)).toNat []))))]).length≤4611686018427387904) (h16:j≤m.length) (h17:r64 (l+1)):LG zgh (zbV a b d f g j l m) (zbV a b d f g (j+(List.take 1 [aZ (vl (aZ (vl (aZ (vl (d.getD l.toNat [])*vl b))*vl b))-vl (aZ (vl (aZ (vl f*vl b))*vl (a.getD (l-(d.length:Int)+(a.length:Int)).toNat []))))]).length) (l+1) (m.take j++List.take 1 [aZ (vl (aZ (vl (aZ (vl (d.getD l.toNat [])*vl b))*vl b))-vl (aZ (vl (aZ (vl f*vl b))*vl (a.getD (l-(d.length:Int)+(a.length:Int)).toNat []))))])):=Loops.go (LS.at zc5 60 [4] [1,5,6,7,8,9] [1,0] [1,1] (.t h1<|.t h2<|.c h3<|.c h4<|.i h5<|.i h6<|.t h7<|.t h8<|.t h9<|.c h10<|.c h11<|.c h12<|.c h13<|.t h14<|.t h15<|.t h16<|.i h17<|.e) [1,2,1,3,4,5,6,7,8,9,10,11,12,13,14,15,16,17])
theorem zqT (a:List (List Int)) (b:List Int) (d:List (List Int)) (g:List Int) (j:List (List Int)) (l:Nat) (m:Int) (n:List (List Int)) (h1:m<(d.length:Int)) (h2:0≤m) (h3:pMu (d.getD m.toNat []) b) (h4:pMu (aZ (vl (d.getD m.toNat [])*vl b)) b) (h5:r64 (m-(d.length:Int))) (h6:r64 (m-(d.length:Int)+(a.length:Int))) (h7:¬(m-(d.length:Int)+(a.length:Int)≥0)) (h8:1≤List.length [aZ (vl (aZ (vl (d.getD m.toNat [])*vl b))*vl b)]) (h9:(l+(List.take 1 [aZ (vl (aZ (vl (d.getD m.toNat [])*vl b))*vl b)]).length)*24≤140737488355328) (h10:l+(List.take 1 [aZ (vl (aZ (vl (d.getD m.toNat [])*vl b))*vl b)]).length≤4611686018427387904) (h11:l≤n.length) (h12:r64 (m+1)):LG zgh (zbV a b d g j l m n) (zbV a b d g j (l+(List.take 1 [aZ (vl (aZ (vl (d.getD m.toNat [])*vl b))*vl b)]).length) (m+1) (n.take l++List.take 1 [aZ (vl (aZ (vl (d.getD m.toNat [])*vl b))*vl b)])):=Loops.go (LS.at zc5 60 [4] [1,5,6,7,8,9] [1,0] [1,0] (.t h1<|.t h2<|.c h3<|.c h4<|.i h5<|.i h6<|.f h7<|.c h8<|.t h9<|.t h10<|.t h11<|.i h12<|.e) [1,2,1,3,4,5,6,7,8,9,10,11,12])
theorem zqU (a:List (List Int)) (b:List Int) (c:List (List Int)) (d:List Int) (g:List (List Int)) (i:Nat) (j:Int) (l:List (List Int)) (h1:¬(j<(c.length:Int))):zgh (zbV a b c d g i j l) (Ex.exit 2,(za4 a b c d g i j l)):=LF (LS.at zc5 60 [2] [1,5,6,7,8,9] [1,0] [0] (.f h1<|.e) [1])
theorem zqX (a:List (List Int)) (b:List Int) (d:Nat) (f g:List (List Int)) (j:Nat) (l:Int) (m:List (List Int)) (h1:(g.length:Int)≥(a.length:Int)) (h2:r64 ((g.length:Int)-1)) (h3:0≤(g.length:Int)-1) (h4:(g.length:Int)-1<(g.length:Int)) (hL1:zgh (zgJ a b g (g.getD ((g.length:Int)-1).toNat []) f) (Ex.exit 2,(za4 a b g (g.getD ((g.length:Int)-1).toNat []) f j l m))) (h6:j≤m.length) (h7:pSh (m.take j)):LG zhZ (zfe a b d f g) (zfe a b d f ((m.take j).take (Kf.cutN (vls (m.take j)) (m.take j).length))):=Loops.go (LS.at zc5 60 [] [1,5,6] [1,0] [1] (.t h1<|.i h2<|.t h3<|.t h4<|.v [1,5,6,7,8,9] [1,0] hL1<|.c h6<|.c h7<|.e) [1,2,3,4,0,5,6,7])
theorem zqY (a:List (List Int)) (b:List Int) (c:Nat) (d g:List (List Int)) (h1:¬((g.length:Int)≥(a.length:Int))):zhZ (zfe a b c d g) (Ex.exit 0,(zdg a b c d g)):=LF (LS.at zc5 60 [] [1,5,6] [1,0] [0] (.f h1<|.e) [1])
theorem rre_0 (p q:List (List Int)) (h1:r64 ((q.length:Int)-1)) (h2:0≤(q.length:Int)-1) (h3:(q.length:Int)-1<(q.length:Int)) (h4:(0+p.length)*24≤140737488355328) (h5:0+p.length≤4611686018427387904) (hL1:zhZ (zgK q (q.getD ((q.length:Int)-1).toNat []) (0+p.length) (List.take 0 []++p)) (Ex.exit 0,(zlR q (q.getD ((q.length:Int)-1).toNat []) (0+p.length) (List.take 0 []++p)))) (h7:0+p.length≤(List.take 0 []++p).length):FC tP 141 [.lst (.sl (.int .i64)) p,.lst (.sl (.int .i64)) q] (.lst KI ((List.take 0 []++p).take (0+p.length))):=dZ zc5 60 [] (.i h1<|.t h2<|.t h3<|.t h4<|.t h5<|.v [1,5,6] [1,0] hL1<|.c h7<|.e) [1,2,3,4,5,0,0,6,7]
theorem rre_1 (p q a:List (List Int)) (h1:r64 ((q.length:Int)-1)) (h2:0≤(q.length:Int)-1) (h3:(q.length:Int)-1<(q.length:Int)) (h4:(0+p.length)*24≤140737488355328) (h5:0+p.length≤4611686018427387904) (hL1:zhZ (zgK q (q.getD ((q.length:Int)-1).toNat []) (0+p.length) (List.take 0 []++p)) (Ex.exit 0,(zdg q (q.getD ((q.length:Int)-1).toNat []) (0+p.length) (List.take 0 []++p) a))):FC tP 141 [.lst (.sl (.int .i64)) p,.lst (.sl (.int .i64)) q] (.lst KI a):=dZ zc5 60 [] (.i h1<|.t h2<|.t h3<|.t h4<|.t h5<|.v [1,5,6] [1,0] hL1<|.e) [1,2,3,4,5,0,0,6]
end
open Go.Kf
def rsF (q r:List (List Int)) (last top:List Int) (i:Nat):List Int:=aZ (agC (vls q) (vl last*vl last) (vl top*vl last) (r.length-q.length) i ((vls r).getD i 0))
def rsL (q r:List (List Int)) (last top:List Int) (i:Nat):List (List Int):=(List.range i).map (rsF q r last top)
theorem zdj (q r:List (List Int)) (last top:List Int) (i:Nat):(rsL q r last top i).length=i:=by simp [rsL]
theorem zgN (q r:List (List Int)) (last top:List Int) (i:Nat) {x:List Int} (h:x=rsF q r last top i):List.take i (rsL q r last top i)++List.take 1 [x]=rsL q r last top (i+1):=by
 rw [List.take_of_length_le (by rw [zdj];exact Nat.le_refl _),h]
 unfold rsL
 rw [List.range_succ,List.map_append];rfl
theorem zom {q r:List (List Int)} {last top:List Int} {i:Nat} (h:r.length-q.length≤i):aZ (vl (aZ (vl (aZ (vl (r.getD i [])*vl last))*vl last))-vl (aZ (vl (aZ (vl top*vl last))*vl (q.getD (i-(r.length-q.length)) []))))=rsF q r last top i:=by
 simp only [bZ]
 unfold rsF agC
 rw [if_pos h,← zav,← zav,Int.sub_eq_add_neg,Int.mul_assoc (vl (r.getD i []))]
theorem zon {q r:List (List Int)} {last top:List Int} {i:Nat} (h:¬r.length-q.length≤i):aZ (vl (aZ (vl (r.getD i [])*vl last))*vl last)=rsF q r last top i:=by
 simp only [bZ]
 unfold rsF agC
 rw [if_neg h,← zav,Int.mul_assoc]
theorem zbe {p:List (List Int)} {N:Nat} (h:∀l∈p,pQ N l) {i:Nat} (hi:i<p.length):pQ N (p.getD i []):=by
 simp_all
theorem zaD {N:Nat} {l:List Int} (h:pQ N l):Sz (N+3) (vl l):=(vl_sz h.2).mono (by have:=h.1;omega)
theorem rre_l1 {q r:List (List Int)} {last top:List Int} {lr:List (List Int)} {N M:Nat} (hr:∀l∈r,pQ N l) (hq:∀l∈q,pQ M l) (hlast:pQ M last) (htop:pQ N top) (hb:N+2*M+20≤90000) (hlen:q.length≤r.length) (h1000:r.length≤1000) :
 ∀(m i:Nat),i+m=r.length→1≤i→zgh (zbV q last r top lr i i (rsL q r last top i)) (Ex.exit 2,za4 q last r top lr r.length r.length (rsL q r last top r.length))
 | 0,i,hi,_=>by
  obtain rfl:i=r.length:=by omega
  exact zqU q last r top lr _ _ _ (by omega)
 | m + 1,i,hi,h1=>by
  have ih:=rre_l1 (lr:=lr) hr hq hlast htop hb hlen h1000 m (i+1) (by omega) (by omega)
  have e1:Int.toNat (i:Int)=i:=rfl
  have pr:=zbe hr (i:=i) (by omega)
  have s1:=zaD pr
  have s2:=zaD hlast
  have s3:=zaD htop
  have m1:pQ 100000 (aZ (vl (r.getD i [])*vl last)):=fZ (s1.mul s2) (by omega)
  by_cases hs:r.length-q.length≤i
  ·have e2:Int.toNat ((i:Int)-(r.length:Int)+(q.length:Int))=i-(r.length-q.length):=by omega
   have pq:=zbe hq (i:=i-(r.length-q.length)) (by omega)
   have s4:=zaD pq
   have m2:pQ 390000 (aZ (vl (aZ (vl (r.getD i [])*vl last))*vl last)):=by rw [bZ];exact fZ ((s1.mul s2).mul s2) (by omega)
   have m3:pQ 100000 (aZ (vl top*vl last)):=fZ (s3.mul s2) (by omega)
   have m4:pQ 390000 (aZ (vl (aZ (vl top*vl last))*vl (q.getD (i-(r.length-q.length)) []))):=by rw [bZ];exact fZ ((s3.mul s2).mul s4) (by omega)
   have go:=@zqS q last r top lr i i (rsL q r last top i) (by omega) (by omega) ⟨pr.mono (by omega),hlast.mono (by omega)⟩ ⟨m1,hlast.mono (by omega)⟩ (by omega) (by omega) (by omega) (by omega) (by omega) ⟨htop.mono (by omega),hlast.mono (by omega)⟩
    (by rw [e2];exact ⟨m3,pq.mono (by omega)⟩) (by rw [e2];exact ⟨m2,m4⟩) (by simp) (by simp;omega) (by simp;omega) (by rw [zdj];exact Nat.le_refl _) (by omega) (Ex.exit 2,za4 q last r top lr r.length r.length (rsL q r last top r.length))
   rw [zgN q r last top i (by rw [e2];exact zom hs)] at go
   exact go ih
  ·have go:=@zqT q last r top lr i i (rsL q r last top i) (by omega) (by omega) ⟨pr.mono (by omega),hlast.mono (by omega)⟩ ⟨m1,hlast.mono (by omega)⟩ (by omega) (by omega) (by omega) (by simp) (by simp;omega) (by simp;omega) (by rw [zdj];exact Nat.le_refl _) (by omega) (Ex.exit 2,za4 q last r top lr r.length r.length (rsL q r last top r.length))
   rw [zgN q r last top i (by exact zon hs)] at go
   exact go ih
theorem rre_l0 {q r:List (List Int)} {last top:List Int} {N M:Nat} (hr:∀l∈r,pQ N l) (hq:∀l∈q,pQ M l) (hlast:pQ M last) (htop:pQ N top) (hb:N+2*M+20≤90000) (hlen:q.length≤r.length) (h1000:r.length≤1000) :
 ∀(m i:Nat),i+m=r.length→1≤i→zfc (zbU q last r.length top r i i (rsL q r last top i)) (Ex.exit 2,za3 q last r.length top r r.length r.length (rsL q r last top r.length))
 | 0,i,hi,_=>by
  obtain rfl:i=r.length:=by omega
  exact zqP q last r.length top r _ _ _ (by omega)
 | m + 1,i,hi,h1=>by
  have ih:=rre_l0 hr hq hlast htop hb hlen h1000 m (i+1) (by omega) (by omega)
  have e1:Int.toNat (i:Int)=i:=rfl
  have pr:=zbe hr (i:=i) (by omega)
  have s1:=zaD pr
  have s2:=zaD hlast
  have s3:=zaD htop
  have m1:pQ 100000 (aZ (vl (r.getD i [])*vl last)):=fZ (s1.mul s2) (by omega)
  by_cases hs:r.length-q.length≤i
  ·have e2:Int.toNat ((i:Int)-(r.length:Int)+(q.length:Int))=i-(r.length-q.length):=by omega
   have pq:=zbe hq (i:=i-(r.length-q.length)) (by omega)
   have s4:=zaD pq
   have m2:pQ 390000 (aZ (vl (aZ (vl (r.getD i [])*vl last))*vl last)):=by rw [bZ];exact fZ ((s1.mul s2).mul s2) (by omega)
   have m3:pQ 100000 (aZ (vl top*vl last)):=fZ (s3.mul s2) (by omega)
   have m4:pQ 390000 (aZ (vl (aZ (vl top*vl last))*vl (q.getD (i-(r.length-q.length)) []))):=by rw [bZ];exact fZ ((s3.mul s2).mul s4) (by omega)
   have go:=@zqN q last r.length top r i i (rsL q r last top i) (by omega) (by omega) (by rw [e1];omega) ⟨pr.mono (by omega),hlast.mono (by omega)⟩ ⟨m1,hlast.mono (by omega)⟩ (by omega) (by omega) (by omega) (by omega) (by omega) ⟨htop.mono (by omega),hlast.mono (by omega)⟩
    (by rw [e2];exact ⟨m3,pq.mono (by omega)⟩) (by rw [e2];exact ⟨m2,m4⟩) (by simp) (by simp;omega) (by simp;omega) (by rw [zdj];exact Nat.le_refl _) (by omega) (Ex.exit 2,za3 q last r.length top r r.length r.length (rsL q r last top r.length))
   rw [zgN q r last top i (by rw [e2];exact zom hs)] at go
   exact go ih
  ·have go:=@zqO q last r.length top r i i (rsL q r last top i) (by omega) (by omega) (by rw [e1];omega) ⟨pr.mono (by omega),hlast.mono (by omega)⟩ ⟨m1,hlast.mono (by omega)⟩ (by omega) (by omega) (by omega) (by simp) (by simp;omega) (by simp;omega) (by rw [zdj];exact Nat.le_refl _) (by omega) (Ex.exit 2,za3 q last r.length top r r.length r.length (rsL q r last top r.length))
   rw [zgN q r last top i (by exact zon hs)] at go
   exact go ih
theorem rre_l1s {q r:List (List Int)} {last top:List Int} {lr:List (List Int)} {N M:Nat} (hr:∀l∈r,pQ N l) (hq:∀l∈q,pQ M l) (hlast:pQ M last) (htop:pQ N top) (hb:N+2*M+20≤90000) (hq0:1≤q.length) (hlen:q.length≤r.length) (h1000:r.length≤1000) :
 zgh (zgJ q last r top lr) (Ex.exit 2,za4 q last r top lr r.length r.length (rsL q r last top r.length)):=by
 have ih:=rre_l1 (lr:=lr) hr hq hlast htop hb hlen h1000 (r.length-1) 1 (by omega) (by omega)
 have pr:=zbe hr (i:=0) (by omega)
 have s1:=zaD pr
 have s2:=zaD hlast
 have s3:=zaD htop
 have m1:pQ 100000 (aZ (vl (r.getD 0 [])*vl last)):=fZ (s1.mul s2) (by omega)
 by_cases hs:r.length-q.length≤0
 ·have e2:Int.toNat (0-(r.length:Int)+(q.length:Int))=0-(r.length-q.length):=by omega
  have pq:=zbe hq (i:=0-(r.length-q.length)) (by omega)
  have s4:=zaD pq
  have m2:pQ 390000 (aZ (vl (aZ (vl (r.getD 0 [])*vl last))*vl last)):=by rw [bZ];exact fZ ((s1.mul s2).mul s2) (by omega)
  have m3:pQ 100000 (aZ (vl top*vl last)):=fZ (s3.mul s2) (by omega)
  have m4:pQ 390000 (aZ (vl (aZ (vl top*vl last))*vl (q.getD (0-(r.length-q.length)) []))):=by rw [bZ];exact fZ ((s3.mul s2).mul s4) (by omega)
  have hx:=zom (q:=q) (r:=r) (last:=last) (top:=top) (i:=0) hs
  have go:=@zqQ q last r top lr (by omega) ⟨pr.mono (by omega),hlast.mono (by omega)⟩ ⟨m1,hlast.mono (by omega)⟩ (by omega) (by omega) (by omega) (by omega) (by omega) ⟨htop.mono (by omega),hlast.mono (by omega)⟩
   (by rw [e2];exact ⟨m3,pq.mono (by omega)⟩) (by rw [e2];exact ⟨m2,m4⟩) (by simp) (by simp) (by simp) (by simp) (Ex.exit 2,za4 q last r top lr r.length r.length (rsL q r last top r.length))
  rw [e2] at go
  refine go ?_
  rw [show rsL q r last top 1=[rsF q r last top 0] from rfl,← hx] at ih
  exact ih
 ·have hx:=zon (q:=q) (r:=r) (last:=last) (top:=top) (i:=0) hs
  have go:=@zqR q last r top lr (by omega) ⟨pr.mono (by omega),hlast.mono (by omega)⟩ ⟨m1,hlast.mono (by omega)⟩ (by omega) (by omega) (by omega) (by simp) (by simp) (by simp) (by simp) (Ex.exit 2,za4 q last r top lr r.length r.length (rsL q r last top r.length))
  refine go ?_
  rw [show rsL q r last top 1=[rsF q r last top 0] from rfl,← hx] at ih
  exact ih
theorem rre_l0s {q r:List (List Int)} {last top:List Int} {N M:Nat} (hr:∀l∈r,pQ N l) (hq:∀l∈q,pQ M l) (hlast:pQ M last) (htop:pQ N top) (hb:N+2*M+20≤90000) (hq0:1≤q.length) (hlen:q.length≤r.length) (h1000:r.length≤1000) :
 zfc (zfd q last r.length top r) (Ex.exit 2,za3 q last r.length top r r.length r.length (rsL q r last top r.length)):=by
 have ih:=rre_l0 hr hq hlast htop hb hlen h1000 (r.length-1) 1 (by omega) (by omega)
 have pr:=zbe hr (i:=0) (by omega)
 have s1:=zaD pr
 have s2:=zaD hlast
 have s3:=zaD htop
 have m1:pQ 100000 (aZ (vl (r.getD 0 [])*vl last)):=fZ (s1.mul s2) (by omega)
 by_cases hs:r.length-q.length≤0
 ·have e2:Int.toNat (0-(r.length:Int)+(q.length:Int))=0-(r.length-q.length):=by omega
  have pq:=zbe hq (i:=0-(r.length-q.length)) (by omega)
  have s4:=zaD pq
  have m2:pQ 390000 (aZ (vl (aZ (vl (r.getD 0 [])*vl last))*vl last)):=by rw [bZ];exact fZ ((s1.mul s2).mul s2) (by omega)
  have m3:pQ 100000 (aZ (vl top*vl last)):=fZ (s3.mul s2) (by omega)
  have m4:pQ 390000 (aZ (vl (aZ (vl top*vl last))*vl (q.getD (0-(r.length-q.length)) []))):=by rw [bZ];exact fZ ((s3.mul s2).mul s4) (by omega)
  have hx:=zom (q:=q) (r:=r) (last:=last) (top:=top) (i:=0) hs
  have go:=@zqL q last r.length top r (by omega) (by omega) ⟨pr.mono (by omega),hlast.mono (by omega)⟩ ⟨m1,hlast.mono (by omega)⟩ (by omega) (by omega) (by omega) (by omega) (by omega) ⟨htop.mono (by omega),hlast.mono (by omega)⟩
   (by rw [e2];exact ⟨m3,pq.mono (by omega)⟩) (by rw [e2];exact ⟨m2,m4⟩) (by simp) (by simp) (by simp) (by simp) (Ex.exit 2,za3 q last r.length top r r.length r.length (rsL q r last top r.length))
  rw [e2] at go
  refine go ?_
  rw [show rsL q r last top 1=[rsF q r last top 0] from rfl,← hx] at ih
  exact ih
 ·have hx:=zon (q:=q) (r:=r) (last:=last) (top:=top) (i:=0) hs
  have go:=@zqM q last r.length top r (by omega) (by omega) ⟨pr.mono (by omega),hlast.mono (by omega)⟩ ⟨m1,hlast.mono (by omega)⟩ (by omega) (by omega) (by omega) (by simp) (by simp) (by simp) (by simp) (Ex.exit 2,za3 q last r.length top r r.length r.length (rsL q r last top r.length))
  refine go ?_
  rw [show rsL q r last top 1=[rsF q r last top 0] from rfl,← hx] at ih
  exact ih
def rsT (q:List (List Int)):Nat→List (List Int)→List (List Int)
 | 0,r=>r
 | k + 1,r=>if q.length≤r.length then
  rsT q k ((rsL q r (q.getD (q.length-1) []) (r.getD (r.length-1) []) r.length).take (cutN (vls (rsL q r (q.getD (q.length-1) []) (r.getD (r.length-1) []) r.length)) r.length))
  else r
theorem rsF_pQ {q r:List (List Int)} {last top:List Int} {N M:Nat} (hr:∀l∈r,pQ N l) (hq:∀l∈q,pQ M l) (hlast:pQ M last) (htop:pQ N top) {i:Nat} (hi:i<r.length) (hlen:q.length≤r.length):pQ (N+2*M+10) (rsF q r last top i):=by
 have s1:=zaD (zbe hr (i:=i) hi)
 have s2:=zaD hlast
 have s3:=zaD htop
 unfold rsF
 refine fZ (k:=N+2*M+10) ?_ (Nat.le_refl _)
 unfold agC
 rw [← zav]
 split
 ·rename_i hs
  have s4:=zaD (zbe hq (i:=i-(r.length-q.length)) (by omega))
  rw [← zav]
  exact Sz.add (s1.mul (s2.mul s2)) (((s3.mul s2).mul s4).neg) (by omega) (by omega)
 ·exact(s1.mul (s2.mul s2)).mono (by omega)
theorem rsL_pQ {q r:List (List Int)} {last top:List Int} {N M:Nat} (hr:∀l∈r,pQ N l) (hq:∀l∈q,pQ M l) (hlast:pQ M last) (htop:pQ N top) (hlen:q.length≤r.length):∀l∈rsL q r last top r.length,pQ (N+2*M+10) l:=by
 intro l hl
 unfold rsL at hl
 obtain ⟨i,hi,rfl⟩:=List.mem_map.1 hl
 exact rsF_pQ hr hq hlast htop (List.mem_range.1 hi) hlen
theorem rsTop {q r:List (List Int)} (hq0:1≤q.length) (hlen:q.length≤r.length):cutN (vls (rsL q r (q.getD (q.length-1) []) (r.getD (r.length-1) []) r.length)) r.length<r.length:=by
 obtain ⟨m,hm⟩:∃m,r.length=m+1:=⟨r.length-1,by omega⟩
 have h0:(vls (rsL q r (q.getD (q.length-1) []) (r.getD (r.length-1) []) r.length)).getD m 0=0:=by
  rw [← zav]
  have e:(rsL q r (q.getD (q.length-1) []) (r.getD (r.length-1) []) r.length).getD m []=rsF q r (q.getD (q.length-1) []) (r.getD (r.length-1) []) m:=by
   unfold rsL
   simp_all
  rw [e]
  unfold rsF agC
  rw [bZ,if_pos (by omega),← zav,← zav,show m-(r.length-q.length)=q.length-1 by omega,show r.length-1=m by omega]
  grind
 rw [hm]
 rw [hm] at h0
 exact Nat.lt_succ_of_le (znD h0)
theorem rre_l2 {q:List (List Int)} {M n6:Nat} {lr:List (List Int)} (hq0:1≤q.length) (hql:q.length≤1000) (hq:∀l∈q,pQ M l):∀(k:Nat) (r:List (List Int)) (N:Nat),r.length≤k→r.length≤1000→(∀l∈r,pQ N l)→N+k*(2*M+10)≤89000→M≤40000 →
    zhZ (zfe q (q.getD (q.length-1) []) n6 lr r) (Ex.exit 0,zdg q (q.getD (q.length-1) []) n6 lr (rsT q k r))∧(∀l∈rsT q k r,pQ (N+k*(2*M+10)) l)∧(rsT q k r).length≤r.length∧(rsT q k r).length<q.length
  | k, r, N,hk,hm,hr,hs,hM=>by
    by_cases hc:q.length≤r.length
    · obtain ⟨k,rfl⟩:∃j,k=j+1:=⟨k-1,by omega⟩
      have hmul:(k+1)*(2*M+10)=k*(2*M+10)+(2*M+10):=Nat.succ_mul _ _
      have hlast:=zbe hq (i:=q.length-1) (by omega)
      have htop:=zbe hr (i:=r.length-1) (by omega)
      have L1:=rre_l1s (lr:=lr) hr hq hlast htop (by omega) hq0 hc hm
      have hP:=rsL_pQ hr hq hlast htop hc
      have hT:=rsTop hq0 hc
      have hl:=zdj q r (q.getD (q.length-1) []) (r.getD (r.length-1) []) r.length
      have e1:Int.toNat ((r.length:Int)-1)=r.length-1:=by omega
      have e:rsT q (k+1) r=rsT q k ((rsL q r (q.getD (q.length-1) []) (r.getD (r.length-1) []) r.length).take (cutN (vls (rsL q r (q.getD (q.length-1) []) (r.getD (r.length-1) []) r.length)) r.length)):=by
        conv=>lhs;unfold rsT
        rw [if_pos hc]
      generalize hX:rsL q r (q.getD (q.length-1) []) (r.getD (r.length-1) []) r.length=X at *
      have hl2:(X.take (cutN (vls X) r.length)).length=cutN (vls X) r.length:=by rw [List.length_take];omega
      obtain ⟨i1,i2,i3,i4⟩:=rre_l2 (n6:=n6) (lr:=lr) hq0 hql hq k (X.take (cutN (vls X) r.length)) (N+2*M+10) (by omega) (by omega) (fun l h=>hP l (List.mem_of_mem_take h)) (by omega) hM
      have go:=@zqX q (q.getD (q.length-1) []) n6 lr r r.length r.length X (by omega) (by omega) (by omega) (by omega) (by rw [e1];exact L1) (by omega)
        (by
          rw [List.take_of_length_le (by omega)]
          exact ⟨by omega,fun l h=>(hP l h).mono (by omega)⟩) (Ex.exit 0,zdg q (q.getD (q.length-1) []) n6 lr (rsT q (k+1) r))
      grind
    · have e:rsT q k r=r:=by
        cases k with
        | zero=>rfl
        | succ k=>unfold rsT;rw [if_neg hc]
      rw [e]
      exact ⟨zqY q _ n6 lr r (by omega),fun l h=>(hr l h).mono (Nat.le_add_right _ _),Nat.le_refl _,by omega⟩
def pRe (p q:List (List Int)):Prop:=(∃N M:Nat,(∀l∈p,pQ N l)∧(∀l∈q,pQ M l)∧N+p.length*(2*M+10)≤89000∧M≤40000)∧p.length≤1000∧1≤q.length∧q.length≤1000
instance tRe {p q:List (List Int)}:Tst (pRe p q):=⟨false,fun h=>by cases h⟩
theorem rest_fc (p q:List (List Int)) (h:pRe p q):FC tP 141 [.lst (.sl (.int .i64)) p,.lst (.sl (.int .i64)) q] (.lst (.sl (.int .i64)) (rsT q p.length p)):=by
  obtain ⟨⟨N,M,hp,hq,hs,hM⟩,hpl,hq0,hql⟩:=h
  have e1:Int.toNat ((q.length:Int)-1)=q.length-1:=by omega
  by_cases hc:q.length≤p.length
  · obtain ⟨k,hk⟩:∃j,p.length=j+1:=⟨p.length-1,by omega⟩
    have hmul:(k+1)*(2*M+10)=k*(2*M+10)+(2*M+10):=Nat.succ_mul _ _
    rw [hk,hmul] at hs
    have hlast:=zbe hq (i:=q.length-1) (by omega)
    have htop:=zbe hp (i:=p.length-1) (by omega)
    have L0:=rre_l0s hp hq hlast htop (by omega) hq0 hc hpl
    have hP:=rsL_pQ hp hq hlast htop hc
    have hT:=rsTop hq0 hc
    have hl:=zdj q p (q.getD (q.length-1) []) (p.getD (p.length-1) []) p.length
    have e2:Int.toNat ((p.length:Int)-1)=p.length-1:=by omega
    have e:rsT q p.length p=rsT q k ((rsL q p (q.getD (q.length-1) []) (p.getD (p.length-1) []) p.length).take (cutN (vls (rsL q p (q.getD (q.length-1) []) (p.getD (p.length-1) []) p.length)) p.length)):=by
      conv=>lhs;rw [hk];unfold rsT
      rw [if_pos hc]
    generalize hX:rsL q p (q.getD (q.length-1) []) (p.getD (p.length-1) []) p.length=X at *
    have hl2:(X.take (cutN (vls X) p.length)).length=cutN (vls X) p.length:=by rw [List.length_take];omega
    obtain ⟨i1,_,_,_⟩:=rre_l2 (n6:=p.length) (lr:=p) hq0 hql hq k (X.take (cutN (vls X) p.length)) (N+2*M+10) (by omega) (by omega) (fun l h=>hP l (List.mem_of_mem_take h)) (by omega) hM
    have go:=@zqV q (q.getD (q.length-1) []) p.length p p.length p.length X (by omega) (by omega) (by omega) (by omega) (by omega) (by rw [e2];exact L0) (by omega)
      (by
        rw [List.take_of_length_le (by omega)]
        exact ⟨by omega,fun l h=>(hP l h).mono (by omega)⟩) (Ex.exit 0,zdg q (q.getD (q.length-1) []) p.length p (rsT q p.length p))
    rw [show X.take p.length=X from List.take_of_length_le (by omega),show X.length=p.length from hl] at go
    rw [e] at go ⊢
    have f:=go i1
    exact rre_1 p q _ (by omega) (by omega) (by omega) (by omega) (by omega) (by rw [e1,Nat.zero_add];exact f)
  · have e:rsT q p.length p=p:=by
      cases hk:p.length with
      | zero=>rfl
      | succ k=>unfold rsT;rw [if_neg hc]
    rw [e]
    have:=rre_0 p q (by omega) (by omega) (by omega) (by omega) (by omega) (by rw [e1,Nat.zero_add];exact zqW q _ p.length p (by omega)) (by simp)
    simp_all
noncomputable section
theorem sa0_0 (a b:Int):FunI (eZ tP zaL bw) 60 146 [.sl (uZ .W []) 0,W a,W b] [] [] [1,0,0,0] (aI 0) [cZ 1]:={}
theorem sa1_0 (c a b:Int):FunI (eZ tP zaL bw) 60 146 [.sl (uZ .W [c]) 1,W a,W b] [] [] [1,0,0,0,2,0,0,3,0,0,4,0,0,5,0,0] (aI (0*a+c*1).sign) [cZ 1,pDD 0 a,pDD c 1,pDD (0*a) (c*1),pDD 1 b]:={}
theorem sa2_0 (c d a b:Int):FunI (eZ tP zaL bw) 60 146 [.sl (uZ .W [c,d]) 2,W a,W b] [] [] [1,0,0,0,2,0,0,3,0,0,4,0,0,5,0,0,6,0,0,7,0,0,8,0,0,9,0,0] (aI ((0*a+d*1)*a+c*(1*b)).sign) [cZ 1,pDD 0 a,pDD d 1,pDD (0*a) (d*1),pDD 1 b,pDD (0*a+d*1) a,pDD c (1*b),pDD ((0*a+d*1)*a) (c*(1*b)),pDD (1*b) b]:={}
theorem sa3_0 (c d e a b:Int):FunI (eZ tP zaL bw) 60 146 [.sl (uZ .W [c,d,e]) 3,W a,W b] [] [] [1,0,0,0,2,0,0,3,0,0,4,0,0,5,0,0,6,0,0,7,0,0,8,0,0,9,0,0,10,0,0,11,0,0,12,0,0,13,0,0] (aI (((0*a+e*1)*a+d*(1*b))*a+c*(1*b*b)).sign) [cZ 1,pDD 0 a,pDD e 1,pDD (0*a) (e*1),pDD 1 b,pDD (0*a+e*1) a,pDD d (1*b),pDD ((0*a+e*1)*a) (d*(1*b)),pDD (1*b) b,pDD ((0*a+e*1)*a+d*(1*b)) a,pDD c (1*b*b),pDD (((0*a+e*1)*a+d*(1*b))*a) (c*(1*b*b)),pDD (1*b*b) b]:={}
theorem sa4_0 (c d e f a b:Int):FunI (eZ tP zaL bw) 60 146 [.sl (uZ .W [c,d,e,f]) 4,W a,W b] [] [] [1,0,0,0,2,0,0,3,0,0,4,0,0,5,0,0,6,0,0,7,0,0,8,0,0,9,0,0,10,0,0,11,0,0,12,0,0,13,0,0,14,0,0,15,0,0,16,0,0,17,0,0] (aI ((((0*a+f*1)*a+e*(1*b))*a+d*(1*b*b))*a+c*(1*b*b*b)).sign) [cZ 1,pDD 0 a,pDD f 1,pDD (0*a) (f*1),pDD 1 b,pDD (0*a+f*1) a,pDD e (1*b),pDD ((0*a+f*1)*a) (e*(1*b)),pDD (1*b) b,pDD ((0*a+f*1)*a+e*(1*b)) a,pDD d (1*b*b),pDD (((0*a+f*1)*a+e*(1*b))*a) (d*(1*b*b)),pDD (1*b*b) b,pDD (((0*a+f*1)*a+e*(1*b))*a+d*(1*b*b)) a,pDD c (1*b*b*b),pDD ((((0*a+f*1)*a+e*(1*b))*a+d*(1*b*b))*a) (c*(1*b*b*b)),pDD (1*b*b*b) b]:={}
theorem sa5_0 (c d e f g a b:Int):FunI (eZ tP zaL bw) 60 146 [.sl (uZ .W [c,d,e,f,g]) 5,W a,W b] [] [] [1,0,0,0,2,0,0,3,0,0,4,0,0,5,0,0,6,0,0,7,0,0,8,0,0,9,0,0,10,0,0,11,0,0,12,0,0,13,0,0,14,0,0,15,0,0,16,0,0,17,0,0,18,0,0,19,0,0,20,0,0,21,0,0] (aI (((((0*a+g*1)*a+f*(1*b))*a+e*(1*b*b))*a+d*(1*b*b*b))*a+c*(1*b*b*b*b)).sign) [cZ 1,pDD 0 a,pDD g 1,pDD (0*a) (g*1),pDD 1 b,pDD (0*a+g*1) a,pDD f (1*b),pDD ((0*a+g*1)*a) (f*(1*b)),pDD (1*b) b,pDD ((0*a+g*1)*a+f*(1*b)) a,pDD e (1*b*b),pDD (((0*a+g*1)*a+f*(1*b))*a) (e*(1*b*b)),pDD (1*b*b) b,pDD (((0*a+g*1)*a+f*(1*b))*a+e*(1*b*b)) a,pDD d (1*b*b*b),pDD ((((0*a+g*1)*a+f*(1*b))*a+e*(1*b*b))*a) (d*(1*b*b*b)),pDD (1*b*b*b) b,pDD ((((0*a+g*1)*a+f*(1*b))*a+e*(1*b*b))*a+d*(1*b*b*b)) a,pDD c (1*b*b*b*b),pDD (((((0*a+g*1)*a+f*(1*b))*a+e*(1*b*b))*a+d*(1*b*b*b))*a) (c*(1*b*b*b*b)),pDD (1*b*b*b*b) b]:={}
end
theorem mZ {x y:Int} {j k:Nat} [hx:SzC x j] [hy:SzC y k] (hj:j≤1048576) (hk:k≤1048576):pDD x y:=⟨zdx hj,zdx hk⟩
def zlV (a b:Int):List Int→Int × Int
 | []=>(0,1)
 | c :: l=>((zlV a b l).1*a+c*(zlV a b l).2,(zlV a b l).2*b)
def zaf (l:List Int) (a b:Int):Int:=(zlV a b l).1
def zcw (l:List Int) (a b:Int):Prop:=Nat.ble l.length 5=true∧SzL 20000 l∧Sz 20000 a∧Sz 20000 b
instance tstPoly {l:List Int} {a b:Int}:Tst (zcw l a b):=inferInstanceAs (Tst (_∧SzL 20000 l∧Sz 20000 a∧Sz 20000 b))
theorem zh4 (l:List Int) (a b:Int) (h:zcw l a b):FC tP 146 [.zl .W l,W a,W b] (lI (zaf l a b).sign):=by
 obtain ⟨hl,hz,ha,hb⟩:=h
 have ia:SzC a 20000:=⟨ha⟩
 have ib:SzC b 20000:=⟨hb⟩
 match l,hl,hz with
 | [],_,_=>
  exact(lZ zhv (sa0_0  a b) (by(repeat' (first | exact AllC.nil | refine AllC.cons ?_ ?_));all_goals (first | (with_reducible rfl) | exact mZ (by decide) (by decide) | trivial | exact ⟨by decide,by decide⟩))).le (.cons (Le.zl_sl .W []) (LeL.refl _)) (Le.refl _)
 | [c0],_,⟨h0,_⟩=>
  have i0:SzC c0 20000:=⟨h0⟩
  exact(lZ zhv (sa1_0 c0 a b) (by(repeat' (first | exact AllC.nil | refine AllC.cons ?_ ?_));all_goals (first | (with_reducible rfl) | exact mZ (by decide) (by decide) | trivial | exact ⟨by decide,by decide⟩))).le (.cons (Le.zl_sl .W [c0]) (LeL.refl _)) (Le.refl _)
 | [c0,c1],_,⟨h0,h1,_⟩=>
  have i0:SzC c0 20000:=⟨h0⟩
  have i1:SzC c1 20000:=⟨h1⟩
  exact(lZ zhv (sa2_0 c0 c1 a b) (by(repeat' (first | exact AllC.nil | refine AllC.cons ?_ ?_));all_goals (first | (with_reducible rfl) | exact mZ (by decide) (by decide) | trivial | exact ⟨by decide,by decide⟩))).le (.cons (Le.zl_sl .W [c0,c1]) (LeL.refl _)) (Le.refl _)
 | [c0,c1,c2],_,⟨h0,h1,h2,_⟩=>
  have i0:SzC c0 20000:=⟨h0⟩
  have i1:SzC c1 20000:=⟨h1⟩
  have i2:SzC c2 20000:=⟨h2⟩
  exact(lZ zhv (sa3_0 c0 c1 c2 a b) (by(repeat' (first | exact AllC.nil | refine AllC.cons ?_ ?_));all_goals (first | (with_reducible rfl) | exact mZ (by decide) (by decide) | trivial | exact ⟨by decide,by decide⟩))).le (.cons (Le.zl_sl .W [c0,c1,c2]) (LeL.refl _)) (Le.refl _)
 | [c0,c1,c2,c3],_,⟨h0,h1,h2,h3,_⟩=>
  have i0:SzC c0 20000:=⟨h0⟩
  have i1:SzC c1 20000:=⟨h1⟩
  have i2:SzC c2 20000:=⟨h2⟩
  have i3:SzC c3 20000:=⟨h3⟩
  exact(lZ zhv (sa4_0 c0 c1 c2 c3 a b) (by(repeat' (first | exact AllC.nil | refine AllC.cons ?_ ?_));all_goals (first | (with_reducible rfl) | exact mZ (by decide) (by decide) | trivial | exact ⟨by decide,by decide⟩))).le (.cons (Le.zl_sl .W [c0,c1,c2,c3]) (LeL.refl _)) (Le.refl _)
 | [c0,c1,c2,c3,c4],_,⟨h0,h1,h2,h3,h4,_⟩=>
  have i0:SzC c0 20000:=⟨h0⟩
  have i1:SzC c1 20000:=⟨h1⟩
  have i2:SzC c2 20000:=⟨h2⟩
  have i3:SzC c3 20000:=⟨h3⟩
  have i4:SzC c4 20000:=⟨h4⟩
  exact(lZ zhv (sa5_0 c0 c1 c2 c3 c4 a b) (by(repeat' (first | exact AllC.nil | refine AllC.cons ?_ ?_));all_goals (first | (with_reducible rfl) | exact mZ (by decide) (by decide) | trivial | exact ⟨by decide,by decide⟩))).le (.cons (Le.zl_sl .W [c0,c1,c2,c3,c4]) (LeL.refl _)) (Le.refl _)
 | _ :: _ :: _ :: _ :: _ :: _ :: _,hl,_=>simp [Nat.ble_eq] at hl
def ctr12:Ctr:=(146,cPWW zcw (fun l a b=>lI (zaf l a b).sign)) :: zaL
theorem zg2:∀p∈ctr12,jZ tP p.1 p.2:=CAll.cons (cPWW_ok zh4) zes
theorem ok12:(eZ tP ctr12 bw).OK:=JZ zg2
noncomputable def ctrH6:Ctr:=(141,cD2 (.sl (.sl (.int .i64))) (.sl (.sl (.int .i64))) pRe (fun p q=>.lst (.sl (.int .i64)) (rsT q p.length p))) :: ctrH5
theorem zkZ:∀p∈ctrH6,jZ tP p.1 p.2:=CAll.cons (zb5 rest_fc) zkY
theorem zpw:(eZ tP ctrH6 bw [] kdR).OK:=vZ zaC mixed zkZ zaA
noncomputable section
abbrev zhD (s:St) (r:Ex × St):Prop:=Loops 1 tP (kZ tP 156 0) s r
abbrev zgC (a:List (List Int)) (b c:List Int) (d:Int):St:=⟨sp 32 [(0,.lst KI a),(1,.sq b),(2,.sq c),(7,aN),(8,.own 0 0 1 1),(9,aI d)],[.ints [1] true],[]⟩
abbrev zeK (a:List (List Int)) (b c:List Int) (d e f g:Int):St:=⟨sp 32 [(0,.lst KI a),(1,.sq b),(2,.sq c),(7,.ni e),(8,.ni f),(9,aI g)],[.ints [1] false],[]⟩
abbrev zlF (a:List (List Int)) (b c:List Int) (d:Int):St:=⟨sp 32 [(0,.lst KI a),(1,.sq b),(2,.sq c),(7,aN),(8,.own 0 0 1 1),(9,aI d)],[.ints [1] true],[]⟩
abbrev zc8 (a:List (List Int)) (b c:List Int) (d e f g:Int):St:=⟨sp 32 [(0,.lst KI a),(1,.sq b),(2,.sq c),(7,.ni e),(8,.ni f),(9,aI g)],[.ints [1] false],[]⟩
theorem zpN (a:List (List Int)) (b d:List Int) (f:Int) (h1:f≥0) (h2:0≤f) (h3:f<(a.length:Int)) (h4:pMu [] b) (h5:1≤1) (h6:pMu (a.getD f.toNat []) (List.take 1 [1])) (h7:pAd (aZ (0*vl b)) (aZ (vl (a.getD f.toNat [])*1))) (h8:pMu (List.take 1 [1]) d) (h9:r64 (f-1)):LG zhD (zgC a b d f) (zeK a b d f (vl (aZ (0*vl b))+vl (aZ (vl (a.getD f.toNat [])*1))) (1*vl d) (f-1)):=Loops.go (LS.at zpw 60 [] [0,1,2,7,8,9] [] [1] (.t h1<|.t h2<|.t h3<|.c h4<|.c h5<|.c h6<|.c h7<|.c h8<|.i h9<|.e) [1,2,3,4,5,6,7,5,8,9])
theorem zpO (a:List (List Int)) (b c:List Int) (d:Int) (h1:¬(d≥0)):zhD (zgC a b c d) (Ex.exit 0,(zlF a b c d)):=LF (LS.at zpw 60 [] [0,1,2,7,8,9] [] [0] (.f h1<|.e) [1])
theorem zpP (a:List (List Int)) (b d:List Int) (f g j l:Int) (h1:l≥0) (h2:0≤l) (h3:l<(a.length:Int)) (h4:pMu (aZ g) b) (h5:pMu (a.getD l.toNat []) (aZ j)) (h6:pAd (aZ (vl (aZ g)*vl b)) (aZ (vl (a.getD l.toNat [])*vl (aZ j)))) (h7:pMu (aZ j) d) (h8:r64 (l-1)):LG zhD (zeK a b d f g j l) (zeK a b d f (vl (aZ (vl (aZ g)*vl b))+vl (aZ (vl (a.getD l.toNat [])*vl (aZ j)))) (vl (aZ j)*vl d) (l-1)):=Loops.go (LS.at zpw 60 [] [0,1,2,7,8,9] [] [1] (.t h1<|.t h2<|.t h3<|.c h4<|.c h5<|.c h6<|.c h7<|.i h8<|.e) [1,2,3,4,5,6,7,8])
theorem zpQ (a:List (List Int)) (b c:List Int) (d g i j:Int) (h1:¬(j≥0)):zhD (zeK a b c d g i j) (Ex.exit 0,(zc8 a b c d g i j)):=LF (LS.at zpw 60 [] [0,1,2,7,8,9] [] [0] (.f h1<|.e) [1])
theorem rat_0 (p:List (List Int)) (a b:List Int) (h1:r64 ((p.length:Int)-1)) (hL1:zhD (zgC p a b ((p.length:Int)-1)) (Ex.exit 0,(zlF p a b ((p.length:Int)-1)))):FC tP 156 [.lst (.sl (.int .i64)) p,.sq a,.sq b] (aN):=dZ zpw 60 [] (.i h1<|.v [0,1,2,7,8,9] [] hL1<|.e) [1,0,2]
theorem rat_1 (p:List (List Int)) (a b:List Int) (c d f:Int) (h1:r64 ((p.length:Int)-1)) (hL1:zhD (zgC p a b ((p.length:Int)-1)) (Ex.exit 0,(zc8 p a b ((p.length:Int)-1) c d f))):FC tP 156 [.lst (.sl (.int .i64)) p,.sq a,.sq b] (.ni c):=dZ zpw 60 [] (.i h1<|.v [0,1,2,7,8,9] [] hL1<|.e) [1,0,2]
end
open Go.Kf
theorem sg_sz {K A:Nat} {a b:Int} (ha:Sz A a) (hb:Sz A b):∀(l:List Int),(∀c∈l,Sz K c)→Sz (1+l.length*(A+1)) (zlV a b l).2∧Sz (K+10+l.length*(A+10)) (zlV a b l).1
 | [],_=>⟨Sz.lit (z:=1) (by decide) (by simp),Sz.zero⟩
 | c :: l,h=>by
  obtain ⟨h1,h2⟩:=sg_sz ha hb l fun d hd=>h d (by simp [hd])
  have m1:(l.length+1)*(A+1)=l.length*(A+1)+(A+1):=Nat.succ_mul _ _
  have m2:(l.length+1)*(A+10)=l.length*(A+10)+(A+10):=Nat.succ_mul _ _
  have m3:l.length*(A+10)=l.length*(A+1)+l.length*9:=by rw [← Nat.mul_add]
  refine ⟨?_,?_⟩
  ·show Sz (1+(l.length+1)*(A+1)) ((zlV a b l).2*b)
   exact(h1.mul hb).mono (by omega)
  ·show Sz (K+10+(l.length+1)*(A+10)) ((zlV a b l).1*a+c*(zlV a b l).2)
   exact Sz.add (h2.mul ha) ((h c (by simp)).mul h1) (by omega) (by omega)
theorem zdo (p:List (List Int)):(vls p).length=p.length:=by simp [vls]
theorem zoG {p:List (List Int)} {i:Nat} (h:i<p.length):(vls p).drop i=vl (p.getD i []) :: (vls p).drop (i+1):=by
 rw [zfG (by rw [zdo];exact h),zav]
theorem vls_sz {p:List (List Int)} {K:Nat} (hp:∀l∈p,pQ K l):∀c∈vls p,Sz (K+3) c:=fun c hc=>by
 obtain ⟨l,hl,rfl⟩:=List.mem_map.1 hc
 exact zaD (hp l hl)
theorem zn9 {p:List (List Int)} {a b:List Int} {K A:Nat} {t9:Int} (hp:∀l∈p,pQ K l) (ha:pQ A a) (hb:pQ A b) (hl:p.length≤1000) (hs:K+30+p.length*(A+13)≤90000) :
 ∀(i:Nat),i≤p.length→zhD (zeK p a b t9 (zlV (vl a) (vl b) ((vls p).drop i)).1 (zlV (vl a) (vl b) ((vls p).drop i)).2 ((i:Int)-1)) (Ex.exit 0,zc8 p a b t9 (zaf (vls p) (vl a) (vl b)) (zlV (vl a) (vl b) (vls p)).2 (((0:Nat):Int)-1))
 | 0,_=>zpQ p a b t9 _ _ _ (by omega)
 | i + 1,hi=>by
  have ih:=zn9 (t9:=t9) hp ha hb hl hs i (by omega)
  have e1:Int.toNat (((i+1:Nat):Int)-1)=i:=by omega
  have e2:((i+1:Nat):Int)-1-1=(i:Int)-1:=by omega
  obtain ⟨s1,s2⟩:=sg_sz (zaD ha) (zaD hb) ((vls p).drop (i+1)) fun c hc=>vls_sz hp c (List.mem_of_mem_drop hc)
  have hdl:((vls p).drop (i+1)).length≤p.length:=by rw [List.length_drop,zdo];omega
  have q1:((vls p).drop (i+1)).length*(A+3+1)≤p.length*(A+13):=Nat.mul_le_mul hdl (by omega)
  have q2:((vls p).drop (i+1)).length*(A+3+10)≤p.length*(A+13):=Nat.mul_le_mul hdl (by omega)
  have hA:1*(A+13)≤p.length*(A+13):=Nat.mul_le_mul_right _ (by omega)
  have pp:=zbe hp (i:=i) (by omega)
  rw [zoG (show i<p.length by omega)] at ih
  generalize hz:zlV (vl a) (vl b) ((vls p).drop (i+1))=z at *
  have w1:pQ 90000 (aZ z.2):=fZ s1 (by omega)
  have w2:pQ 90000 (aZ z.1):=fZ s2 (by omega)
  have go:=@zpP p a b t9 z.1 z.2 (((i+1:Nat):Int)-1) (by omega) (by omega) (by omega) ⟨w2.mono (by omega),ha.mono (by omega)⟩ (by rw [e1];exact ⟨pp.mono (by omega),w1.mono (by omega)⟩)
   (by
    rw [e1,bZ,bZ]
    exact ⟨fZ (s2.mul (zaD ha)) (by omega),fZ ((zaD pp).mul s1) (by omega)⟩) ⟨w1.mono (by omega),hb.mono (by omega)⟩ (by omega) (Ex.exit 0,zc8 p a b t9 (zaf (vls p) (vl a) (vl b)) (zlV (vl a) (vl b) (vls p)).2 (((0:Nat):Int)-1))
  simp only [bZ,e1,e2] at go
  refine go ?_
  have e3:zlV (vl a) (vl b) (vl (p.getD i []) :: (vls p).drop (i+1))=(z.1*vl a+vl (p.getD i [])*z.2,z.2*vl b):=by rw [← hz];rfl
  rw [e3] at ih
  exact ih
def pAt (p:List (List Int)) (a b:List Int):Prop:=∃K A:Nat,(∀l∈p,pQ K l)∧pQ A a∧pQ A b∧p.length≤1000∧K+30+p.length*(A+13)≤80000
instance tAt {p:List (List Int)} {a b:List Int}:Tst (pAt p a b):=⟨false,fun h=>by cases h⟩
theorem at_fc (p:List (List Int)) (a b:List Int) (h:pAt p a b):FC tP 156 [.lst (.sl (.int .i64)) p,.sq a,.sq b] (.ni (zaf (vls p) (vl a) (vl b))):=by
 obtain ⟨K,A,hp,ha,hb,hl,hs⟩:=h
 by_cases h0:p=[]
 ·subst h0
  have:=rat_0 [] a b ⟨by decide,by decide⟩ (zpO [] a b _ (by simp))
  exact this.res fun E v hv=>hv.toNi (l:=[]) rfl rfl
 ·have hpos:0<p.length:=List.length_pos_iff.2 h0
  obtain ⟨m,hm⟩:∃m,p.length=m+1:=⟨p.length-1,by omega⟩
  have e0:(p.length:Int)-1=(m:Int):=by omega
  have L:=zn9 (t9:=(p.length:Int)-1) hp ha hb hl (by omega) m (by omega)
  have hA:1*(A+13)≤p.length*(A+13):=Nat.mul_le_mul_right _ (by omega)
  have pp:=zbe hp (i:=m) (by omega)
  have e1:Int.toNat ((p.length:Int)-1)=m:=by omega
  have p1:pQ 100000 (List.take 1 [(1:Int)]):=⟨by simp,fun d hd=>by simp at hd;subst hd;unfold cZ;omega⟩
  have go:=@zpN p a b ((p.length:Int)-1) (by omega) (by omega) (by omega) ⟨⟨by simp,fun d hd=>by cases hd⟩,ha.mono (by omega)⟩ (by omega) (by rw [e1];exact ⟨pp.mono (by omega),p1⟩)
   (by
    rw [e1]
    refine ⟨?_,fZ (k:=K+3) (by rw [Int.mul_one];exact zaD pp) (by omega)⟩
    rw [Int.zero_mul];exact fZ (k:=1) Sz.zero (by omega)) ⟨p1,hb.mono (by omega)⟩ (by omega) (Ex.exit 0,zc8 p a b ((p.length:Int)-1) (zaf (vls p) (vl a) (vl b)) (zlV (vl a) (vl b) (vls p)).2 (((0:Nat):Int)-1))
  simp only [bZ,e1] at go
  have e3:zlV (vl a) (vl b) ((vls p).drop m)=(0*vl a+vl (p.getD m [])*1,1*vl b):=by
   rw [zoG (show m<p.length by omega),List.drop_of_length_le (by rw [zdo];omega)];rfl
  rw [e3,show(m:Int)-1=(p.length:Int)-1-1 by omega] at L
  exact rat_1 p a b _ _ _ (by omega) (go L)
def cRat (args:List AV):M AV:=match args with
 | [x,y,z]=>do
  let p ← asK (.sl (.sl (.int .i64))) x
  let a ← asK (.sl (.int .i64)) y
  let b ← asK (.sl (.int .i64)) z
  tellD (pAt p a b) (Tst.b (pAt p a b))
  gives (.ni (zaf (vls p) (vl a) (vl b)))
 | _=>fail 300
noncomputable def ctrH7:Ctr:=(156,cRat) :: ctrH6
theorem cRat_ok:jZ tP 156 cRat:=by
 intro args _
 unfold cRat
 split
 ·exact Spec.bind (asK_spec.mono fun p hp=>Spec.bind (asK_spec.mono fun a ha=>Spec.bind (asK_spec.mono fun b hb=>Spec.bind (Spec.tellD Tst.ok fun h=>Spec.gives ((at_fc p a b h).le (.cons hp (.cons ha (.cons hb .nil))) (Le.refl _))))))
 ·exact Spec.fail
theorem zg3:∀p∈ctrH7,jZ tP p.1 p.2:=CAll.cons cRat_ok zkZ
theorem zpx:(eZ tP ctrH7 bw [] kdR).OK:=vZ zaC mixed zg3 zaA
noncomputable section
abbrev zdU (s:St) (r:Ex × St):Prop:=Loops 0 tP (kZ tP 142 0) s r
abbrev zai (a:List (List (List Int))) (b c:List Int) (d e f:Int):St:=⟨sp 38 [(0,.lst (EK.sl KI) a),(1,.sq b),(2,.sq c),(7,aI d),(8,aI e),(9,aI f)],[],[]⟩
abbrev zbB (a:List (List (List Int))) (b c:List Int) (d e f:Int):St:=⟨sp 38 [(0,.lst (EK.sl KI) a),(1,.sq b),(2,.sq c),(7,aI d),(8,aI e),(9,aI f)],[],[]⟩
theorem zpS (a:List (List (List Int))) (b d:List Int) (f g j:Int) (h1:j<(a.length:Int)) (h2:0≤j) (h3:pAt (a.getD j.toNat []) b d) (h4:pX (aZ (zaf (vls (a.getD j.toNat [])) (vl b) (vl d)))) (h5:(vl (aZ (zaf (vls (a.getD j.toNat [])) (vl b) (vl d)))).sign≠0) (h6:g≠0) (h7:(vl (aZ (zaf (vls (a.getD j.toNat [])) (vl b) (vl d)))).sign≠g) (h8:r64 (f+1)) (h9:r64 (j+1)):LG zdU (zai a b d f g j) (zai a b d (f+1) (vl (aZ (zaf (vls (a.getD j.toNat [])) (vl b) (vl d)))).sign (j+1)):=Loops.go (LS.at zpx 60 [] [0,1,2,7,8,9] [] [1,1,1,1] (.t h1<|.t h2<|.c h3<|.c h4<|.c (bne_iff_ne.2 h5)<|.c (bne_iff_ne.2 h6)<|.c (bne_iff_ne.2 h7)<|.i h8<|.i h9<|.e) [1,2,1,3,4,5,6,7,8,9])
theorem zpT (a:List (List (List Int))) (b d:List Int) (f g j:Int) (h1:j<(a.length:Int)) (h2:0≤j) (h3:pAt (a.getD j.toNat []) b d) (h4:pX (aZ (zaf (vls (a.getD j.toNat [])) (vl b) (vl d)))) (h5:(vl (aZ (zaf (vls (a.getD j.toNat [])) (vl b) (vl d)))).sign≠0) (h6:g≠0) (h7:(vl (aZ (zaf (vls (a.getD j.toNat [])) (vl b) (vl d)))).sign=g) (h8:r64 (j+1)):LG zdU (zai a b d f g j) (zai a b d f (vl (aZ (zaf (vls (a.getD j.toNat [])) (vl b) (vl d)))).sign (j+1)):=Loops.go (LS.at zpx 60 [] [0,1,2,7,8,9] [] [1,1,1,0] (.t h1<|.t h2<|.c h3<|.c h4<|.c (bne_iff_ne.2 h5)<|.c (bne_iff_ne.2 h6)<|.c (bne_eq_false_iff_eq.2 h7)<|.i h8<|.e) [1,2,1,3,4,5,6,7,8])
theorem zpU (a:List (List (List Int))) (b d:List Int) (f g j:Int) (h1:j<(a.length:Int)) (h2:0≤j) (h3:pAt (a.getD j.toNat []) b d) (h4:pX (aZ (zaf (vls (a.getD j.toNat [])) (vl b) (vl d)))) (h5:(vl (aZ (zaf (vls (a.getD j.toNat [])) (vl b) (vl d)))).sign≠0) (h6:g=0) (h7:r64 (j+1)):LG zdU (zai a b d f g j) (zai a b d f (vl (aZ (zaf (vls (a.getD j.toNat [])) (vl b) (vl d)))).sign (j+1)):=Loops.go (LS.at zpx 60 [] [0,1,2,7,8,9] [] [1,1,0] (.t h1<|.t h2<|.c h3<|.c h4<|.c (bne_iff_ne.2 h5)<|.c (bne_eq_false_iff_eq.2 h6)<|.i h7<|.e) [1,2,1,3,4,5,6,7])
theorem zpV (a:List (List (List Int))) (b d:List Int) (f g j:Int) (h1:j<(a.length:Int)) (h2:0≤j) (h3:pAt (a.getD j.toNat []) b d) (h4:pX (aZ (zaf (vls (a.getD j.toNat [])) (vl b) (vl d)))) (h5:(vl (aZ (zaf (vls (a.getD j.toNat [])) (vl b) (vl d)))).sign=0) (h6:r64 (j+1)):LG zdU (zai a b d f g j) (zai a b d f g (j+1)):=Loops.go (LS.at zpx 60 [] [0,1,2,7,8,9] [] [1,0] (.t h1<|.t h2<|.c h3<|.c h4<|.c (bne_eq_false_iff_eq.2 h5)<|.i h6<|.e) [1,2,1,3,4,5,6])
theorem zpW (a:List (List (List Int))) (b c:List Int) (d g i:Int) (h1:¬(i<(a.length:Int))):zdU (zai a b c d g i) (Ex.exit 0,(zbB a b c d g i)):=LF (LS.at zpx 60 [] [0,1,2,7,8,9] [] [0] (.f h1<|.e) [1])
theorem rch_0 (p:List (List (List Int))) (a b:List Int) (c d f:Int) (hL1:zdU (zai p a b (0) (0) (0)) (Ex.exit 0,(zbB p a b c d f))):FC tP 142 [.lst (.sl (.sl (.int .i64))) p,.sq a,.sq b] (aI c):=dZ zpx 60 [] (.v [0,1,2,7,8,9] [] hL1<|.e) [0,1]
end
theorem pAt_sz {p:List (List Int)} {a b:List Int} (h:pAt p a b):Sz 90000 (zaf (vls p) (vl a) (vl b)):=by
 obtain ⟨K,A,hp,ha,hb,hl,hs⟩:=h
 have h1:=(sg_sz (zaD ha) (zaD hb) (vls p) (vls_sz hp)).2
 rw [zdo] at h1
 exact h1.mono (by
  have:p.length*(A+3+10)=p.length*(A+13):=by rw [Nat.add_assoc]
  omega)
def zbi:List Int→Int→Int→Int × Int
 | [],n,l=>(n,l)
 | v :: vs,n,l=>if v.sign=0 then zbi vs n l else if l≠0∧v.sign≠l then zbi vs (n+1) v.sign else zbi vs n v.sign
def svs (L:List (List (List Int))) (a b:Int):List Int:=L.map fun p=>zaf (vls p) a b
theorem zeL {L:List (List (List Int))} {a b:List Int} (hL:∀p∈L,pAt p a b) (hl:L.length≤1000):∀(m i:Nat) (n l:Int),i+m=L.length→0≤n→n≤i →
 zdU (zai L a b n l i) (Ex.exit 0,zbB L a b (zbi ((svs L (vl a) (vl b)).drop i) n l).1 (zbi ((svs L (vl a) (vl b)).drop i) n l).2 L.length)
 | 0,i,n,l,hi,h0,h1=>by
  obtain rfl:i=L.length:=by omega
  rw [List.drop_of_length_le (by simp [svs])]
  exact zpW L a b n l _ (by omega)
 | m + 1, i,n,l,hi,h0,h1=>by
  have hlt:i<L.length:=by omega
  have e1:Int.toNat (i:Int)=i:=rfl
  have hg:L.getD i []=L[i]:=by simp [List.getD,hlt]
  have hp:pAt (L.getD i []) a b:=by rw [hg];exact hL _ (List.getElem_mem hlt)
  have hx:pX (aZ (zaf (vls (L.getD i [])) (vl a) (vl b))):=fZ (pAt_sz hp) (by decide)
  have hd:(svs L (vl a) (vl b)).drop i=zaf (vls (L.getD i [])) (vl a) (vl b) :: (svs L (vl a) (vl b)).drop (i+1):=by
   rw [List.drop_eq_getElem_cons (by simpa [svs] using hlt),hg];simp [svs]
  rw [hd]
  have nv:=bZ (zaf (vls (L.getD i [])) (vl a) (vl b))
  by_cases hz:(zaf (vls (L.getD i [])) (vl a) (vl b)).sign=0
  ·have ih:=zeL hL hl m (i+1) n l (by omega) h0 (by omega)
   have go:=@zpV L a b n l i (by omega) (by omega) hp hx (by rw [e1];show Int.sign (vl (aZ (zaf (vls (L.getD i [])) (vl a) (vl b))))=0;rw [nv];exact hz) (by omega) (Ex.exit 0,zbB L a b (zbi ((svs L (vl a) (vl b)).drop (i+1)) n l).1 (zbi ((svs L (vl a) (vl b)).drop (i+1)) n l).2 L.length)
   unfold zbi
   rw [if_pos hz]
   exact go ih
  ·have hz':Int.sign (vl (aZ (zaf (vls (L.getD i [])) (vl a) (vl b))))≠0:=by rw [nv];exact hz
   unfold zbi
   rw [if_neg hz]
   by_cases hl0:l=0
   ·rw [if_neg (fun h=>h.1 hl0)]
    have ih:=zeL hL hl m (i+1) n (zaf (vls (L.getD i [])) (vl a) (vl b)).sign (by omega) h0 (by omega)
    have go:=@zpU L a b n l i (by omega) (by omega) hp hx hz' hl0 (by omega) (Ex.exit 0,zbB L a b (zbi ((svs L (vl a) (vl b)).drop (i+1)) n (zaf (vls (L.getD i [])) (vl a) (vl b)).sign).1 (zbi ((svs L (vl a) (vl b)).drop (i+1)) n (zaf (vls (L.getD i [])) (vl a) (vl b)).sign).2 L.length)
    refine go ?_
    show zdU (zai L a b n (Int.sign (vl (aZ (zaf (vls (L.getD i [])) (vl a) (vl b))))) ((i:Int)+1)) _
    rw [nv];exact ih
   ·by_cases hne:(zaf (vls (L.getD i [])) (vl a) (vl b)).sign=l
    ·rw [if_neg (fun h=>h.2 hne)]
     have ih:=zeL hL hl m (i+1) n (zaf (vls (L.getD i [])) (vl a) (vl b)).sign (by omega) h0 (by omega)
     have go:=@zpT L a b n l i (by omega) (by omega) hp hx hz' hl0 (by rw [e1];show Int.sign (vl (aZ (zaf (vls (L.getD i [])) (vl a) (vl b))))=l;rw [nv];exact hne) (by omega) (Ex.exit 0,zbB L a b (zbi ((svs L (vl a) (vl b)).drop (i+1)) n (zaf (vls (L.getD i [])) (vl a) (vl b)).sign).1 (zbi ((svs L (vl a) (vl b)).drop (i+1)) n (zaf (vls (L.getD i [])) (vl a) (vl b)).sign).2 L.length)
     refine go ?_
     show zdU (zai L a b n (Int.sign (vl (aZ (zaf (vls (L.getD i [])) (vl a) (vl b))))) ((i:Int)+1)) _
     rw [nv];exact ih
    ·rw [if_pos ⟨hl0,hne⟩]
     have ih:=zeL hL hl m (i+1) (n+1) (zaf (vls (L.getD i [])) (vl a) (vl b)).sign (by omega) (by omega) (by omega)
     have go:=@zpS L a b n l i (by omega) (by omega) hp hx hz' hl0 (by rw [e1];show Int.sign (vl (aZ (zaf (vls (L.getD i [])) (vl a) (vl b))))≠l;rw [nv];exact hne) (by omega) (by omega) (Ex.exit 0,zbB L a b (zbi ((svs L (vl a) (vl b)).drop (i+1)) (n+1) (zaf (vls (L.getD i [])) (vl a) (vl b)).sign).1 (zbi ((svs L (vl a) (vl b)).drop (i+1)) (n+1) (zaf (vls (L.getD i [])) (vl a) (vl b)).sign).2 L.length)
     refine go ?_
     show zdU (zai L a b (n+1) (Int.sign (vl (aZ (zaf (vls (L.getD i [])) (vl a) (vl b))))) ((i:Int)+1)) _
     rw [nv];exact ih
def pCh (L:List (List (List Int))) (a b:List Int):Prop:=(∀p∈L,pAt p a b)∧L.length≤1000
instance tCh {L:List (List (List Int))} {a b:List Int}:Tst (pCh L a b):=⟨false,fun h=>by cases h⟩
theorem zoT (L:List (List (List Int))) (a b:List Int) (h:pCh L a b):FC tP 142 [.lst (.sl (.sl (.int .i64))) L,.sq a,.sq b] (lI (zbi (svs L (vl a) (vl b)) 0 0).1):=by
 have:=zeL h.1 h.2 L.length 0 0 0 (by omega) (by omega) (by omega)
 exact rch_0 L a b _ _ _ this
noncomputable section
end
open Go.Kf
theorem zd5:∀l:List Int,hZ .whole l=uZ .W l
 | []=>rfl
 | z :: l=>by
  show EK.cells .whole z++hZ .whole l=zgm .W z++uZ .W l
  rw [zd5 l];rfl
theorem Le.lst_zlW (l:List Int):Le (.lst .whole l) (.zl .W l):=fun E v h=>by
 cases h with
 | lst h=>exact .zl (by rw [← zd5];exact h)
theorem zjg (l:List Int) (a b:Int) (h:zcw l a b):FC tP 146 [.lst .whole l,W a,W b] (lI (zaf l a b).sign):=
 (zh4 l a b h).le (.cons (Le.lst_zlW l) (LeL.refl _)) (Le.refl _)
theorem agC_map (q r:List (List Int)) (last top:List Int) (i:Nat):vl (rsF q r last top i)=agC (vls q) (vl last*vl last) (vl top*vl last) (r.length-q.length) i ((vls r).getD i 0):=by
 unfold rsF;rw [bZ]
theorem ziV {r r':List Int}:∀n,(∀i,i<n→r.getD i 0=r'.getD i 0)→cutN r n=cutN r' n
 | 0,_=>rfl
 | n+1,h=>by
  unfold cutN
  rw [h n (by omega),ziV n fun i hi=>h i (by omega)]
theorem zo4 {l:List (List Int)} {c i:Nat} (h:i<c):(l.take c).getD i []=l.getD i []:=by
 simp only [List.getD_eq_getElem?_getD,List.getElem?_take,h,if_true]
theorem rsT_agN {q:List (List Int)} (hq0:1≤q.length):∀(k n:Nat) (r:List (List Int)) (R:List Int),r.length=n→n≤R.length→(∀i,i<n→(vls r).getD i 0=R.getD i 0) →
 (rsT q k r).length=(agN (vls q) k n R).1∧(agN (vls q) k n R).1≤(agN (vls q) k n R).2.length∧∀i,i<(agN (vls q) k n R).1→(vls (rsT q k r)).getD i 0=(agN (vls q) k n R).2.getD i 0
 | 0,n,r,R,hn,hR,h=>⟨hn,hR,h⟩
 | k + 1, n,r,R,hn,hR,h=>by
  unfold rsT agN
  rw [zdo,hn]
  by_cases hc:q.length≤n
  ·rw [if_pos hc,if_pos hc]
   have hlast:vl (q.getD (q.length-1) [])=(vls q).getD (q.length-1) 0:=zav _ _
   have htop:vl (r.getD (n-1) [])=R.getD (n-1) 0:=by rw [zav,h _ (by omega)]
   have hl:=zdj q r (q.getD (q.length-1) []) (r.getD (n-1) []) n
   have hcell:∀i,i<n→(vls (rsL q r (q.getD (q.length-1) []) (r.getD (n-1) []) n)).getD i 0=(agR (vls q) ((vls q).getD (q.length-1) 0*(vls q).getD (q.length-1) 0) (R.getD (n-1) 0*(vls q).getD (q.length-1) 0) (n-q.length) R n).getD i 0:=fun i hi=>by
    rw [← zav,zgT _ _ _ _ _ _ _ hR,if_pos hi]
    have e:(rsL q r (q.getD (q.length-1) []) (r.getD (n-1) []) n).getD i []=rsF q r (q.getD (q.length-1) []) (r.getD (n-1) []) i:=by
     unfold rsL
     rw [List.getD_eq_getElem?_getD,List.getElem?_map,List.getElem?_range hi];rfl
    rw [e,agC_map,hlast,htop,hn,h i hi]
   simp only
   rw [ziV n hcell]
   have hcl:=zg7 (agR (vls q) ((vls q).getD (q.length-1) 0*(vls q).getD (q.length-1) 0) (R.getD (n-1) 0*(vls q).getD (q.length-1) 0) (n-q.length) R n) n
   have hal:=zgU (vls q) ((vls q).getD (q.length-1) 0*(vls q).getD (q.length-1) 0) (R.getD (n-1) 0*(vls q).getD (q.length-1) 0) (n-q.length) R n
   refine rsT_agN hq0 k _ _ _ (by rw [List.length_take,hl];omega) (by omega) fun i hi=>?_
   rw [← hcell i (by omega),← zav (List.take _ _) i,zo4 hi]
   exact zav _ _
  ·rw [if_neg hc,if_neg hc]
   exact ⟨hn,hR,h⟩
noncomputable section
end
open Go.Kf
def chn:Nat→List Int→List Int→List (List Int)
 | 0,_,_=>[]
 | k+1,a,b=>if agst a b=[] then [] else agst a b :: chn k b (agst a b)
def nxR (a b:List (List Int)):List (List Int):=(rsT b a.length a).map fun l=>aZ (-(vl l))
def chR:Nat→List (List Int)→List (List Int)→List (List (List Int))
 | 0,_,_=>[]
 | k+1,a,b=>if rsT b a.length a=[] then [] else nxR a b :: chR k b (nxR a b)
theorem nxR_vls (a b:List (List Int)) (hb:1≤b.length):vls (nxR a b)=agst (vls a) (vls b)∧(rsT b a.length a).length=(agst (vls a) (vls b)).length:=by
 obtain ⟨h1,h2,h3⟩:=rsT_agN (q:=b) hb a.length a.length a (vls a) rfl (by rw [zdo];exact Nat.le_refl _) (fun i _=>rfl)
 have hl:(agst (vls a) (vls b)).length=(rsT b a.length a).length:=by
  unfold agst
  rw [zdo,List.length_take,zfJ,h1];omega
 refine ⟨?_,hl.symm⟩
 apply List.ext_getElem
 ·unfold nxR vls;simp only [List.length_map];unfold vls at hl;exact hl.symm
 ·intro i g1 g2
  have hi:i<(rsT b a.length a).length:=by rw [← hl];exact g2
  have e1:(vls (nxR a b))[i] = -((vls (rsT b a.length a)).getD i 0):=by
   simp only [vls,nxR,List.getElem_map,bZ]
   rw [List.getD_eq_getElem?_getD,List.getElem?_map,List.getElem?_eq_getElem hi];rfl
  rw [e1,h3 i (by omega)]
  have e2:(agst (vls a) (vls b))[i]=(agst (vls a) (vls b)).getD i 0:=by rw [List.getD_eq_getElem?_getD,List.getElem?_eq_getElem g2];rfl
  rw [e2]
  unfold agst
  rw [zdo]
  have e3:∀(n:Nat) (L:List Int),i<n→(L.take n).getD i 0=L.getD i 0:=fun n L h=>by simp [List.getD,List.getElem?_take,h]
  rw [e3 _ _ (by omega),zjV _ _ _ h2,if_pos (by omega)]
theorem chR_vls:∀(k:Nat) (a b:List (List Int)),1≤b.length→(chR k a b).map vls=chn k (vls a) (vls b)
 | 0,_,_,_=>rfl
 | k + 1,a,b,hb=>by
  obtain ⟨h1,h2⟩:=nxR_vls a b hb
  unfold chR chn
  by_cases h:rsT b a.length a=[]
  ·rw [if_pos h,if_pos (List.length_eq_zero_iff.1 (by rw [← h2,h];rfl))];rfl
  ·have hne:agst (vls a) (vls b)≠[]:=fun e=>h (List.length_eq_zero_iff.1 (by rw [h2,e];rfl))
   rw [if_neg h,if_neg hne,List.map_cons,h1,chR_vls k b (nxR a b) (by unfold nxR;rw [List.length_map];exact List.length_pos_iff.2 h),h1]
def cLWW (p:List Int→Int→Int→Prop) [∀l a b,Tst (p l a b)] (r:List Int→Int→Int→AV) (args:List AV):M AV:=match args with
 | [x,y,z]=>do
  let l ← asK (.sl .whole) x
  let a ← asW y
  let b ← asW z
  tellD (p l a b) (Tst.b (p l a b))
  gives (r l a b)
 | _=>fail 302
abbrev fieldK:EK:=.pr (.sl (.int .i64)) (.pr (.int .i64) (.pr (.int .i64) (.int .i64)))
def pPo (f:fieldK.ty):Prop:=zcx f.1
instance tPo {f:fieldK.ty}:Tst (pPo f):=⟨false,fun h=>by cases h⟩
noncomputable def ctrP1:Ctr:=(146,cLWW zcw (fun l a b=>lI (zaf l a b).sign)) :: (101,cD1 fieldK pPo (fun f=>.lst .whole f.1)) :: (180,cD1 (.sl .whole) zcx (fun p=>.lst .whole (der p))) :: ctrH7
abbrev kdP:List (TypeId × EK):=[(97,.whole),(121,.sl .whole)]
theorem zsG {P:Program} {f:FuncId} {p:List Int→Int→Int→Prop} [∀l a b,Tst (p l a b)] {r:List Int→Int→Int→AV} (h:∀l a b,p l a b→FC P f [.lst .whole l,W a,W b] (r l a b)):jZ P f (cLWW p r):=by
 intro args _
 unfold cLWW
 split
 ·exact Spec.bind (asK_spec.mono fun l hl=>Spec.bind (asW_spec.mono fun a ha=>Spec.bind (asW_spec.mono fun b hb=>Spec.bind (Spec.tellD Tst.ok fun hp=>Spec.gives ((h l a b hp).le (.cons hl (.cons ha (.cons hb .nil))) (Le.refl _))))))
 ·exact Spec.fail
theorem zk0:∀p∈ctrP1,jZ tP p.1 p.2:=CAll.cons (zsG zjg)<|CAll.cons (zer fun f h=>zhB f.1 f.2.1 f.2.2.1 f.2.2.2 h)<|CAll.cons (zer zoY) zg3
theorem okP1:(eZ tP ctrP1 bw [] kdP).OK:=vZ zaC mixed zk0 zaA
noncomputable section
abbrev zpR (s:St) (r:Ex × St):Prop:=Loops 0 tP (kZ tP 182 0) s r
abbrev zcA (a b:Int) (c:List (List Int)) (d e f g:Int):St:=⟨sp 33 [(0,aI a),(2,.pd [aI b] 0),(5,aI e),(6,aI f),(10,.lst (EK.sl EK.whole) c),(11,aI d),(12,aI g)],[],[]⟩
abbrev zj5 (a b:Int) (c:List (List Int)) (d e f g:Int):St:=⟨sp 33 [(0,aI a),(2,.pd [aI b] 0),(5,aI e),(6,aI f),(10,.lst (EK.sl EK.whole) c),(11,aI d),(12,aI g)],[],[]⟩
theorem rc_L0_0_0 (a b:Int) (d:List (List Int)) (f g j l:Int) (h1:l<f) (h2:0≤l) (h3:l<(d.length:Int)) (h4:cZ a) (h5:cZ b) (h6:zcw (d.getD l.toNat []) a b) (h7:r64 ((zaf (d.getD l.toNat []) a b).sign*j)) (h8:(zaf (d.getD l.toNat []) a b).sign*j<0) (h9:r64 (g+1)) (h10:(zaf (d.getD l.toNat []) a b).sign≠0) (h11:r64 (l+1)):LG zpR (zcA a b d f g j l) (zcA a b d f (g+1) (zaf (d.getD l.toNat []) a b).sign (l+1)):=Loops.go (LS.at okP1 60 [] [0,2,5,6,10,11,12] [] [1,1,1] (.t h1<|.t h2<|.t h3<|.c h4<|.c h5<|.c h6<|.i h7<|.t h8<|.i h9<|.c (bne_iff_ne.2 h10)<|.i h11<|.e) [1,2,3,4,5,0,0,6,7,8,9,10,11])
theorem rc_L0_0_2 (a b:Int) (d:List (List Int)) (g j l m:Int) (h1:m<g) (h2:0≤m) (h3:m<(d.length:Int)) (h4:cZ a) (h5:cZ b) (h6:zcw (d.getD m.toNat []) a b) (h7:r64 ((zaf (d.getD m.toNat []) a b).sign*l)) (h8:¬((zaf (d.getD m.toNat []) a b).sign*l<0)) (h9:(zaf (d.getD m.toNat []) a b).sign≠0) (h10:r64 (m+1)):LG zpR (zcA a b d g j l m) (zcA a b d g j (zaf (d.getD m.toNat []) a b).sign (m+1)):=Loops.go (LS.at okP1 60 [] [0,2,5,6,10,11,12] [] [1,0,1] (.t h1<|.t h2<|.t h3<|.c h4<|.c h5<|.c h6<|.i h7<|.f h8<|.c (bne_iff_ne.2 h9)<|.i h10<|.e) [1,2,3,4,5,0,0,6,7,8,9,10])
theorem rc_L0_0_3 (a b:Int) (d:List (List Int)) (g j l m:Int) (h1:m<g) (h2:0≤m) (h3:m<(d.length:Int)) (h4:cZ a) (h5:cZ b) (h6:zcw (d.getD m.toNat []) a b) (h7:r64 ((zaf (d.getD m.toNat []) a b).sign*l)) (h8:¬((zaf (d.getD m.toNat []) a b).sign*l<0)) (h9:(zaf (d.getD m.toNat []) a b).sign=0) (h10:r64 (m+1)):LG zpR (zcA a b d g j l m) (zcA a b d g j l (m+1)):=Loops.go (LS.at okP1 60 [] [0,2,5,6,10,11,12] [] [1,0,0] (.t h1<|.t h2<|.t h3<|.c h4<|.c h5<|.c h6<|.i h7<|.f h8<|.c (bne_eq_false_iff_eq.2 h9)<|.i h10<|.e) [1,2,3,4,5,0,0,6,7,8,9,10])
theorem rc_L0_0_4 (a b:Int) (c:List (List Int)) (d g i j:Int) (h1:¬(j<d)):zpR (zcA a b c d g i j) (Ex.exit 0,(zj5 a b c d g i j)):=LF (LS.at okP1 60 [] [0,2,5,6,10,11,12] [] [0] (.f h1<|.e) [1])
theorem rc_0 (a:Int) (L:List (List Int)) (d b c f:Int) (hL1:zpR (zcA a d L ((L.length:Int)) (0) (0) (0)) (Ex.exit 0,(zj5 a d L ((L.length:Int)) b c f))):FC tP 182 [lI a,.pd [.lst (.sl .whole) L] 0,.pd [lI d] 0] (aI b):=dZ okP1 60 [] (.v [0,2,5,6,10,11,12] [] hL1<|.e) [0,1]
end
open Go.Kf
def svZ (L:List (List Int)) (a b:Int):List Int:=L.map fun p=>zaf p a b
theorem sgn3 (z:Int):z.sign = -1∨z.sign=0∨z.sign=1:=by
 rcases Int.lt_trichotomy z 0 with h | h | h
 ·exact .inl (Int.sign_eq_neg_one_of_neg h)
 ·exact .inr (.inl (by rw [h];rfl))
 ·exact .inr (.inr (Int.sign_eq_one_of_pos h))
theorem zj6 {L:List (List Int)} {a d:Int} (ha:a.natAbs≤1000000) (hd:d.natAbs≤1000000) (hL:∀p∈L,zcw p a d) (hl:L.length≤1000):∀(m i:Nat) (n l:Int),i+m=L.length→0≤n→n≤i→(l = -1∨l=0∨l=1) →
 ∃x y z,zpR (zcA a d L L.length n l i) (Ex.exit 0,zj5 a d L L.length x y z)∧x=(zbi ((svZ L a d).drop i) n l).1
 | 0,i,n,l,hi,h0,h1,_=>by
  obtain rfl:i=L.length:=by omega
  refine ⟨n,l,L.length,rc_L0_0_4 a d L L.length n l _ (by omega),?_⟩
  rw [List.drop_of_length_le (by simp [svZ])];rfl
 | m + 1, i,n,l,hi,h0,h1,h3=>by
  have hlt:i<L.length:=by omega
  have hg:L.getD i []=L[i]:=by simp [List.getD,hlt]
  have hp:zcw (L.getD i []) a d:=by rw [hg];exact hL _ (List.getElem_mem hlt)
  have hx:(svZ L a d).drop i=zaf (L.getD i []) a d :: (svZ L a d).drop (i+1):=by
   rw [List.drop_eq_getElem_cons (by simpa [svZ] using hlt),hg];simp [svZ]
  have f1:cZ a:=by unfold cZ;omega
  have f2:cZ d:=by unfold cZ;omega
  rw [hx]
  unfold zbi
  generalize hv:zaf (L.getD i []) a d=v at *
  have hs:=sgn3 v
  have ev:zaf (L.getD (Int.toNat (i:Int)) []) a d=v:=hv
  by_cases hz:v.sign=0
  ·rw [if_pos hz]
   obtain ⟨x,y,z,ih,e⟩:=zj6 ha hd hL hl m (i+1) n l (by omega) h0 (by omega) h3
   refine ⟨x,y,z,?_,e⟩
   exact rc_L0_0_3 a d L L.length n l i (by omega) (by omega) (by omega) f1 f2 hp (by rw [ev,hz];omega) (by rw [ev,hz];omega) (by rw [ev];exact hz) (by omega) ih
  ·rw [if_neg hz]
   have hr:-9223372036854775808≤v.sign*l∧v.sign*l≤9223372036854775807:=by rcases hs with e | e | e<;>rcases h3 with f | f | f<;>rw [e,f]<;>decide
   by_cases hc:l≠0∧v.sign≠l
   ·rw [if_pos hc]
    have hneg:v.sign*l<0:=by
     obtain ⟨c1,c2⟩:=hc
     rcases hs with e | e | e<;>rcases h3 with f | f | f<;>first | exact absurd e hz | exact absurd f c1 | exact absurd (e.trans f.symm) c2 | (rw [e,f];decide)
    obtain ⟨x,y,z,ih,e⟩:=zj6 ha hd hL hl m (i+1) (n+1) v.sign (by omega) (by omega) (by omega) hs
    refine ⟨x,y,z,?_,e⟩
    refine rc_L0_0_0 a d L L.length n l i (by omega) (by omega) (by omega) f1 f2 hp (by rw [ev];exact hr) (by rw [ev];exact hneg) (by omega) (by rw [ev];exact hz) (by omega) ?_
    rw [ev];exact ih
   ·rw [if_neg hc]
    have hneg:¬v.sign*l<0:=by
     rcases hs with e | e | e<;>rcases h3 with f | f | f<;>first | (rw [e,f];decide) | (exfalso;exact hc ⟨by rw [f];decide,by rw [e,f];decide⟩)
    obtain ⟨x,y,z,ih,e⟩:=zj6 ha hd hL hl m (i+1) n v.sign (by omega) h0 (by omega) hs
    refine ⟨x,y,z,?_,e⟩
    refine rc_L0_0_2 a d L L.length n l i (by omega) (by omega) (by omega) f1 f2 hp (by rw [ev];exact hr) (by rw [ev];exact hneg) (by rw [ev];exact hz) (by omega) ?_
    rw [ev];exact ih
def pRc (L:List (List Int)) (a d:Int):Prop:=a.natAbs≤1000000∧d.natAbs≤1000000∧(∀p∈L,zcw p a d)∧L.length≤1000
theorem roots1_fc (L:List (List Int)) (a d:Int) (h:pRc L a d):FC tP 182 [lI a,.pd [.lst (.sl .whole) L] 0,.pd [lI d] 0] (lI (zbi (svZ L a d) 0 0).1):=by
 obtain ⟨x,y,z,k,e⟩:=zj6 h.1 h.2.1 h.2.2.1 h.2.2.2 L.length 0 0 0 (by omega) (by omega) (by omega) (.inr (.inl rfl))
 have:=rc_0 a L d x y z k
 rw [e] at this
 exact this
def cRcl (args:List AV):M AV:=match args with
 | [.lit (.int .i64 a),.pd [x] 0,.pd [.lit (.int .i64 d)] 0]=>do
  let L ← asK (.sl (.sl .whole)) x
  tell (pRc L a d)
  M.pure (lI (zbi (svZ L a d) 0 0).1)
 | _=>fail 303
noncomputable def ctrP2:Ctr:=(182,cRcl) :: ctrP1
theorem cRcl_ok:jZ tP 182 cRcl:=by
 intro args _
 unfold cRcl
 split
 ·exact Spec.bind (asK_spec.mono fun L hL=>Spec.bind (Spec.tell fun h=>Spec.pure' ((roots1_fc L _ _ h).le (.cons (Le.refl _) (.cons (Le.pd (.cons hL .nil)) (LeL.refl _))) (Le.refl _))))
 ·exact Spec.fail
theorem zk1:∀p∈ctrP2,jZ tP p.1 p.2:=CAll.cons cRcl_ok zk0
theorem okP2:(eZ tP ctrP2 bw [] kdP).OK:=vZ zaC mixed zk1 zaA
noncomputable section
abbrev zm4 (s:St) (r:Ex × St):Prop:=Loops 3 tP (kZ tP 152 0) s r
abbrev zki (a b c:Int) (d:List (List Int)):St:=⟨sp 44 [(1,aI a),(2,aI b),(7,.ref 0 0),(9,.ref 2 0)],[.flat [aI c] true,.lst (EK.sl EK.whole) d true,.flat [.own 1 0 2 1] true],[2,1]⟩
abbrev zhU (a b c:Int) (d:List (List Int)) (e:Nat) (f:List (List Int)):St:=⟨sp 44 [(1,aI a),(2,aI b),(7,.ref 0 0),(9,.ref 2 0)],[.flat [aI c] true,.dead,.flat [.own 3 0 e 1] true,.lst (EK.sl EK.whole) f true],[2,1]⟩
abbrev zoh (a b c:Int) (d:List (List Int)):St:=⟨sp 44 [(1,aI a),(2,aI b),(7,.ref 0 0),(9,.ref 2 0)],[.flat [aI c] true,.lst (EK.sl EK.whole) d true,.flat [.own 1 0 2 1] true],[2,1]⟩
abbrev zgH (a b c:Int) (d:List (List Int)) (e:Nat) (f:List (List Int)):St:=⟨sp 44 [(1,aI a),(2,aI b),(7,.ref 0 0),(9,.ref 2 0)],[.flat [aI c] true,.dead,.flat [.own 3 0 e 1] true,.lst (EK.sl EK.whole) f true],[2,1]⟩
theorem ro_L0_0_0 (a b d:Int) (f:List (List Int)) (h1:0<f.length) (h2:1<f.length) (h3:pAg (f.getD 0 []) (f.getD 1 [])) (h4:(↑((Kf.agst (f.getD 0 []) (f.getD 1 [])).length):Int)=0):zm4 (zki a b d f) (Ex.exit 0,(zoh a b d f)):=LF (LS.at okP2 60 [] [1,2,7,9] [2,1] [1] (.t h1<|.t h2<|.c h3<|.c (beq_iff_eq.2 h4)<|.e) [0,0,0,1,0,0,0,2,3,4])
theorem ro_L0_0_1 (a b d:Int) (f:List (List Int)) (h1:0<f.length) (h2:1<f.length) (h3:pAg (f.getD 0 []) (f.getD 1 [])) (h4:(↑((Kf.agst (f.getD 0 []) (f.getD 1 [])).length):Int)≠0) (h5:1≤List.length [Kf.agst (f.getD 0 []) (f.getD 1 [])]) (h6:(2+(List.take 1 [Kf.agst (f.getD 0 []) (f.getD 1 [])]).length)*24≤140737488355328) (h7:2+(List.take 1 [Kf.agst (f.getD 0 []) (f.getD 1 [])]).length≤4611686018427387904) (h8:2≤f.length):LG zm4 (zki a b d f) (zhU a b d f (3) (f.take 2++List.take 1 [Kf.agst (f.getD 0 []) (f.getD 1 [])])):=Loops.go (LS.at okP2 60 [4] [1,2,7,9] [2,1] [0] (.t h1<|.t h2<|.c h3<|.c (beq_false_of_ne h4)<|.c h5<|.t h6<|.t h7<|.t h8<|.e) [0,0,0,1,0,0,0,2,3,4,5,6,7,8])
theorem ro_L0_1_0 (a b d:Int) (f:List (List Int)) (g:Nat) (j:List (List Int)) (h1:r64 ((g:Int)-2)) (h2:0≤(g:Int)-2) (h3:(g:Int)-2<(g:Int)) (h4:((g:Int)-2).toNat<j.length) (h5:r64 ((g:Int)-1)) (h6:0≤(g:Int)-1) (h7:(g:Int)-1<(g:Int)) (h8:((g:Int)-1).toNat<j.length) (h9:pAg (j.getD ((g:Int)-2).toNat []) (j.getD ((g:Int)-1).toNat [])) (h10:(↑((Kf.agst (j.getD ((g:Int)-2).toNat []) (j.getD ((g:Int)-1).toNat [])).length):Int)=0):zm4 (zhU a b d f g j) (Ex.exit 0,(zgH a b d f g j)):=LF (LS.at okP2 60 [3] [1,2,7,9] [2,1] [1] (.i h1<|.t h2<|.t h3<|.t h4<|.i h5<|.t h6<|.t h7<|.t h8<|.c h9<|.c (beq_iff_eq.2 h10)<|.e) [1,2,3,4,5,6,7,8,9,10])
theorem ro_L0_1_1 (a b d:Int) (f:List (List Int)) (g:Nat) (j:List (List Int)) (h1:r64 ((g:Int)-2)) (h2:0≤(g:Int)-2) (h3:(g:Int)-2<(g:Int)) (h4:((g:Int)-2).toNat<j.length) (h5:r64 ((g:Int)-1)) (h6:0≤(g:Int)-1) (h7:(g:Int)-1<(g:Int)) (h8:((g:Int)-1).toNat<j.length) (h9:pAg (j.getD ((g:Int)-2).toNat []) (j.getD ((g:Int)-1).toNat [])) (h10:(↑((Kf.agst (j.getD ((g:Int)-2).toNat []) (j.getD ((g:Int)-1).toNat [])).length):Int)≠0) (h11:1≤List.length [Kf.agst (j.getD ((g:Int)-2).toNat []) (j.getD ((g:Int)-1).toNat [])]) (h12:(g+(List.take 1 [Kf.agst (j.getD ((g:Int)-2).toNat []) (j.getD ((g:Int)-1).toNat [])]).length)*24≤140737488355328) (h13:g+(List.take 1 [Kf.agst (j.getD ((g:Int)-2).toNat []) (j.getD ((g:Int)-1).toNat [])]).length≤4611686018427387904) (h14:g≤j.length):LG zm4 (zhU a b d f g j) (zhU a b d f (g+(List.take 1 [Kf.agst (j.getD ((g:Int)-2).toNat []) (j.getD ((g:Int)-1).toNat [])]).length) (j.take g++List.take 1 [Kf.agst (j.getD ((g:Int)-2).toNat []) (j.getD ((g:Int)-1).toNat [])])):=Loops.go (LS.at okP2 60 [5] [1,2,7,9] [2,1] [0] (.i h1<|.t h2<|.t h3<|.t h4<|.i h5<|.t h6<|.t h7<|.t h8<|.c h9<|.c (beq_false_of_ne h10)<|.c h11<|.t h12<|.t h13<|.t h14<|.e) [1,2,3,4,5,6,7,8,9,10,11,12,13,14])
theorem ro_0 (p:List Int) (a b d:Int) (h1:zcx p) (hL1:zm4 (zki a b d ([p,der p])) (Ex.exit 0,(zoh a b d ([p,der p])))) (h3:2≤List.length [p,der p]) (h4:pRc (List.take 2 [p,der p]) a d) (h5:pRc (List.take 2 [p,der p]) b d) (h6:r64 ((zbi (svZ (List.take 2 [p,der p]) a d) 0 0).fst-(zbi (svZ (List.take 2 [p,der p]) b d) 0 0).fst)):FC tP 152 [.lst .whole p,lI a,lI b,lI d] (aI ((zbi (svZ (List.take 2 [p,der p]) a d) 0 0).fst-(zbi (svZ (List.take 2 [p,der p]) b d) 0 0).fst)):=dZ okP2 60 [] (.c h1<|.v [1,2,7,9] [2,1] hL1<|.c h3<|.c h4<|.c h5<|.i h6<|.e) [1,0,2,3,4,3,5,6]
theorem ro_1 (p:List Int) (a b d:Int) (f:Nat) (g:List (List Int)) (h1:zcx p) (hL1:zm4 (zki a b d ([p,der p])) (Ex.exit 0,(zgH a b d ([p,der p]) f g))) (h3:f≤g.length) (h4:pRc (g.take f) a d) (h5:pRc (g.take f) b d) (h6:r64 ((zbi (svZ (g.take f) a d) 0 0).fst-(zbi (svZ (g.take f) b d) 0 0).fst)):FC tP 152 [.lst .whole p,lI a,lI b,lI d] (aI ((zbi (svZ (g.take f) a d) 0 0).fst-(zbi (svZ (g.take f) b d) 0 0).fst)):=dZ okP2 60 [] (.c h1<|.v [1,2,7,9] [2,1] hL1<|.c h3<|.c h4<|.c h5<|.i h6<|.e) [1,0,2,3,4,3,5,6]
end
open Go.Kf
def bz:Nat→Nat
 | 0=>1
 | 1=>1
 | 2=>16
 | 3=>133
 | _=>817
structure PInv (i:Nat) (a b:List Int):Prop where
 i3:i≤3
 la:a.length≤5-i
 lb:b.length≤4-i
 b1:1≤b.length
 a0:a≠[]
 sa:∀j,Sz (bz i) (a.getD j 0)
 sb:∀j,Sz (bz (i+1)) (b.getD j 0)
theorem zoK {p q:List Int} {a d:Nat} (hp:∀j,Sz a (p.getD j 0)) (hq:∀j,Sz d (q.getD j 0)) (h1:a+p.length*(2*d+1)≤300000) (h2:d≤50000) (hpl:p.length≤1000) (hq0:1≤q.length) :
    (agst p q).length<q.length∧∀j,Sz (a+p.length*(2*d+1)) ((agst p q).getD j 0):=by
  obtain ⟨_,i2,i3,i4,i5,i6⟩:=ag_l2 hq0 hq p.length p.length p a (Nat.le_refl _) (Nat.le_refl _) hpl hp h1 h2
  refine ⟨?_,fun j=>?_⟩
  · unfold agst
    rw [List.length_take,zfJ]
    by_cases h:q.length≤p.length
    · have:=i5 h;omega
    · omega
  · unfold agst
    by_cases h:j<(agN q p.length p.length p).1
    · have e3:∀(n:Nat) (L:List Int),j<n→(L.take n).getD j 0=L.getD j 0:=fun n L h=>by simp [List.getD,List.getElem?_take,h]
      rw [e3 _ _ h,zjV _ _ _ i2,if_pos h]
      exact(i6 j).neg
    · have:(List.take (agN q p.length p.length p).1 (ngR (agN q p.length p.length p).2 (agN q p.length p.length p).1)).getD j 0=0:=by
        simp [List.getD,List.getElem?_take,h]
      rw [this];exact Sz.zero
theorem PInv.ag {i:Nat} {a b:List Int} (h:PInv i a b):pAg a b:=by
 obtain ⟨i3,la,lb,b1,a0,sa,sb⟩:=h
 have hi:i=0∨i=1∨i=2∨i=3:=by omega
 refine ⟨⟨bz i,bz (i+1),sa,sb,?_,?_⟩,a0,by omega,b1,by omega⟩
 ·have:a.length*(2*bz (i+1)+1)≤(5-i)*(2*bz (i+1)+1):=Nat.mul_le_mul_right _ la
  refine Nat.le_trans (Nat.add_le_add_left this _) ?_
  rcases hi with rfl | rfl | rfl | rfl<;>decide
 ·rcases hi with rfl | rfl | rfl | rfl<;>decide
theorem PInv.step {i:Nat} {a b:List Int} (h:PInv i a b) (hne:agst a b≠[]):i≤2∧PInv (i+1) b (agst a b):=by
 obtain ⟨i3,la,lb,b1,a0,sa,sb⟩:=h
 have hi:i=0∨i=1∨i=2∨i=3:=by omega
 have hm:bz i+a.length*(2*bz (i+1)+1)≤bz i+(5-i)*(2*bz (i+1)+1):=Nat.add_le_add_left (Nat.mul_le_mul_right _ la) _
 obtain ⟨f1,f2⟩:=zoK sa sb (Nat.le_trans hm (by rcases hi with rfl | rfl | rfl | rfl<;>decide)) (by rcases hi with rfl | rfl | rfl | rfl<;>decide) (by omega) b1
 have hp:1≤(agst a b).length:=List.length_pos_iff.2 hne
 have i2:i≤2:=by omega
 refine ⟨i2,⟨by omega,by omega,by omega,hp,fun e=>by rw [e] at b1;simp at b1,sb,fun j=>(f2 j).mono (Nat.le_trans hm ?_)⟩⟩
 have hi:i=0∨i=1∨i=2:=by omega
 rcases hi with rfl | rfl | rfl<;>decide
theorem chn_ok:∀(k i:Nat) (a b:List Int),PInv i a b→(chn k a b).length≤k∧∀q∈chn k a b,q.length≤5∧∀j,Sz 817 (q.getD j 0)
 | 0,_,_,_,_=>⟨Nat.le_refl _,fun _ h=>by cases h⟩
 | k + 1,i,a,b,h=>by
  unfold chn
  by_cases hne:agst a b=[]
  ·rw [if_pos hne];exact ⟨Nat.zero_le _,fun _ h=>by cases h⟩
  ·rw [if_neg hne]
   obtain ⟨i2,hs⟩:=h.step hne
   obtain ⟨c1,c2⟩:=chn_ok k (i+1) b (agst a b) hs
   refine ⟨by simp only [List.length_cons];omega,fun q hq=>?_⟩
   rcases List.mem_cons.1 hq with rfl | hq
   ·refine ⟨by have:=hs.lb;omega,fun j=>(hs.sb j).mono ?_⟩
    have hi:i=0∨i=1∨i=2:=by omega
    rcases hi with rfl | rfl | rfl<;>decide
   ·exact c2 q hq
theorem zo3 {L:List (List Int)} {i:Nat} (h:L.length=i+2) (x:List Int):(L++[x]).getD (i+1) []=L.getD (i+1) []∧(L++[x]).getD (i+2) []=x:=by
 constructor
 ·simp only [List.getD_eq_getElem?_getD];rw [List.getElem?_append_left (by omega)]
 ·simp only [List.getD_eq_getElem?_getD];rw [List.getElem?_append_right (by omega)];simp [h]
theorem ro_loop {t1 t2 d:Int} {lr1:List (List Int)}:∀(k i:Nat) (L:List (List Int)) (a b:List Int),i+k=4→L.length=i+2→L.getD i []=a→L.getD (i+1) []=b→PInv i a b →
 zm4 (zhU t1 t2 d lr1 L.length L) (Ex.exit 0,zgH t1 t2 d lr1 (L++chn k a b).length (L++chn k a b))
 | 0,i,L,a,b,hk,hL,ha,hb,h=>by have:=h.i3;omega
 | k + 1,i,L,a,b,hk,hL,ha,hb,h=>by
  have e1:Int.toNat ((L.length:Int)-2)=i:=by omega
  have e2:Int.toNat ((L.length:Int)-1)=i+1:=by omega
  have g1:L.getD (Int.toNat ((L.length:Int)-2)) []=a:=by rw [e1];exact ha
  have g2:L.getD (Int.toNat ((L.length:Int)-1)) []=b:=by rw [e2];exact hb
  have hag:=h.ag
  unfold chn
  by_cases hne:agst a b=[]
  ·rw [if_pos hne,List.append_nil]
   exact ro_L0_1_0 t1 t2 d lr1 L.length L (by omega) (by omega) (by omega) (by omega) (by omega) (by omega) (by omega) (by omega) (by rw [g1,g2];exact hag) (by rw [g1,g2,hne];rfl)
  ·rw [if_neg hne]
   obtain ⟨i2,hs⟩:=h.step hne
   obtain ⟨l1,l2⟩:=zo3 hL (agst a b)
   have ih:=ro_loop (t1:=t1) (t2:=t2) (d:=d) (lr1:=lr1) k (i+1) (L++[agst a b]) b (agst a b) (by omega) (by rw [List.length_append];simp;omega) (by rw [l1];exact hb) l2 hs
   have go:=@ro_L0_1_1 t1 t2 d lr1 L.length L (by omega) (by omega) (by omega) (by omega) (by omega) (by omega) (by omega) (by omega) (by rw [g1,g2];exact hag)
    (by rw [g1,g2];have:=List.length_pos_iff.2 hne;omega) (by simp) (by simp;omega) (by simp;omega) (Nat.le_refl _) (Ex.exit 0,zgH t1 t2 d lr1 (L++agst a b :: chn k b (agst a b)).length (L++agst a b :: chn k b (agst a b)))
   rw [g1,g2,List.take_length] at go
   refine go ?_
   have e3:L.length+(List.take 1 [agst a b]).length=(L++[agst a b]).length:=by rw [List.length_append];rfl
   have e4:L++agst a b :: chn k b (agst a b)=(L++[agst a b])++chn k b (agst a b):=by rw [List.append_assoc];rfl
   rw [e3,e4]
   exact ih
def chZ (p:List Int):List (List Int):=p :: der p :: chn 4 p (der p)
def zcP (p:List Int) (a b d:Int):Int:=(zbi (svZ (chZ p) a d) 0 0).1-(zbi (svZ (chZ p) b d) 0 0).1
theorem zgO {l:List Int} {k:Nat} (h:∀c∈l,Sz k c) (j:Nat):Sz k (l.getD j 0):=by
 rw [List.getD_eq_getElem?_getD]
 by_cases hi:j<l.length
 ·rw [List.getElem?_eq_getElem hi];exact h _ (List.getElem_mem hi)
 ·rw [List.getElem?_eq_none (by omega)];exact Sz.zero
theorem szL_of {k:Nat}:∀ {l:List Int},(∀j,Sz k (l.getD j 0))→SzL k l
 | [],_=>trivial
 | z :: l,h=>⟨h 0,szL_of fun j=>h (j+1)⟩
theorem pinv0 {p:List Int} (h:zcx p):PInv 0 p (der p):=by
 obtain ⟨h2,h5,ha⟩:=h
 refine ⟨by omega,by omega,by rw [zd7];omega,by rw [zd7];omega,fun e=>by rw [e] at h2;simp at h2,zgO fun c hc=>?_,zgO fun c hc=>?_⟩
 ·have:=ha c hc;exact Sz.lit (by omega) (by decide)
 ·unfold der at hc
  obtain ⟨i,hi,rfl⟩:=List.mem_map.1 hc
  have hi:=List.mem_range.1 hi
  have g:=zeb ha (i+1)
  have m:=zlp (a:=p.getD (i+1) 0) (b:=((i+1:Nat):Int)) (A:=1000) (B:=5) g (by omega)
  exact Sz.lit (by omega) (by decide)
theorem zg0:∀(l:List Int) (n x:Int),n≤(zbi l n x).1∧(zbi l n x).1≤n+l.length
 | [],n,x=>by simp [zbi]
 | v :: l,n,x=>by
  unfold zbi
  have a:=zg0 l n x
  have b:=zg0 l (n+1) v.sign
  have c:=zg0 l n v.sign
  simp only [List.length_cons]
  split
  ·omega
  ·split
   ·omega
   ·omega
theorem chZ_ok {p:List Int} (h:zcx p):(chZ p).length≤6∧∀q∈chZ p,q.length≤5∧∀j,Sz 817 (q.getD j 0):=by
 have hi:=pinv0 h
 obtain ⟨c1,c2⟩:=chn_ok 4 0 p (der p) hi
 refine ⟨by unfold chZ;simp only [List.length_cons];omega,fun q hq=>?_⟩
 unfold chZ at hq
 rcases List.mem_cons.1 hq with rfl | hq
 ·exact ⟨hi.la,fun j=>(hi.sa j).mono (by decide)⟩
 rcases List.mem_cons.1 hq with rfl | hq
 ·exact ⟨by have:=hi.lb;omega,fun j=>(hi.sb j).mono (by decide)⟩
 ·exact c2 q hq
theorem chZ_pRc {p:List Int} (h:zcx p) {a d:Int} (ha:a.natAbs≤1000000) (hd:d.natAbs≤1000000):pRc (chZ p) a d:=by
 obtain ⟨c1,c2⟩:=chZ_ok h
 refine ⟨ha,hd,fun q hq=>?_,by omega⟩
 obtain ⟨d1,d2⟩:=c2 q hq
 exact ⟨Nat.ble_eq_true_of_le d1,szL_of fun j=>(d2 j).mono (by decide),Sz.lit (by omega) (by decide),Sz.lit (by omega) (by decide)⟩
theorem svZ_len (L:List (List Int)) (a b:Int):(svZ L a b).length=L.length:=by simp [svZ]
theorem zlN {p:List Int} (h:zcx p) (a b d:Int):(zcP p a b d).natAbs≤6:=by
 have c:=(chZ_ok h).1
 have x:=zg0 (svZ (chZ p) a d) 0 0
 have y:=zg0 (svZ (chZ p) b d) 0 0
 rw [svZ_len] at x y
 unfold zcP
 omega
def zgc (p:List Int) (a b d:Int):Prop:=zcx p∧a.natAbs≤1000000∧b.natAbs≤1000000∧d.natAbs≤1000000
theorem roots_fc (p:List Int) (a b d:Int) (h:zgc p a b d):FC tP 152 [.lst .whole p,lI a,lI b,lI d] (lI (zcP p a b d)):=by
 obtain ⟨hp,ha,hb,hd⟩:=h
 have hi:=pinv0 hp
 have hle:=zlN hp a b d
 have ra:=chZ_pRc hp ha hd
 have rb:=chZ_pRc hp hb hd
 by_cases hne:agst p (der p)=[]
 ·have e:chZ p=[p,der p]:=by unfold chZ chn;rw [if_pos hne]
  unfold zcP at hle ⊢
  rw [e] at hle ra rb ⊢
  exact ro_0 p a b d hp (ro_L0_0_0 a b d [p,der p] (by simp) (by simp) hi.ag (by show((agst p (der p)).length:Int)=0;rw [hne];rfl)) (by simp) ra rb (by show -9223372036854775808≤(zbi (svZ [p,der p] a d) 0 0).1-(zbi (svZ [p,der p] b d) 0 0).1∧(zbi (svZ [p,der p] a d) 0 0).1-(zbi (svZ [p,der p] b d) 0 0).1≤9223372036854775807;omega)
 ·obtain ⟨i2,hs⟩:=hi.step hne
  have e:chZ p=[p,der p,agst p (der p)]++chn 3 (der p) (agst p (der p)):=by
   unfold chZ
   conv=>lhs;unfold chn
   rw [if_neg hne];rfl
  have L:=ro_loop (t1:=a) (t2:=b) (d:=d) (lr1:=[p,der p]) 3 1 [p,der p,agst p (der p)] (der p) (agst p (der p)) rfl rfl rfl rfl hs
  rw [← e] at L
  have go:=@ro_L0_0_1 a b d [p,der p] (by simp) (by simp) hi.ag (by have:=List.length_pos_iff.2 hne;show((agst p (der p)).length:Int)≠0;omega) (by simp) (by simp) (by simp) (by simp) _ L
  have:=ro_1 p a b d (chZ p).length (chZ p) hp go (Nat.le_refl _) (by rw [List.take_length];exact ra) (by rw [List.take_length];exact rb) (by rw [List.take_length];unfold zcP at hle;omega)
  rw [List.take_length] at this
  exact this
end Go.Proofs.YtagbldogmjhdpaaGreatDoor
end
section
namespace Go.Kf
set_option linter.unusedVariables false
set_option linter.unusedSimpArgs false
open V
abbrev NZ:=List Int × Int
def zb8 (c:List Int) (d:Int):NZ:=([loC c d 0,loC c d 1,loC c d 2,loC c d 3],loD c d)
theorem zsQ {n:Nat} {p:V}:∀c c':List Int,(∀i,c.getD i 0=c'.getD i 0)→ev n p (qL c)=ev n p (qL c')
 | [],c',h=>by
  have:∀x∈qL c',x=0:=by
   intro x hx
   obtain ⟨z,hz,rfl⟩:=List.mem_map.1 hx
   obtain ⟨i,hi,rfl⟩:=List.getElem_of_mem hz
   have:=h i
   simp_all
  rw [zgv _ this];rfl
 | a :: c,[],h=>by
  have:∀x∈qL (a :: c),x=0:=by
   intro x hx
   obtain ⟨z,hz,rfl⟩:=List.mem_map.1 hx
   obtain ⟨i,hi,rfl⟩:=List.getElem_of_mem hz
   have:=h i
   simp only [List.getD_nil,List.getD_eq_getElem?_getD,List.getElem?_eq_getElem hi,Option.getD_some] at this
   rw [this];rfl
  rw [zgv _ this];rfl
 | a :: c,b :: c',h=>by
  have h0:a=b:=h 0
  rw [qL_cons,qL_cons,zmF,zmF,h0,zsQ c c' (fun i=>h (i+1))]
section
variable {q:List Int}
theorem zdn {c c':List Int} {d:Int} (h:∀i,c.getD i 0=c'.getD i 0):val q c d=val q c' d:=by
 unfold val;rw [zsQ c c' h]
theorem zaJ (k:Int):∀(c:List Int) (i:Nat),(smZ k c).getD i 0=k*c.getD i 0
 | [],i=>by simp [smZ]
 | a :: c,0=>rfl
 | a :: c,i+1=>zaJ k c i
theorem zjK {c:List Int} {d:Int} (h4:∀i,4≤i→c.getD i 0=0) (i:Nat):(zb8 c d).1.getD i 0=loC c d i:=by
 match i with
 | 0=>rfl
 | 1=>rfl
 | 2=>rfl
 | 3=>rfl
 | k+4=>
  have:loC c d (k+4)=0:=by unfold loC;simp_all
  rw [this];rfl
structure Nrm (q:List Int) (u:NZ):Prop where
 pos:0<u.2
 sh:zmg q u.1
 low:zb8 u.1 u.2=u
def nv (q:List Int) (u:NZ):V:=val q u.1 u.2
theorem zef (h4:q.length≤4) {c:List Int} {d:Int} (hd:d≠0) (hc:zmg q c):nv q (zb8 c d)=val q c d:=by
 have hz:=zhe (c:=c) hd
 have hp:=zhm (c:=c) hd
 have h0:∀i,4≤i→c.getD i 0=0:=fun i hi=>hc i (by omega)
 have e:=val_scale (q:=q) (c:=(zb8 c d).1) (d:=(zb8 c d).2) (k:=dvs c d) (by show loD c d≠0;omega) hz
 unfold nv
 rw [← e,show dvs c d*(zb8 c d).2=d by rw [Int.mul_comm];exact zbb c d]
 exact zdn fun i=>by rw [zaJ,zjK h0,Int.mul_comm,zba]
theorem zee (h4:q.length≤4) {c:List Int} {d:Int} (hd:d≠0) (hc:zmg q c):Nrm q (zb8 c d):=by
 have h0:∀i,4≤i→c.getD i 0=0:=fun i hi=>hc i (by omega)
 have hp:0<(zb8 c d).2:=zhm hd
 have hs:zmg q (zb8 c d).1:=fun i hi=>by
  rw [zjK h0];unfold loC;rw [hc i hi];exact Int.zero_ediv _
 refine ⟨hp,hs,?_⟩
 have ⟨e1,e2⟩:=lo_val2 (q:=q) (c:=(zb8 c d).1) (d:=(zb8 c d).2) (c':=c) (d':=d) (by omega) hd hs hc (zef h4 hd hc)
 show([loC (zb8 c d).1 (zb8 c d).2 0,loC (zb8 c d).1 (zb8 c d).2 1,loC (zb8 c d).1 (zb8 c d).2 2,loC (zb8 c d).1 (zb8 c d).2 3],loD (zb8 c d).1 (zb8 c d).2)=zb8 c d
 rw [e1,e2,e2,e2,e2];rfl
theorem nv_inj {u v:NZ} (hu:Nrm q u) (hv:Nrm q v) (h:nv q u=nv q v):u=v:=by
 have hp:=hu.pos
 have hr:=hv.pos
 have ⟨e1,e2⟩:=lo_val2 (by omega) (by omega) hu.sh hv.sh h
 rw [← hu.low,← hv.low]
 unfold zb8
 rw [e1,e2,e2,e2,e2]
theorem low_get {c c':List Int} {d:Int} (hd:d≠0) (h:∀i,c.getD i 0=c'.getD i 0):zb8 c d=zb8 c' d:=by
 have ⟨e1,e2⟩:=lo_eq (c:=c) (c':=c') hd hd (fun i=>by rw [h i])
 unfold zb8
 rw [e1,e2,e2,e2,e2]
theorem zdt:∀(x y:List Int) (i:Nat),(zl8 x y).getD i 0=x.getD i 0+y.getD i 0
 | [],y,i=>by simp [zl8]
 | a :: x,[],i=>by simp [zl8]
 | a :: x,b :: y,0=>rfl
 | a :: x,b :: y,i+1=>zdt x y i
def plN (u v:NZ):NZ:=zb8 [u.1.getD 0 0*v.2+v.1.getD 0 0*u.2,u.1.getD 1 0*v.2+v.1.getD 1 0*u.2,u.1.getD 2 0*v.2+v.1.getD 2 0*u.2,u.1.getD 3 0*v.2+v.1.getD 3 0*u.2] (u.2*v.2)
theorem pl_ok (h4:q.length≤4) {u v:NZ} (hu:Nrm q u) (hv:Nrm q v):Nrm q (plN u v)∧nv q (plN u v)=vAdd (nv q u) (nv q v):=by
 have hp:=hu.pos
 have hr:=hv.pos
 have hd:u.2*v.2≠0:=by have:=Int.mul_pos hp hr;omega
 have g:∀i,[u.1.getD 0 0*v.2+v.1.getD 0 0*u.2,u.1.getD 1 0*v.2+v.1.getD 1 0*u.2,u.1.getD 2 0*v.2+v.1.getD 2 0*u.2,u.1.getD 3 0*v.2+v.1.getD 3 0*u.2].getD i 0=(zl8 (smZ v.2 u.1) (smZ u.2 v.1)).getD i 0:=by
  intro i
  rw [zdt,zaJ,zaJ,Int.mul_comm v.2,Int.mul_comm u.2]
  match i with
  | 0=>rfl
  | 1=>rfl
  | 2=>rfl
  | 3=>rfl
  | k+4=>rw [hu.sh (k+4) (by omega),hv.sh (k+4) (by omega),Int.zero_mul,Int.zero_mul];rfl
 have hs:zmg q [u.1.getD 0 0*v.2+v.1.getD 0 0*u.2,u.1.getD 1 0*v.2+v.1.getD 1 0*u.2,u.1.getD 2 0*v.2+v.1.getD 2 0*u.2,u.1.getD 3 0*v.2+v.1.getD 3 0*u.2]:=fun i hi=>by
  rw [g,zdt,zaJ,zaJ,hu.sh i hi,hv.sh i hi,Int.mul_zero,Int.mul_zero];rfl
 refine ⟨zee h4 hd hs,?_⟩
 unfold plN
 rw [zef h4 hd hs,zdn g]
 exact val_add (by omega) (by omega)
def ngN (u:NZ):NZ:=([-u.1.getD 0 0,-u.1.getD 1 0,-u.1.getD 2 0,-u.1.getD 3 0],u.2)
theorem ng_ok (h4:q.length≤4) {u:NZ} (hu:Nrm q u):Nrm q (ngN u)∧nv q (ngN u)=sm (-1) (nv q u):=by
 have hp:=hu.pos
 have g:∀i,(ngN u).1.getD i 0=(smZ (-1) u.1).getD i 0:=by
  intro i
  rw [zaJ]
  match i with
  | 0=>show -u.1.getD 0 0=_;omega
  | 1=>show -u.1.getD 1 0=_;omega
  | 2=>show -u.1.getD 2 0=_;omega
  | 3=>show -u.1.getD 3 0=_;omega
  | k+4=>rw [hu.sh (k+4) (by omega)];rfl
 have hs:zmg q (ngN u).1:=fun i hi=>by rw [g,zaJ,hu.sh i hi];rfl
 have hv:nv q (ngN u)=sm (-1) (nv q u):=by
  unfold nv
  rw [zdn g];exact val_neg
 refine ⟨⟨hp,hs,?_⟩,hv⟩
 have hN:=zee h4 (c:=(ngN u).1) (d:=u.2) (by omega) hs
 have gl:∀(i:Nat),dvs (ngN u).1 u.2=dvs u.1 u.2→u.1.getD i 0 % dvs u.1 u.2=0:=fun i _=>Int.emod_eq_zero_of_dvd ((zea u.1 u.2).2 i)
 have hd1:dvs u.1 u.2=1:=by
  have h1:loD u.1 u.2=u.2:=congrArg Prod.snd hu.low
  have h2:=zbb u.1 u.2
  rw [h1] at h2
  exact Int.eq_of_mul_eq_mul_left (a:=u.2) (by omega) (by rw [h2,Int.mul_one])
 have hd2:dvs (ngN u).1 u.2=1:=by
  have ⟨a,b⟩:=zea (ngN u).1 u.2
  have hz:=zhe (c:=(ngN u).1) (d:=u.2) (by omega)
  have hlp:=zhm (c:=(ngN u).1) (d:=u.2) (by omega)
  have hlm:=zbb (ngN u).1 u.2
  have hk:0<dvs (ngN u).1 u.2:=by
   rcases Int.lt_trichotomy (dvs (ngN u).1 u.2) 0 with h | h | h
   ·have:=Int.mul_neg_of_pos_of_neg hlp h;omega
   ·omega
   ·exact h
  have hpr:=znN (c:=u.1) (d:=u.2) (by omega) (k:=(dvs (ngN u).1 u.2).toNat) (by
   rw [Int.toNat_of_nonneg (by omega),show loD u.1 u.2=u.2 from congrArg Prod.snd hu.low];exact a) (fun i=>by
   rw [Int.toNat_of_nonneg (by omega)]
   have:loC u.1 u.2 i=u.1.getD i 0:=by unfold loC;rw [hd1,Int.ediv_one]
   rw [this]
   have:=b i
   rw [g,zaJ] at this
   simp_all)
  omega
 show([loC (ngN u).1 u.2 0,loC (ngN u).1 u.2 1,loC (ngN u).1 u.2 2,loC (ngN u).1 u.2 3],loD (ngN u).1 u.2)=ngN u
 unfold loC loD
 rw [hd2]
 simp only [Int.ediv_one]
 rfl
end
def pvQ (l:List Rat) (r:Rat):Rat:=match l with
 | []=>0
 | c :: l=>c+r*pvQ l r
def nuM (a b:Int):List Int→Int
 | []=>1
 | c :: l=>c*b ^ (l.length+1)+a*nuM a b l
theorem nuM_mod (a b:Int):∀l:List Int,b∣nuM a b l-a ^ l.length
 | []=>by simp [nuM]
 | c :: l=>by
  obtain ⟨k,hk⟩:=nuM_mod a b l
  refine ⟨c*b ^ l.length+a*k,?_⟩
  simp only [nuM,List.length_cons]
  have:nuM a b l=b*k+a ^ l.length:=by omega
  rw [this,Int.pow_succ,Int.pow_succ]
  grind
theorem num_den (r:Rat):r*((r.den:Int):Rat)=(r.num:Rat):=by
 have hd:((r.den:Int):Rat)≠0:=fun h=>by
  have:=Rat.intCast_inj.1 (show((r.den:Int):Rat)=((0:Int):Rat) from h)
  have:=r.den_nz
  omega
 have h:=Rat.num_divInt_den r
 rw [Rat.divInt_eq_div,Rat.div_def] at h
 conv=>lhs;arg 1;rw [← h]
 rw [Rat.mul_assoc,Rat.inv_mul_cancel _ hd,Rat.mul_one]
theorem nuM_ok {r:Rat}:∀l:List Int,pvQ (qL l++[1]) r*((r.den:Int):Rat) ^ l.length=(nuM r.num r.den l:Int)
 | []=>by simp [qL,pvQ,nuM];grind
 | c :: l=>by
  have ih:=nuM_ok (r:=r) l
  have hr:=num_den r
  show((c:Rat)+r*pvQ (qL l++[1]) r)*((r.den:Int):Rat) ^ (l.length+1)=_
  simp only [nuM]
  rw [Rat.intCast_add,Rat.intCast_mul,Rat.intCast_mul,← ih,← hr,Rat.intCast_pow,Rat.pow_succ]
  generalize ((r.den:Int):Rat)=D
  generalize (c:Rat)=C
  generalize pvQ (qL l++[1]) r=P
  generalize D ^ l.length=E
  grind
theorem zkj {l:List Int} {r:Rat} (h:pvQ (qL l++[1]) r=0):∃z:Int,r=z:=by
 have e:=nuM_ok (r:=r) l
 rw [h,Rat.zero_mul] at e
 have e0:nuM r.num r.den l=0:=(Rat.intCast_inj.1 (show((0:Int):Rat)=_ from e)).symm
 have hd:=nuM_mod r.num r.den l
 rw [e0] at hd
 have hd2:(r.den:Int)∣r.num ^ l.length:=by
  have:=Int.dvd_neg.2 hd
  simpa using this
 have hn:r.den∣r.num.natAbs ^ l.length:=by
  have:=Int.natAbs_dvd_natAbs.2 hd2
  rwa [Int.natAbs_pow,Int.natAbs_natCast] at this
 have h1:r.den=1:=Nat.Coprime.eq_one_of_dvd (Nat.Coprime.pow_left _ r.reduced).symm hn
 refine ⟨r.num,?_⟩
 have h2:=num_den r
 rw [h1] at h2
 rw [← h2]
 show r=r*1
 rw [Rat.mul_one]
def znf:List Rat→List Rat→List Rat
 | [],y=>y
 | a :: x,[]=>a :: x
 | a :: x,b :: y=>(a+b) :: znf x y
def smQ (k:Rat) (x:List Rat):List Rat:=x.map fun a=>k*a
section
variable {n:Nat} {p:V}
theorem zlq (x:V):∀a b:List Rat,zaa n p (znf a b) x=add (zaa n p a x) (zaa n p b x)
 | [],b=>(LZ _).symm
 | a :: l,[]=>(za1 _).symm
 | a :: l,b :: m=>by
  show add (sm (a+b) x) (T n p (zaa n p (znf l m) x))=add (add (sm a x) (T n p (zaa n p l x))) (add (sm b x) (T n p (zaa n p m x)))
  rw [zlq x l m,zkB,zgS,add4]
theorem znQ (k:Rat) (x:V):∀a:List Rat,zaa n p (smQ k a) x=sm k (zaa n p a x)
 | []=>(zb4 _).symm
 | a :: l=>by
  show add (sm (k*a) x) (T n p (zaa n p (smQ k l) x))=sm k (add (sm a x) (T n p (zaa n p l x)))
  rw [znQ k x l,zh5,zb3,T_sm]
def Ann (n:Nat) (p:V) (x:V) (g:List Rat):Prop:=zaa n p g x=zero
variable {x:V}
theorem Ann.add {a b:List Rat} (ha:Ann n p x a) (hb:Ann n p x b):Ann n p x (znf a b):=by
 unfold Ann at *;rw [zlq,ha,hb];exact LZ _
theorem Ann.sm {a:List Rat} (k:Rat) (ha:Ann n p x a):Ann n p x (smQ k a):=by
 unfold Ann at *;rw [znQ,ha];exact zb4 _
theorem Ann.sh {a:List Rat} (ha:Ann n p x a):Ann n p x (0 :: a):=by
 unfold Ann at *
 show V.add (V.sm 0 x) (T n p (zaa n p a x))=zero
 rw [ha,T_zero,zak];exact LZ _
theorem Ann.cut {a:List Rat}:∀ {k:Nat},Ann n p x (a++List.replicate k 0)→Ann n p x a:=by
 intro k h
 unfold Ann at *
 rw [← h]
 have z:∀k,zaa n p (List.replicate k 0) x=zero:=by
  intro k
  induction k with
  | zero=>rfl
  | succ k ih=>show V.add (V.sm 0 x) (T n p (zaa n p (List.replicate k 0) x))=zero;rw [ih,T_zero,zak];exact LZ _
 induction a with
 | nil=>exact(z k).symm
 | cons c a ih=>
  show V.add (V.sm c x) (T n p (zaa n p a x))=V.add (V.sm c x) (T n p (zaa n p (a++List.replicate k 0) x))
  have:zaa n p a x=zaa n p (a++List.replicate k 0) x:=by
   clear ih h
   induction a with
   | nil=>exact(z k).symm
   | cons d a ih=>show V.add (V.sm d x) (T n p (zaa n p a x))=V.add (V.sm d x) (T n p (zaa n p (a++List.replicate k 0) x));rw [ih]
  rw [this]
theorem Ann.c0 {c:Rat} (h:Ann n p x [c]) (hx:x≠zero):c=0:=by
 unfold Ann at h
 have h':V.add (V.sm c x) (T n p zero)=zero:=h
 rw [T_zero,za1] at h'
 apply Classical.byContradiction
 intro hc
 apply hx
 have:=congrArg (V.sm c⁻¹) h'
 rw [zb3,zb4,Rat.inv_mul_cancel _ hc,zf8] at this
 exact this
end
theorem p_w {q:List Int} (h:1≤q.length):ev q.length (pV q) (qL q++[1])=zero:=by
 rw [zsJ,zbA,Tn_top h]
 generalize ev q.length (pV q) (qL q)=X
 funext i
 show X i+1*(-1*X i)=0
 grind
theorem p_ann {q:List Int} (h:1≤q.length) {x:V} (hx:Sup q.length x):Ann q.length (pV q) x (qL q++[1]):=by
 unfold Ann
 rw [zjS hx,p_w h]
 have:=zjT (n:=q.length) (p:=pV q) (crd q.length x) 0 zero
 rw [zak,zak] at this
 exact this
section
variable {n:Nat} {p x:V}
theorem zls {t:Rat} (h:T n p x=sm t x):∀l:List Rat,zaa n p l x=sm (pvQ l t) x
 | []=>(zak x).symm
 | c :: l=>by
  show add (sm c x) (T n p (zaa n p l x))=sm (c+t*pvQ l t) x
  rw [zls h l,T_sm,h,zb3,zgS,Rat.mul_comm t]
theorem sm_ne {k:Rat} (hx:x≠zero) (h:sm k x=zero):k=0:=by
 apply Classical.byContradiction
 intro hc
 apply hx
 have:=congrArg (sm k⁻¹) h
 rw [zb3,zb4,Rat.inv_mul_cancel _ hc,zf8] at this
 exact this
theorem ann1 {P:List Rat} (hx:x≠zero) (hP:Ann n p x P) (hR:∀t,pvQ P t≠0) {a b:Rat} (h:Ann n p x [a,b]):a=0∧b=0:=by
 have hb:b=0:=by
  apply Classical.byContradiction
  intro hb
  have h':add (sm a x) (T n p (add (sm b x) (T n p zero)))=zero:=h
  rw [T_zero,za1,T_sm] at h'
  have e:T n p x=sm (-(a*b⁻¹)) x:=by
   funext i
   have hi:a*x i+b*T n p x i=0:=congrFun h' i
   show T n p x i = -(a*b⁻¹)*x i
   have hbb:b⁻¹*b=1:=Rat.inv_mul_cancel _ hb
   generalize b⁻¹=c at *
   generalize T n p x i=y at *
   grind
  have:=zls e P
  unfold Ann at hP
  rw [hP] at this
  exact hR _ (sm_ne hx this.symm)
 subst hb
 exact ⟨Ann.c0 (Ann.cut (a:=[a]) (k:=1) h) hx,rfl⟩
theorem ann2 {P:List Rat} (hx:x≠zero) (hP:Ann n p x P) (hR:∀t,pvQ P t≠0) (hD:∀b a,Ann n p x [b,a,1]→False) {a b c:Rat} (h:Ann n p x [a,b,c]):a=0∧b=0∧c=0:=by
 have hc:c=0:=by
  apply Classical.byContradiction
  intro hc
  have h2:=h.sm c⁻¹
  have e:smQ c⁻¹ [a,b,c]=[c⁻¹*a,c⁻¹*b,1]:=by simp [smQ,Rat.inv_mul_cancel _ hc]
  rw [e] at h2
  exact hD _ _ h2
 subst hc
 have ⟨h1,h2⟩:=ann1 hx hP hR (Ann.cut (a:=[a,b]) (k:=1) h)
 exact ⟨h1,h2,rfl⟩
theorem ann3 {P:List Rat} (hx:x≠zero) (hP:Ann n p x P) (hR:∀t,pvQ P t≠0) (hD:∀b a,Ann n p x [b,a,1]→False) (hE:∀a b c,Ann n p x [a,b,c,1]→False) {a b c d:Rat} (h:Ann n p x [a,b,c,d]):a=0∧b=0∧c=0∧d=0:=by
 have hd:d=0:=by
  apply Classical.byContradiction
  intro hd
  have h2:=h.sm d⁻¹
  have e:smQ d⁻¹ [a,b,c,d]=[d⁻¹*a,d⁻¹*b,d⁻¹*c,1]:=by simp [smQ,Rat.inv_mul_cancel _ hd]
  rw [e] at h2
  exact hE _ _ _ h2
 subst hd
 have ⟨h1,h2,h3⟩:=ann2 hx hP hR hD (Ann.cut (a:=[a,b,c]) (k:=1) h)
 exact ⟨h1,h2,h3,rfl⟩
theorem deg3_2 {q0 q1 q2:Rat} (hx:x≠zero) (hP:Ann n p x [q0,q1,q2,1]) (hR:∀t,pvQ [q0,q1,q2,1] t≠0) (b a:Rat) (h:Ann n p x [b,a,1]):False:=by
 have k:=(hP.add (h.sh.sm (-1))).add (h.sm (-(q2-a)))
 have e:znf (znf [q0,q1,q2,1] (smQ (-1) [0,b,a,1])) (smQ (-(q2-a)) [b,a,1])=[q0-(q2-a)*b,q1-b-(q2-a)*a]++List.replicate 2 0:=by
  simp only [smQ,znf,List.map_cons,List.map_nil,List.replicate,List.cons_append,List.nil_append,List.cons.injEq,and_true]
  refine ⟨by grind,by grind,by grind,by grind⟩
 rw [e] at k
 have ⟨h1,h2⟩:=ann1 hx hP hR k.cut
 apply hR (-(q2-a))
 simp only [pvQ]
 grind
theorem deg4_2 {q0 q1 q2 q3:Rat} (hx:x≠zero) (hP:Ann n p x [q0,q1,q2,q3,1]) (hR:∀t,pvQ [q0,q1,q2,q3,1] t≠0) (hQ:∀a b c d:Rat,q3=a+c→q2=b+d+a*c→q1=a*d+b*c→q0=b*d→False) (b a:Rat) (h:Ann n p x [b,a,1]):False:=by
 have k:=((hP.add (h.sh.sh.sm (-1))).add (h.sh.sm (-(q3-a)))).add (h.sm (-(q2-b-a*(q3-a))))
 have e:znf (znf (znf [q0,q1,q2,q3,1] (smQ (-1) [0,0,b,a,1])) (smQ (-(q3-a)) [0,b,a,1])) (smQ (-(q2-b-a*(q3-a))) [b,a,1])=[q0-b*(q2-b-a*(q3-a)),q1-b*(q3-a)-a*(q2-b-a*(q3-a))]++List.replicate 3 0:=by
  simp only [smQ,znf,List.map_cons,List.map_nil,List.replicate,List.cons_append,List.nil_append,List.cons.injEq,and_true]
  refine ⟨by grind,by grind,by grind,by grind,by grind⟩
 rw [e] at k
 have ⟨h1,h2⟩:=ann1 hx hP hR k.cut
 exact hQ a b (q3-a) (q2-b-a*(q3-a)) (by grind) (by grind) (by grind) (by grind)
theorem deg4_3 {q0 q1 q2 q3:Rat} (hx:x≠zero) (hP:Ann n p x [q0,q1,q2,q3,1]) (hR:∀t,pvQ [q0,q1,q2,q3,1] t≠0) (hD:∀b a,Ann n p x [b,a,1]→False) (a b c:Rat) (h:Ann n p x [a,b,c,1]):False:=by
 have k:=(hP.add (h.sh.sm (-1))).add (h.sm (-(q3-c)))
 have e:znf (znf [q0,q1,q2,q3,1] (smQ (-1) [0,a,b,c,1])) (smQ (-(q3-c)) [a,b,c,1])=[q0-(q3-c)*a,q1-a-(q3-c)*b,q2-b-(q3-c)*c]++List.replicate 2 0:=by
  simp only [smQ,znf,List.map_cons,List.map_nil,List.replicate,List.cons_append,List.nil_append,List.cons.injEq,and_true]
  refine ⟨by grind,by grind,by grind,by grind,by grind⟩
 rw [e] at k
 have ⟨h1,h2,h3⟩:=ann2 hx hP hR hD k.cut
 apply hR (-(q3-c))
 simp only [pvQ]
 grind
end
def Irr (P:List Rat):Prop:=(2≤P.length-1→∀t,pvQ P t≠0) ∧
 ∀q0 q1 q2 q3:Rat,P=[q0,q1,q2,q3,1]→∀a b c d:Rat,q3=a+c→q2=b+d+a*c→q1=a*d+b*c→q0=b*d→False
theorem crd_zero {n:Nat} {y:V} (hy:Sup n y) (h:∀i,i<n→y i=0):y=zero:=by
 funext i
 by_cases hi:i<n
 ·exact h i hi
 ·exact hy i (by omega)
theorem no_div {q:List Int} (h1:1≤q.length) (h4:q.length≤4) (hI:Irr (qL q++[1])) {x y:V} (hx:Sup q.length x) (hy:Sup q.length y) (h:mul q.length (pV q) y x=zero) (h0:x≠zero):y=zero:=by
 have hP:=p_ann h1 hx
 have hA:Ann q.length (pV q) x (crd q.length y):=h
 refine crd_zero hy fun i hi=>?_
 have hg:∀i,i<q.length→(crd q.length y).getD i 0=y i:=fun i hi=>zms y i hi
 rw [← hg i hi]
 clear hg
 match q,h1,h4 with
 | [q0],_,_=>
  have e:crd 1 y=[y 0]:=rfl
  have hA':Ann 1 (pV [q0]) x [y 0]:=hA
  obtain rfl:i=0:=by simp at hi;exact hi
  exact hA'.c0 h0
 | [q0,q1],_,_=>
  have hA':Ann 2 (pV [q0,q1]) x [y 0,y 1]:=hA
  have ⟨k0,k1⟩:=ann1 h0 hP (hI.1 (by simp [qL])) hA'
  have hi':i<2:=hi
  match i,hi' with
  | 0,_=>exact k0
  | 1,_=>exact k1
 | [q0,q1,q2],_,_=>
  have hA':Ann 3 (pV [q0,q1,q2]) x [y 0,y 1,y 2]:=hA
  have hR:=hI.1 (by simp [qL])
  have ⟨k0,k1,k2⟩:=ann2 h0 hP hR (deg3_2 h0 hP hR) hA'
  have hi':i<3:=hi
  match i,hi' with
  | 0,_=>exact k0
  | 1,_=>exact k1
  | 2,_=>exact k2
 | [q0,q1,q2,q3],_,_=>
  have hA':Ann 4 (pV [q0,q1,q2,q3]) x [y 0,y 1,y 2,y 3]:=hA
  have hR:=hI.1 (by simp [qL])
  have hD:=deg4_2 h0 hP hR (hI.2 _ _ _ _ rfl)
  have ⟨k0,k1,k2,k3⟩:=ann3 h0 hP hR hD (deg4_3 h0 hP hR hD) hA'
  have hi':i<4:=hi
  match i,hi' with
  | 0,_=>exact k0
  | 1,_=>exact k1
  | 2,_=>exact k2
  | 3,_=>exact k3
def ziy:List Rat→List V→V
 | c :: cs,v :: vs=>add (sm c v) (ziy cs vs)
 | _,_=>zero
theorem zck:∀(c:List Rat) (a:List V) (d:List Rat) (b:List V),c.length=a.length→ziy (c++d) (a++b)=add (ziy c a) (ziy d b)
 | [],[],d,b,_=>(LZ _).symm
 | [],_ :: _,_,_,h=>by simp at h
 | _ :: _,[],_,_,h=>by simp at h
 | c :: cs,v :: vs,d,b,h=>by
  show add (sm c v) (ziy (cs++d) (vs++b))=add (add (sm c v) (ziy cs vs)) (ziy d b)
  rw [zck cs vs d b (by simpa using h),zal]
def coS (s:V→Rat):List Rat→List V→Rat
 | c :: cs,v :: vs=>c*s v+coS s cs vs
 | _,_=>0
theorem znn (s:V→Rat) (v:V):∀(c:List Rat) (l:List V),ziy c (l.map fun w=>add w (sm (s w) v))=add (ziy c l) (sm (coS s c l) v)
 | [],l=>by
  cases l<;>exact(by rw [show coS s [] _=0 from rfl,zak];exact(LZ _).symm)
 | c :: cs,[]=>by show zero=add zero (sm 0 v);rw [zak,LZ]
 | c :: cs,w :: l=>by
  show add (sm c (add w (sm (s w) v))) (ziy cs (l.map fun w=>add w (sm (s w) v)))=add (add (sm c w) (ziy cs l)) (sm (c*s w+coS s cs l) v)
  rw [znn s v cs l,zh5,zb3,zgS,add4]
theorem ziS:∀l:List V,ziy (List.replicate l.length 0) l=zero
 | []=>rfl
 | v :: l=>by
  show add (sm 0 v) (ziy (List.replicate l.length 0) l)=zero
  rw [ziS l,zak];exact LZ _
theorem dep:∀(n:Nat) (l:List V),n<l.length→(∀v∈l,Sup n v)→∃c:List Rat,c.length=l.length∧(∃r∈c,r≠0)∧ziy c l=zero
  | 0,[],h,_=>by simp at h
  | 0,v :: l,_,hs=>by
    have hv:v=zero:=funext fun i=>hs v (by simp) i (Nat.zero_le i)
    refine ⟨1 :: List.replicate l.length 0,by simp,⟨1,by simp,by decide⟩,?_⟩
    show add (sm 1 v) (ziy (List.replicate l.length 0) l)=zero
    rw [ziS,hv,zb4];exact LZ _
  | n + 1, l,h,hs=>by
    by_cases hall:∀v∈l,v n=0
    · refine dep n l (by omega) fun v hv i hi=>?_
      by_cases he:i=n
      · subst he;exact hall v hv
      · exact hs v hv i (by omega)
    · obtain ⟨v,hv,hne⟩:∃v∈l,v n≠0:=by
        apply Classical.byContradiction
        intro hc
        exact hall fun v hv=>Classical.byContradiction fun hn=>hc ⟨v,hv,hn⟩
      obtain ⟨a,b,rfl⟩:=List.append_of_mem hv
      let s:V→Rat:=fun w=>-(w n*(v n)⁻¹)
      have hlen:((a++b).map fun w=>add w (sm (s w) v)).length=a.length+b.length:=by simp
      have hsup:∀w∈(a++b).map fun w=>add w (sm (s w) v),Sup n w:=by
        intro w hw i hi
        obtain ⟨w0,hw0,rfl⟩:=List.mem_map.1 hw
        have hm:w0∈a++v :: b:=by
          rcases List.mem_append.1 hw0 with h | h
          · exact List.mem_append_left _ h
          · exact List.mem_append_right _ (List.mem_cons_of_mem _ h)
        show w0 i+s w0*v i=0
        by_cases he:i=n
        · subst he
          have hc:(v i)⁻¹*v i=1:=Rat.inv_mul_cancel _ hne
          show w0 i + -(w0 i*(v i)⁻¹)*v i=0
          generalize (v i)⁻¹=c at *
          grind
        · rw [hs w0 hm i (by omega),hs v hv i (by omega)]
          grind
      obtain ⟨c,hc1,⟨r,hr,hr0⟩,hc3⟩:=dep n _ (by rw [hlen];simp at h;omega) hsup
      rw [hlen] at hc1
      have hsplit:c=c.take a.length++c.drop a.length:=(List.take_append_drop _ _).symm
      have hl1:(c.take a.length).length=a.length:=by simp;omega
      rw [znn] at hc3
      refine ⟨c.take a.length++coS s c (a++b) :: c.drop a.length,by simp;omega,⟨r,?_,hr0⟩,?_⟩
      · rw [hsplit] at hr
        rcases List.mem_append.1 hr with h | h
        · exact List.mem_append_left _ h
        · exact List.mem_append_right _ (List.mem_cons_of_mem _ h)
      · rw [zck _ _ _ _ hl1]
        show add (ziy (c.take a.length) a) (add (sm (coS s c (a++b)) v) (ziy (c.drop a.length) b))=zero
        rw [← hc3]
        conv=>rhs;arg 1;arg 1;rw [hsplit]
        rw [zck _ _ _ _ hl1,zgR (sm _ v),← zal]
section
variable {n:Nat} {p:V}
theorem comb_T (x:V):∀(c:List Rat) (k:Nat),ziy c ((List.range' k c.length).map fun j=>Tn n p j x)=Tn n p k (zaa n p c x)
 | [],k=>by
  have:=zsU (n:=n) (p:=p) k 0 zero
  rw [zak,zak] at this
  exact this.symm
 | c :: cs,k=>by
  show add (sm c (Tn n p k x)) (ziy cs ((List.range' (k+1) cs.length).map fun j=>Tn n p j x))=Tn n p k (add (sm c x) (T n p (zaa n p cs x)))
  rw [comb_T x cs (k+1),Tn_add,zsU]
  congr 1
  exact(Tn_Tn k 1 _).symm
theorem sup_Tn {x:V} (hx:Sup n x):∀k,Sup n (Tn n p k x)
 | 0=>hx
 | k + 1=>by
  have:Tn n p (k+1) x=Tn n p k (T n p x):=by
   have:=Tn_Tn (n:=n) (p:=p) k 1 x
   exact this.symm
  rw [this]
  exact sup_Tn (sup_T x) k
end
theorem inv_ex {q:List Int} (h1:1≤q.length) (h4:q.length≤4) (hI:Irr (qL q++[1])) {x:V} (hx:Sup q.length x) (h0:x≠zero):∃y,Sup q.length y∧mul q.length (pV q) y x=e0:=by
 have hl:((List.range' 0 q.length).map (fun j=>Tn q.length (pV q) j x)++[e0]).length=q.length+1:=by simp
 obtain ⟨c,c1,⟨r,hr,hr0⟩,c3⟩:=dep q.length _ (by rw [hl];omega) (fun v hv=>by
  rcases List.mem_append.1 hv with h | h
  ·obtain ⟨j,_,rfl⟩:=List.mem_map.1 h;exact sup_Tn hx j
  ·rw [List.mem_singleton.1 h];exact zcQ h1)
 rw [hl] at c1
 obtain ⟨d,t,rfl⟩:∃d t,c=d++[t]:=by
  rcases List.eq_nil_or_concat c with rfl | ⟨d,t,h⟩
  ·simp at c1
  ·exact ⟨d,t,by simpa using h⟩
 have hd:d.length=q.length:=by simpa using c1
 rw [← hd] at c3
 rw [zck _ _ _ _ (by simp),comb_T x d 0,hd] at c3
 have c4:add (zaa q.length (pV q) d x) (sm t e0)=zero:=by
  have:add (zaa q.length (pV q) d x) (add (sm t e0) zero)=zero:=c3
  rwa [za1] at this
 have key:zaa q.length (pV q) d x=mul q.length (pV q) (ev q.length (pV q) d) x:=zhq h1 hx d
 have hev:ev q.length (pV q) d=fun i=>d.getD i 0:=zdw (by omega)
 by_cases ht:t=0
 ·exfalso
  subst ht
  rw [zak,za1,key] at c4
  have hz:=no_div h1 h4 hI hx (zfo h1 d) c4 h0
  rw [hev] at hz
  rcases List.mem_append.1 hr with h | h
  ·obtain ⟨i,hi,rfl⟩:=List.getElem_of_mem h
   have:=congrFun hz i
   simp only [List.getD_eq_getElem?_getD,List.getElem?_eq_getElem hi,Option.getD_some] at this
   exact hr0 this
  ·exact hr0 (List.mem_singleton.1 h)
 ·refine ⟨sm (-t⁻¹) (ev q.length (pV q) d),zdm (zfo h1 d),?_⟩
  rw [RZ (zdm (zfo h1 d)) hx,zi6,RZ hx (zfo h1 d),← key]
  funext i
  have hi:zaa q.length (pV q) d x i+t*e0 i=0:=congrFun c4 i
  show -t⁻¹*zaa q.length (pV q) d x i=e0 i
  have hc:t⁻¹*t=1:=Rat.inv_mul_cancel _ ht
  generalize t⁻¹=s at *
  generalize zaa q.length (pV q) d x i=y at *
  generalize e0 i=z at *
  grind
def sN:Nat→(Nat→Rat)→Rat
 | 0,_=>0
 | n+1,f=>sN n f+f n
def skp (k i:Nat):Nat:=if i<k then i else i+1
def sgn (k:Nat):Rat:=if k % 2=1 then -1 else 1
def det:Nat→(Nat→Nat→Rat)→Rat
 | 0,_=>1
 | n+1,m=>sN (n+1) fun k=>sgn k*(m k 0*det n fun i j=>m (skp k i) (j+1))
def cof (n:Nat) (m:Nat→Nat→Rat) (i:Nat):Rat:=sgn i*det (n-1) fun r c=>m (r+1) (skp i c)
theorem cramer {n:Nat} (h1:1≤n) (h4:n≤4) (m:Nat→Nat→Rat) (i:Nat) (hi:i<n):(sN n fun j=>cof n m j*m i j)=if i=0 then det n m else 0:=by
 obtain rfl | rfl | rfl | rfl:n=1∨n=2∨n=3∨n=4:=by omega
 ·obtain rfl:i=0:=by omega
  simp [sN,cof,det,sgn,skp]
 ·obtain rfl | rfl:i=0∨i=1:=by omega
  all_goals (simp [sN,cof,det,sgn,skp];grind)
 ·obtain rfl | rfl | rfl:i=0∨i=1∨i=2:=by omega
  all_goals (simp [sN,cof,det,sgn,skp];grind)
 ·obtain rfl | rfl | rfl | rfl:i=0∨i=1∨i=2∨i=3:=by omega
  all_goals (simp [sN,cof,det,sgn,skp];grind)
def mm (n:Nat) (a b:Nat→Nat→Rat) (i j:Nat):Rat:=sN n fun l=>a i l*b l j
def trc (n:Nat) (a:Nat→Nat→Rat):Rat:=sN n fun i=>a i i
def nwS (t:Nat→Rat) (c:List Rat) (k:Nat):Nat→Rat
 | 0=>t (k+1)
 | i+1=>nwS t c k i+c.getD i 0*t (k-i)
def nwC (t:Nat→Rat):Nat→List Rat
 | 0=>[]
 | k+1=>nwC t k++[nwS t (nwC t k) k k*(-1 / ((k+1:Nat):Rat))]
def mpw (n:Nat) (m:Nat→Nat→Rat):Nat→Nat→Nat→Rat
 | 0=>fun i j=>if i=j then 1 else 0
 | 1=>m
 | k+2=>mm n (mpw n m (k+1)) m
def trP (n:Nat) (m:Nat→Nat→Rat) (k:Nat):Rat:=trc n (mpw n m k)
def e22 (n:Nat) (m:Nat→Nat→Rat):Rat:=sN n fun j=>sN j fun i=>m i i*m j j-m i j*m j i
def d3 (a b c d e f g h i:Rat):Rat:=a*(e*i-f*h)-b*(d*i-f*g)+c*(d*h-e*g)
def e33 (n:Nat) (m:Nat→Nat→Rat):Rat:=sN n fun k=>sN k fun j=>sN j fun i=>d3 (m i i) (m i j) (m i k) (m j i) (m j j) (m j k) (m k i) (m k j) (m k k)
theorem nw2 {n:Nat} (h1:1≤n) (h4:n≤4) (m:Nat→Nat→Rat):trP n m 2=trP n m 1*trP n m 1-2*e22 n m:=by
 obtain rfl | rfl | rfl | rfl:n=1∨n=2∨n=3∨n=4:=by omega
 all_goals (simp [trP,trc,mpw,mm,sN,e22];grind)
theorem nw3 {n:Nat} (h1:1≤n) (h4:n≤4) (m:Nat→Nat→Rat):trP n m 3=trP n m 1*trP n m 2-e22 n m*trP n m 1+3*e33 n m:=by
 obtain rfl | rfl | rfl | rfl:n=1∨n=2∨n=3∨n=4:=by omega
 all_goals (simp [trP,trc,mpw,mm,sN,e22,e33,d3];grind)
theorem nw4 (m:Nat→Nat→Rat):trP 4 m 4=trP 4 m 1*trP 4 m 3-e22 4 m*trP 4 m 2+e33 4 m*trP 4 m 1-4*det 4 m:=by
 simp [trP,trc,mpw,mm,sN,e22,e33,d3,det,sgn,skp];grind
theorem nwC1 (t:Nat→Rat):nwC t 1=[-t 1]:=by
 simp [nwC,nwS];grind
theorem nwC2 {t:Nat→Rat} {e2:Rat} (h2:t 2=t 1*t 1-2*e2):nwC t 2=[-t 1,e2]:=by
 show nwC t 1++[_]=_
 rw [nwC1]
 simp [nwS];grind
theorem nwC3 {t:Nat→Rat} {e2 e3:Rat} (h2:t 2=t 1*t 1-2*e2) (h3:t 3=t 1*t 2-e2*t 1+3*e3):nwC t 3=[-t 1,e2,-e3]:=by
 show nwC t 2++[_]=_
 rw [nwC2 h2]
 simp [nwS];grind
theorem nwC4 {t:Nat→Rat} {e2 e3 e4:Rat} (h2:t 2=t 1*t 1-2*e2) (h3:t 3=t 1*t 2-e2*t 1+3*e3) (h4:t 4=t 1*t 3-e2*t 2+e3*t 1-4*e4):nwC t 4=[-t 1,e2,-e3,e4]:=by
 show nwC t 3++[_]=_
 rw [nwC3 h2 h3]
 simp [nwS];grind
theorem nwC_last {n:Nat} (h1:1≤n) (h4:n≤4) (m:Nat→Nat→Rat):(nwC (trP n m) n).getD (n-1) 0=sgn n*det n m:=by
 obtain rfl | rfl | rfl | rfl:n=1∨n=2∨n=3∨n=4:=by omega
 ·rw [nwC1];simp [trP,trc,mpw,sN,det,sgn,skp];grind
 ·rw [nwC2 (nw2 h1 h4 m)];simp [sN,det,sgn,skp,e22];grind
 ·rw [nwC3 (nw2 h1 h4 m) (nw3 h1 h4 m)];simp [sN,det,sgn,skp,e33,d3];grind
 ·rw [nwC4 (nw2 h1 h4 m) (nw3 h1 h4 m) (nw4 m)];simp [sgn]
def rsM (n:Nat) (m:Nat→Nat→Rat) (c:List Rat):Nat→Nat→Rat
 | 0=>fun i=>if i=0 then 1 else 0
 | k+1=>fun i=>(sN n fun j=>rsM n m c k j*m i j)+(if i=0 then c.getD k 0 else 0)
theorem rsM_cof {n:Nat} (h1:1≤n) (h4:n≤4) (m:Nat→Nat→Rat) (i:Nat) (hi:i<n):rsM n m (nwC (trP n m) n) (n-1) i = -(sgn n*cof n m i):=by
 obtain rfl | rfl | rfl | rfl:n=1∨n=2∨n=3∨n=4:=by omega
 ·obtain rfl:i=0:=by omega
  simp [rsM,cof,det,sgn]
 ·rw [nwC2 (nw2 h1 h4 m)]
  obtain rfl | rfl:i=0∨i=1:=by omega
  all_goals (simp [rsM,sN,trP,trc,mpw,cof,det,sgn,skp];try grind)
 ·rw [nwC3 (nw2 h1 h4 m) (nw3 h1 h4 m)]
  obtain rfl | rfl | rfl:i=0∨i=1∨i=2:=by omega
  all_goals (simp [rsM,sN,trP,trc,mpw,cof,det,sgn,skp,e22];try grind)
 ·rw [nwC4 (nw2 h1 h4 m) (nw3 h1 h4 m) (nw4 m)]
  obtain rfl | rfl | rfl | rfl:i=0∨i=1∨i=2∨i=3:=by omega
  all_goals (simp [rsM,sN,trP,trc,mpw,cof,det,sgn,skp,e22,e33,d3];try grind)
def mi2 (a:Nat→Nat→Rat) (i j s t:Nat):Rat:=a i s*a j t-a i t*a j s
def lap (f g:Nat→Nat→Rat):Rat:=f 0 1*g 2 3-f 0 2*g 1 3+f 0 3*g 1 2+f 1 2*g 0 3-f 1 3*g 0 2+f 2 3*g 0 1
def lp (a:Nat→Nat→Rat) (s t u v:Nat):Rat:=lap (fun i j=>mi2 a i j s t) fun i j=>mi2 a i j u v
theorem zf7 (a:Nat→Nat→Rat):det 4 a=lp a 0 1 2 3:=by
 simp [lp,lap,mi2,sN,det,sgn,skp];grind
def s6 (f:Nat→Nat→Rat):Rat:=f 0 1+f 0 2+f 0 3+f 1 2+f 1 3+f 2 3
theorem mi2_mm (a b:Nat→Nat→Rat) (i j u v:Nat):mi2 (mm 4 a b) i j u v=s6 fun s t=>mi2 a i j s t*mi2 b s t u v:=by
 simp [mm,sN,mi2,s6];grind
theorem lp_lin (A B:Nat→Nat→Nat→Nat→Rat) (u v:Nat→Nat→Rat):lap (fun i j=>s6 fun s t=>A i j s t*u s t) (fun i j=>s6 fun s t=>B i j s t*v s t)=s6 fun s t=>s6 fun x y=>u s t*v x y*lap (fun i j=>A i j s t) (fun i j=>B i j x y):=by
 simp only [lap,s6];grind
theorem det_mul4 (a b:Nat→Nat→Rat):det 4 (mm 4 a b)=det 4 a*det 4 b:=by
 rw [zf7 b,zf7 (mm 4 a b)]
 unfold lp
 simp only [mi2_mm]
 rw [lp_lin]
 have z:∀s t x y,lap (fun i j=>mi2 a i j s t) (fun i j=>mi2 a i j x y)=lp a s t x y:=fun _ _ _ _=>rfl
 simp only [z,s6]
 have e1:lp a 0 1 2 3=det 4 a:=(zf7 a).symm
 have e2:lp a 0 2 1 3 = -det 4 a:=by rw [zf7];simp [lp,lap,mi2];grind
 have e3:lp a 0 3 1 2=det 4 a:=by rw [zf7];simp [lp,lap,mi2];grind
 have e4:lp a 1 2 0 3=det 4 a:=by rw [zf7];simp [lp,lap,mi2];grind
 have e5:lp a 1 3 0 2 = -det 4 a:=by rw [zf7];simp [lp,lap,mi2];grind
 have e6:lp a 2 3 0 1=det 4 a:=by rw [zf7];simp [lp,lap,mi2];grind
 have o:∀s t u,lp a s t s u=0∧lp a s t u s=0∧lp a t s s u=0∧lp a t s u s=0:=fun s t u=>by
  refine ⟨?_,?_,?_,?_⟩<;>(simp only [lp,lap,mi2];grind)
 simp only [e1,e2,e3,e4,e5,e6,(o _ _ _).1,(o _ _ _).2.1,(o _ _ _).2.2.1,(o _ _ _).2.2.2]
 simp only [lap]
 grind
theorem det_mul {n:Nat} (h1:1≤n) (h4:n≤4) (a b:Nat→Nat→Rat):det n (mm n a b)=det n a*det n b:=by
 obtain rfl | rfl | rfl | rfl:n=1∨n=2∨n=3∨n=4:=by omega
 ·simp [mm,sN,det,sgn,skp];grind
 ·simp [mm,sN,det,sgn,skp];grind
 ·simp [mm,sN,det,sgn,skp];grind
 ·exact det_mul4 a b
section
variable {n:Nat} {p:V}
def mx (n:Nat) (p:V) (x:V) (i j:Nat):Rat:=Tn n p j x i
theorem zcF {f g:Nat→Rat}:∀n,(∀j,j<n→f j=g j)→sN n f=sN n g
 | 0,_=>rfl
 | n+1,h=>by unfold sN;rw [zcF n fun j hj=>h j (by omega),h n (by omega)]
theorem sN_comb (g:Nat→V) (i:Nat):∀(c:List Rat) (k:Nat),ziy c ((List.range' k c.length).map g) i=sN c.length fun j=>c.getD j 0*g (k+j) i
 | [],k=>rfl
 | c :: cs,k=>by
  have key:∀(f:Nat→Rat) (m:Nat),sN (m+1) f=f 0+sN m fun j=>f (j+1):=by
   intro f m
   induction m with
   | zero=>simp [sN];grind
   | succ m ih=>rw [show sN (m+1+1) f=sN (m+1) f+f (m+1) from rfl,ih];simp only [sN];grind
  show c*g k i+ziy cs ((List.range' (k+1) cs.length).map g) i=_
  rw [sN_comb g i cs (k+1)]
  grind
theorem zmR (y x:V) (i:Nat):mul n p y x i=sN n fun j=>y j*mx n p x i j:=by
 have h:=congrFun (comb_T (n:=n) (p:=p) x (crd n y) 0) i
 rw [sN_comb] at h
 show zaa n p (crd n y) x i=_
 rw [show Tn n p 0 (zaa n p (crd n y) x)=zaa n p (crd n y) x from rfl] at h
 rw [← h,ziT]
 exact zcF _ fun j hj=>by rw [zms y j hj,Nat.zero_add];rfl
theorem mul_Tn (y x:V):∀k,mul n p y (Tn n p k x)=Tn n p k (mul n p y x)
 | 0=>rfl
 | k+1=>by show mul n p y (T n p (Tn n p k x))=T n p (Tn n p k (mul n p y x));rw [mul_T,mul_Tn y x k]
theorem mx_mul {y x:V} (hy:Sup n y) (hx:Sup n x):mx n p (mul n p y x)=mm n (mx n p y) (mx n p x):=by
 funext i j
 show Tn n p j (mul n p y x) i=_
 rw [← mul_Tn,RZ hy (sup_Tn hx j),zmR]
 exact zcF _ fun l _=>Rat.mul_comm _ _
def xp (n:Nat) (p x:V):Nat→V
 | 0=>e0
 | k+1=>mul n p (xp n p x k) x
theorem sup_xp (h1:1≤n) {x:V} (hx:Sup n x):∀k,Sup n (xp n p x k)
 | 0=>zcQ h1
 | k+1=>zh9 hx
theorem mx_xp (h1:1≤n) {x:V} (hx:Sup n x):∀k,mx n p (xp n p x (k+1))=mpw n (mx n p x) (k+1)
 | 0=>by show mx n p (mul n p e0 x)=_;rw [ziX h1 hx];rfl
 | k+1=>by
  show mx n p (mul n p (xp n p x (k+1)) x)=mm n (mpw n (mx n p x) (k+1)) (mx n p x)
  rw [mx_mul (sup_xp h1 hx _) hx,mx_xp h1 hx k]
theorem det_one (h1:1≤n) (h4:n≤4):det n (mx n p e0)=1:=by
 have h:∀i j,j<n→mx n p e0 i j=if i=j then 1 else 0:=fun i j hj=>by show Tn n p j e0 i=_;rw [Tn_ei j hj];rfl
 obtain rfl | rfl | rfl | rfl:n=1∨n=2∨n=3∨n=4:=by omega
 all_goals (simp [det,sN,sgn,skp,h];try grind)
def cofV (n:Nat) (m:Nat→Nat→Rat):V:=fun i=>if i<n then cof n m i else 0
theorem zou (m:Nat→Nat→Rat):Sup n (cofV n m):=fun i hi=>if_neg (by omega)
theorem zsH (h1:1≤n) (h4:n≤4) {x:V} (hx:Sup n x):mul n p (cofV n (mx n p x)) x=sm (det n (mx n p x)) e0:=by
 funext i
 by_cases hi:i<n
 ·rw [zmR]
  have:=cramer h1 h4 (mx n p x) i hi
  rw [zcF n (g:=fun j=>cof n (mx n p x) j*mx n p x i j) fun j hj=>by show(if j<n then _ else _)*_=_;rw [if_pos hj]]
  rw [this]
  show _=det n (mx n p x)*(if i=0 then 1 else 0)
  split<;>grind
 ·rw [zh9 hx i (by omega)]
  show 0=_*(if i=0 then(1:Rat) else 0)
  grind
def rsV (n:Nat) (p x:V) (c:List Rat):Nat→V
 | 0=>e0
 | k+1=>add (mul n p (rsV n p x c k) x) (sm (c.getD k 0) e0)
theorem rsV_get (x:V) (c:List Rat):∀k i,rsV n p x c k i=rsM n (mx n p x) c k i
 | 0,i=>rfl
 | k+1,i=>by
  show mul n p (rsV n p x c k) x i+c.getD k 0*(if i=0 then 1 else 0)=(sN n fun j=>rsM n (mx n p x) c k j*mx n p x i j)+(if i=0 then c.getD k 0 else 0)
  rw [zmR,zcF n (g:=fun j=>rsM n (mx n p x) c k j*mx n p x i j) fun j _=>by rw [rsV_get x c k j]]
  split<;>grind
theorem zm9 (h1:1≤n) {x:V} (hx:Sup n x) (c:List Rat):∀k,Sup n (rsV n p x c k)
 | 0=>zcQ h1
 | k+1=>zm8 (zh9 hx) (zdm (zcQ h1))
def txp (n:Nat) (p x:V) (k:Nat):Rat:=trc n (mx n p (xp n p x k))
theorem zlx {t u:Nat→Rat} (c:List Rat) {k:Nat} (h:∀i,1≤i→i≤k+1→t i=u i):∀i,i≤k→nwS t c k i=nwS u c k i
 | 0,_=>h _ (by omega) (by omega)
 | i+1,hi=>by unfold nwS;rw [zlx c h i (by omega),h (k-i) (by omega) (by omega)]
theorem zlw {t u:Nat→Rat}:∀k,(∀i,1≤i→i≤k→t i=u i)→nwC t k=nwC u k
 | 0,_=>rfl
 | k+1,h=>by unfold nwC;rw [zlw k fun i h1 h2=>h i h1 (by omega),zlx _ h k (Nat.le_refl k)]
def chP (n:Nat) (p x:V):List Rat:=nwC (txp n p x) n
theorem chP_eq (h1:1≤n) {x:V} (hx:Sup n x):chP n p x=nwC (trP n (mx n p x)) n:=
 zlw n fun i hi _=>by
  obtain ⟨k,rfl⟩:∃k,i=k+1:=⟨i-1,by omega⟩
  show trc n (mx n p (xp n p x (k+1)))=_
  rw [mx_xp h1 hx];rfl
theorem znk (h1:1≤n) (h4:n≤4) {x:V} (hx:Sup n x):(chP n p x).getD (n-1) 0=sgn n*det n (mx n p x):=by
 rw [chP_eq h1 hx,nwC_last h1 h4]
theorem rsV_cof (h1:1≤n) (h4:n≤4) {x:V} (hx:Sup n x):rsV n p x (chP n p x) (n-1)=sm (-sgn n) (cofV n (mx n p x)):=by
 funext i
 by_cases hi:i<n
 ·rw [rsV_get,chP_eq h1 hx,rsM_cof h1 h4 _ i hi]
  show _ = -sgn n*(if i<n then _ else _)
  rw [if_pos hi];grind
 ·rw [zm9 h1 hx _ _ i (by omega)]
  show 0=_*(if i<n then _ else _)
  rw [if_neg hi,Rat.mul_zero]
theorem sgn_sq (n:Nat):sgn n*sgn n=1:=by unfold sgn;split<;>grind
end
theorem det_ne {q:List Int} (h1:1≤q.length) (h4:q.length≤4) (hI:Irr (qL q++[1])) {x:V} (hx:Sup q.length x) (h0:x≠zero):det q.length (mx q.length (pV q) x)≠0:=by
 obtain ⟨y,hy,e⟩:=inv_ex h1 h4 hI hx h0
 have h:=det_mul h1 h4 (mx q.length (pV q) y) (mx q.length (pV q) x)
 rw [← mx_mul hy hx,e,det_one h1 h4] at h
 grind
section
variable {n:Nat} {p:V}
theorem inv_one (h1:1≤n) {x y z:V} (hx:Sup n x) (hy:Sup n y) (hz:Sup n z) (ey:mul n p y x=e0) (ez:mul n p z x=e0):y=z:=by
 have:=ziX (p:=p) h1 hy
 rw [← ez,zi5 hz hx hy,RZ hx hy,ey,RZ hz (zcQ h1),ziX h1 hz] at this
 exact this.symm
theorem zkp (h1:1≤n) (r:Rat) {x y:V} (hx:Sup n x) (hy:Sup n y):mul n p (sm r x) y=sm r (mul n p x y):=by
 rw [RZ (zdm hx) hy,zi6,RZ hy hx]
theorem sm_inv {r:Rat} (h:r≠0) (x:V):sm r⁻¹ (sm r x)=x:=by
 rw [zb3,Rat.inv_mul_cancel _ h,zf8]
theorem rs_inv (h1:1≤n) (h4:n≤4) {x:V} (hx:Sup n x) (hd:det n (mx n p x)≠0):(chP n p x).getD (n-1) 0≠0∧mul n p (sm (-(chP n p x).getD (n-1) 0)⁻¹ (rsV n p x (chP n p x) (n-1))) x=e0:=by
 have hs:=sgn_sq n
 have hc:(chP n p x).getD (n-1) 0≠0:=by
  rw [znk h1 h4 hx]
  grind
 refine ⟨hc,?_⟩
 rw [zkp h1 _ (zm9 h1 hx _ _) hx,rsV_cof h1 h4 hx,zkp h1 _ (zou _) hx,zsH h1 h4 hx,znk h1 h4 hx,zb3 (-sgn n)]
 rw [show -sgn n*det n (mx n p x) = -(sgn n*det n (mx n p x)) by grind]
 exact sm_inv (by grind) _
end
def atQ (n:Nat) (f:V) (r:Rat):Rat:=sN n fun i=>f i*r ^ i
def mpQ (n:Nat) (p:V) (r:Rat):Rat:=atQ n p r+r ^ n
section
variable {n:Nat} {p:V}
theorem sN_add (f g:Nat→Rat):∀n,sN n (fun i=>f i+g i)=sN n f+sN n g
 | 0=>by simp [sN];grind
 | n+1=>by unfold sN;rw [sN_add f g n];grind
theorem sN_sm (c:Rat) (f:Nat→Rat):∀n,sN n (fun i=>c*f i)=c*sN n f
 | 0=>by simp [sN]
 | n+1=>by unfold sN;rw [sN_sm c f n];grind
theorem at_add (f g:V) (r:Rat):atQ n (add f g) r=atQ n f r+atQ n g r:=by
 unfold atQ
 rw [← sN_add]
 exact zcF _ fun i _=>Rat.add_mul _ _ _
theorem zsv (c:Rat) (f:V) (r:Rat):atQ n (sm c f) r=c*atQ n f r:=by
 unfold atQ
 rw [← sN_sm]
 exact zcF _ fun i _=>Rat.mul_assoc _ _ _
theorem zsp (f:Nat→Rat):∀m,sN (m+1) f=f 0+sN m fun j=>f (j+1)
 | 0=>by simp [sN];grind
 | m+1=>by
  rw [show sN (m+1+1) f=sN (m+1) f+f (m+1) from rfl,zsp f m]
  simp only [sN];grind
theorem at_T (h1:1≤n) (g:V) (r:Rat):atQ n (T n p g) r=r*atQ n g r-g (n-1)*mpQ n p r:=by
 obtain ⟨m,rfl⟩:∃m,n=m+1:=⟨n-1,by omega⟩
 have e:atQ (m+1) (T (m+1) p g) r=(sN (m+1) fun i=>(if i=0 then 0 else g (i-1))*r ^ i)-g m*atQ (m+1) p r:=by
  unfold atQ
  rw [← sN_sm,show ∀a b:Rat,a-b=a + -1*b by grind,← sN_sm,← sN_add]
  refine zcF _ fun i hi=>?_
  show(if i<m+1 then(if i=0 then 0 else g (i-1))-g (m+1-1)*p i else 0)*r ^ i=_
  rw [if_pos hi,Nat.add_sub_cancel];grind
 have e2:(sN (m+1) fun i=>(if i=0 then(0:Rat) else g (i-1))*r ^ i)=r*sN m fun i=>g i*r ^ i:=by
  rw [zsp,← sN_sm]
  simp only [if_true,Nat.add_eq_zero_iff,Nat.one_ne_zero,and_false,if_false,Nat.add_sub_cancel,Rat.zero_mul]
  rw [Rat.zero_add]
  refine zcF _ fun i _=>?_
  rw [Rat.pow_succ];grind
 rw [e,e2]
 show _=r*(sN m (fun i=>g i*r ^ i)+g m*r ^ m)-g (m+1-1)*(atQ (m+1) p r+r ^ (m+1))
 rw [Nat.add_sub_cancel,Rat.pow_succ]
 generalize sN m (fun i=>g i*r ^ i)=S
 generalize atQ (m+1) p r=A
 grind
theorem at_mulL (h1:1≤n) (g:V):∀l:List Rat,∃Q:List Rat,∀r,atQ n (zaa n p l g) r=pvQ l r*atQ n g r-pvQ Q r*mpQ n p r
 | []=>⟨[],fun r=>by
  show atQ n zero r=_
  have:atQ n zero r=0:=by
   have:=zsv (n:=n) 0 zero r
   rw [zak] at this
   rw [this,Rat.zero_mul]
  rw [this];simp [pvQ];grind⟩
 | c :: l=>by
  obtain ⟨Q,hQ⟩:=at_mulL h1 g l
  refine ⟨zaa n p l g (n-1) :: Q,fun r=>?_⟩
  show atQ n (add (sm c g) (T n p (zaa n p l g))) r=_
  rw [at_add,zsv,at_T h1,hQ r]
  simp only [pvQ]
  grind
theorem zsz (f:V) (r:Rat):pvQ (crd n f) r=atQ n f r:=by
 have key:∀(m k:Nat),pvQ ((List.range' k m).map f) r*r ^ k=sN m fun i=>f (k+i)*r ^ (k+i):=by
  intro m
  induction m with
  | zero=>intro k;simp [pvQ,sN]
  | succ m ih=>
   intro k
   have h:=ih (k+1)
   rw [zsp]
   show(f k+r*pvQ ((List.range' (k+1) m).map f) r)*r ^ k=_
   have e:(sN m fun j=>f (k+(j+1))*r ^ (k+(j+1)))=sN m fun i=>f (k+1+i)*r ^ (k+1+i):=zcF _ fun i _=>by rw [show k+(i+1)=k+1+i by omega]
   rw [e,← h,Nat.add_zero,Rat.pow_succ]
   grind
 have:=key n 0
 unfold crd atQ
 rw [List.range_eq_range']
 rw [show r ^ 0=1 from Rat.pow_zero r,Rat.mul_one] at this
 rw [this]
 exact zcF _ fun i _=>by rw [Nat.zero_add]
theorem at_mul (h1:1≤n) (f g:V):∃Q:List Rat,∀r,atQ n (mul n p f g) r=atQ n f r*atQ n g r-pvQ Q r*mpQ n p r:=by
 obtain ⟨Q,hQ⟩:=at_mulL (p:=p) h1 g (crd n f)
 exact ⟨Q,fun r=>by rw [← zsz f];exact hQ r⟩
end
def Bt (c x:Rat):Prop:=-c≤x∧x≤c
theorem Bt.nn {c x:Rat} (h:Bt c x):0≤c:=by have:=h.1;have:=h.2;grind
theorem Bt.add {a b x y:Rat} (h:Bt a x) (k:Bt b y):Bt (a+b) (x+y):=by
 have:=h.1;have:=h.2;have:=k.1;have:=k.2
 exact ⟨by grind,by grind⟩
theorem Bt.mul {a b x y:Rat} (h:Bt a x) (k:Bt b y):Bt (a*b) (x*y):=by
 obtain ⟨h1,h2⟩:=h
 obtain ⟨k1,k2⟩:=k
 have m1:=Rat.mul_nonneg (show 0≤a-x by grind) (show 0≤b+y by grind)
 have m2:=Rat.mul_nonneg (show 0≤a+x by grind) (show 0≤b-y by grind)
 have m3:=Rat.mul_nonneg (show 0≤a-x by grind) (show 0≤b-y by grind)
 have m4:=Rat.mul_nonneg (show 0≤a+x by grind) (show 0≤b+y by grind)
 exact ⟨by grind,by grind⟩
theorem Bt.mono {a b x:Rat} (h:Bt a x) (k:a≤b):Bt b x:=by
 have:=h.1;have:=h.2
 exact ⟨by grind,by grind⟩
theorem Bt.self (x:Rat):∃c,Bt c x:=by
 by_cases h:0≤x
 ·exact ⟨x,by grind,by grind⟩
 ·exact ⟨-x,by grind,by grind⟩
theorem zsZ (B:Rat):∀l:List Rat,∃C,0≤C∧∀r,Bt B r→Bt C (pvQ l r)
 | []=>⟨0,by grind,fun r _=>⟨by simp [pvQ],by simp [pvQ]⟩⟩
 | c :: l=>by
  obtain ⟨C,hC0,hC⟩:=zsZ B l
  obtain ⟨D,hD⟩:=Bt.self c
  by_cases hB:0≤B
  ·refine ⟨D+B*C,?_,fun r hr=>hD.add (hr.mul (hC r hr))⟩
   have:=Rat.mul_nonneg hB hC0
   have:=hD.nn
   grind
  ·exact ⟨0,by grind,fun r hr=>absurd hr.nn hB⟩
theorem pv_lip (B:Rat):∀l:List Rat,∃L,0≤L∧∀r s w,Bt B r→Bt B s→Bt w (r-s)→Bt (L*w) (pvQ l r-pvQ l s)
 | []=>⟨0,by grind,fun r s w _ _ _=>⟨by simp [pvQ];grind,by simp [pvQ];grind⟩⟩
 | c :: l=>by
  obtain ⟨L,hL0,hL⟩:=pv_lip B l
  obtain ⟨C,hC0,hC⟩:=zsZ B l
  by_cases hB:0≤B
  ·refine ⟨B*L+C,by have:=Rat.mul_nonneg hB hL0;grind,fun r s w hr hs hw=>?_⟩
   have k:=(hr.mul (hL r s w hr hs hw)).add (hw.mul (hC s hs))
   have e:pvQ (c :: l) r-pvQ (c :: l) s=r*(pvQ l r-pvQ l s)+(r-s)*pvQ l s:=by simp only [pvQ];grind
   rw [e]
   exact k.mono (by grind)
  ·exact ⟨0,by grind,fun r s w hr _ _=>absurd hr.nn hB⟩
structure Nest (n:Nat) (p:V) where
 a:Nat→Rat
 b:Nat→Rat
 le:∀k,a k≤b k
 up:∀k,a k≤a (k+1)
 dn:∀k,b (k+1)≤b k
 hv:∀k,2*(b (k+1)-a (k+1))=b k-a k
 sg:∀k,mpQ n p (a k)*mpQ n p (b k)≤0
theorem Nest.mono {n:Nat} {p:V} (N:Nest n p) {k j:Nat} (h:k≤j):N.a k≤N.a j∧N.b j≤N.b k:=by
 induction h with
 | refl=>exact ⟨Rat.le_refl,Rat.le_refl⟩
 | step h ih=>exact ⟨Rat.le_trans ih.1 (N.up _),Rat.le_trans (N.dn _) ih.2⟩
def Nest.w {n:Nat} {p:V} (N:Nest n p) (k:Nat):Rat:=N.b k-N.a k
theorem Nest.w0 {n:Nat} {p:V} (N:Nest n p) (k:Nat):0≤N.w k:=by
 have:=N.le k
 unfold Nest.w;grind
theorem Nest.wk {n:Nat} {p:V} (N:Nest n p):∀k,((k+1:Nat):Rat)*N.w k≤N.w 0
 | 0=>by rw [show((0+1:Nat):Rat)=1 by rfl,Rat.one_mul];exact Rat.le_refl
 | k+1=>by
  have ih:=N.wk k
  have hv:2*N.w (k+1)=N.w k:=N.hv k
  have h0:=N.w0 (k+1)
  have hc:((k+1+1:Nat):Rat)=((k+1:Nat):Rat)+1:=by rw [Rat.natCast_add];rfl
  have hk:(1:Rat)≤((k+1:Nat):Rat):=by exact_mod_cast Nat.succ_le_succ (Nat.zero_le k)
  have m:=Rat.mul_nonneg (show 0≤((k+1:Nat):Rat)-1 by grind) h0
  rw [hc]
  generalize ((k+1:Nat):Rat)=K at *
  rw [← hv] at ih
  grind
theorem Nest.small {n:Nat} {p:V} (N:Nest n p) (e:Rat) (he:0<e):∃k,∀j,k≤j→N.w j<e:=by
 obtain ⟨m,hm⟩:∃m:Nat,N.w 0<e*((m+1:Nat):Rat):=by
  have hi:0<e⁻¹:=Rat.inv_pos.2 he
  refine ⟨(N.w 0*e⁻¹).ceil.toNat,?_⟩
  have h1:=Rat.le_ceil (x:=N.w 0*e⁻¹)
  have h2:N.w 0=e*(N.w 0*e⁻¹):=by
   have:=Rat.mul_inv_cancel e (by grind)
   grind
  have h3:((N.w 0*e⁻¹).ceil:Rat)<(((N.w 0*e⁻¹).ceil.toNat+1:Nat):Rat):=by
   have:(N.w 0*e⁻¹).ceil<(((N.w 0*e⁻¹).ceil.toNat+1:Nat):Int):=by omega
   exact_mod_cast this
  have h4:=Rat.mul_lt_mul_of_pos_left (show N.w 0*e⁻¹<(((N.w 0*e⁻¹).ceil.toNat+1:Nat):Rat) by grind) he
  grind
 refine ⟨m,fun j hj=>?_⟩
 have h1:=N.wk j
 have h0:=N.w0 j
 have hk:((m+1:Nat):Rat)≤((j+1:Nat):Rat):=by exact_mod_cast Nat.succ_le_succ hj
 have hp:(0:Rat)<((m+1:Nat):Rat):=by exact_mod_cast Nat.succ_pos m
 have m1:=Rat.mul_nonneg (show 0≤((j+1:Nat):Rat)-((m+1:Nat):Rat) by grind) h0
 apply Classical.byContradiction
 intro hc
 have m2:=Rat.mul_nonneg (show 0≤N.w j-e by grind) (Rat.le_of_lt hp)
 generalize ((j+1:Nat):Rat)=J at *
 generalize ((m+1:Nat):Rat)=M at *
 grind
theorem pv_app (c r:Rat):∀l:List Rat,pvQ (l++[c]) r=pvQ l r+c*r ^ l.length
 | []=>by simp [pvQ];grind
 | a :: l=>by
  simp only [List.cons_append,pvQ,pv_app c r l,List.length_cons,Rat.pow_succ]
  grind
theorem mp_pv (n:Nat) (p:V) (r:Rat):mpQ n p r=pvQ (crd n p++[1]) r:=by
 rw [pv_app,zsz,ziT,Rat.one_mul];rfl
section
variable {n:Nat} {p:V} (N:Nest n p)
def Nest.inI (k:Nat) (r:Rat):Prop:=N.a k≤r∧r≤N.b k
theorem Nest.inI_mono {k j:Nat} (h:k≤j) {r:Rat} (hr:N.inI j r):N.inI k r:=by
 have ⟨h1,h2⟩:=N.mono h
 exact ⟨Rat.le_trans h1 hr.1,Rat.le_trans hr.2 h2⟩
theorem Nest.inA (k:Nat):N.inI k (N.a k):=⟨Rat.le_refl,N.le k⟩
theorem Nest.inB (k:Nat):N.inI k (N.b k):=⟨N.le k,Rat.le_refl⟩
theorem Nest.bd:∃B,∀k r,N.inI k r→Bt B r:=by
 obtain ⟨B1,h1⟩:=Bt.self (N.a 0)
 obtain ⟨B2,h2⟩:=Bt.self (N.b 0)
 refine ⟨B1+B2,fun k r hr=>?_⟩
 have ⟨h3,h4⟩:=N.inI_mono (Nat.zero_le k) hr
 have:=h1.1;have:=h1.2;have:=h2.1;have:=h2.2;have:=h1.nn;have:=h2.nn
 exact ⟨by grind,by grind⟩
theorem Nest.dist {k:Nat} {r s:Rat} (hr:N.inI k r) (hs:N.inI k s):Bt (N.w k) (r-s):=by
 have:=hr.1;have:=hr.2;have:=hs.1;have:=hs.2
 unfold Nest.w
 exact ⟨by grind,by grind⟩
theorem Nest.p_small:∃L,0≤L∧∀k r,N.inI k r→Bt (L*N.w k) (mpQ n p r):=by
 obtain ⟨B,hB⟩:=N.bd
 obtain ⟨L,hL0,hL⟩:=pv_lip B (crd n p++[1])
 refine ⟨L,hL0,fun k r hr=>?_⟩
 have ka:=hL r (N.a k) (N.w k) (hB k r hr) (hB k _ (N.inA k)) (N.dist hr (N.inA k))
 have kb:=hL r (N.b k) (N.w k) (hB k r hr) (hB k _ (N.inB k)) (N.dist hr (N.inB k))
 rw [← mp_pv,← mp_pv] at ka kb
 have hs:=N.sg k
 have:=ka.1;have:=ka.2;have:=kb.1;have:=kb.2
 generalize mpQ n p (N.a k)=A at *
 generalize mpQ n p (N.b k)=C at *
 generalize mpQ n p r=R at *
 have cs : (A≤0∧0≤C)∨(0≤A∧C≤0):=by
  by_cases h1:A≤0
  ·by_cases h2:0≤C
   ·exact .inl ⟨h1,h2⟩
   ·by_cases h3:A=0
    ·exact .inr ⟨by grind,by grind⟩
    ·have:=Rat.mul_pos (show 0 < -A by grind) (show 0 < -C by grind)
     grind
  ·by_cases h2:C≤0
   ·exact .inr ⟨by grind,h2⟩
   ·have:=Rat.mul_pos (show 0<A by grind) (show 0<C by grind)
    grind
 rcases cs with ⟨h1,h2⟩ | ⟨h1,h2⟩
 ·exact ⟨by grind,by grind⟩
 ·exact ⟨by grind,by grind⟩
theorem at_e0 (h1:1≤n) (r:Rat):atQ n e0 r=1:=by
 obtain ⟨m,rfl⟩:∃m,n=m+1:=⟨n-1,by omega⟩
 unfold atQ
 rw [zsp]
 have:(sN m fun j=>e0 (j+1)*r ^ (j+1))=0:=by
  rw [zcF m (g:=fun _=>0) fun j _=>by show(if j+1=0 then(1:Rat) else 0)*_=0;rw [if_neg (by omega),Rat.zero_mul]]
  induction m with
  | zero=>rfl
  | succ m ih=>unfold sN;rw [ih (by omega)];exact Rat.zero_add 0
 rw [this]
 show(if 0=0 then(1:Rat) else 0)*r ^ 0+0=1
 rw [if_pos rfl,Rat.pow_zero];grind
theorem Nest.away (h1:1≤n) {x y:V} (hxy:mul n p y x=e0):∃d K,0<d∧∀k r,K≤k→N.inI k r→d≤atQ n x r∨atQ n x r≤-d:=by
 obtain ⟨B,hB⟩:=N.bd
 obtain ⟨L,hL0,hL⟩:=N.p_small
 obtain ⟨Q,hQ⟩:=at_mul (p:=p) h1 y x
 obtain ⟨C,hC0,hC⟩:=zsZ B (crd n y)
 obtain ⟨D,hD0,hD⟩:=zsZ B Q
 have hm:=Rat.mul_nonneg hD0 hL0
 have hpos:0<2*(D*L)+1:=by grind
 obtain ⟨K,hK⟩:=N.small ((2*(D*L)+1)⁻¹) (Rat.inv_pos.2 hpos)
 have hc2:0<2*(C+1):=by grind
 refine ⟨(2*(C+1))⁻¹,K,Rat.inv_pos.2 hc2,fun k r hk hr=>?_⟩
 have hw:=hK k hk
 have hw0:=N.w0 k
 have e:=hQ r
 rw [hxy,at_e0 h1] at e
 have q:=(hD r (hB k r hr)).mul (hL k r hr)
 have yb:=hC r (hB k r hr)
 rw [zsz] at yb
 have i1:=Rat.mul_inv_cancel _ (show 2*(D*L)+1≠0 by grind)
 have i2:=Rat.mul_inv_cancel _ (show 2*(C+1)≠0 by grind)
 have ip:=Rat.inv_pos.2 hc2
 generalize (2*(D*L)+1)⁻¹=u at *
 generalize (2*(C+1))⁻¹=v at *
 generalize N.w k=w at *
 have hh:2*(D*(L*w))≤1:=by
  have m1:=Rat.mul_nonneg (show 0≤2*(D*L)+1 by grind) (show 0≤u-w by grind)
  grind
 apply Classical.byContradiction
 intro hc
 have hx:Bt v (atQ n x r):=⟨by grind,by grind⟩
 have m2:=yb.mul hx
 have:=m2.2;have:=q.1;have:=q.2
 generalize atQ n y r*atQ n x r=z at *
 generalize pvQ Q r*mpQ n p r=s at *
 have m3:2*(C*v)+2*v=1:=by grind
 grind
theorem Nest.sign (h1:1≤n) {x y:V} (hxy:mul n p y x=e0):∃d K,0<d∧((∀k r,K≤k→N.inI k r→d≤atQ n x r)∨(∀k r,K≤k→N.inI k r→atQ n x r≤-d)):=by
 obtain ⟨d,K1,hd,h⟩:=N.away h1 hxy
 obtain ⟨B,hB⟩:=N.bd
 obtain ⟨L,hL0,hL⟩:=pv_lip B (crd n x)
 have hp:0<L+1:=by grind
 obtain ⟨K2,hK⟩:=N.small (d*(L+1)⁻¹) (Rat.mul_pos hd (Rat.inv_pos.2 hp))
 refine ⟨d,K1+K2,hd,?_⟩
 have key:∀k r,K1+K2≤k→N.inI k r→Bt d (atQ n x r-atQ n x (N.a (K1+K2))):=fun k r hk hr=>by
  have hr':=N.inI_mono hk hr
  have l:=hL r (N.a (K1+K2)) _ (hB _ _ hr') (hB _ _ (N.inA _)) (N.dist hr' (N.inA _))
  rw [zsz,zsz] at l
  refine l.mono ?_
  have hw:=hK (K1+K2) (by omega)
  have hw0:=N.w0 (K1+K2)
  have i1:=Rat.mul_inv_cancel _ (show L+1≠0 by grind)
  generalize (L+1)⁻¹=u at *
  generalize N.w (K1+K2)=w at *
  have m1:=Rat.mul_nonneg (show 0≤L+1 by grind) (show 0≤d*u-w by grind)
  have i3:(L+1)*(d*u)=d:=by
   have i4:d*((L+1)*u)=d*1:=by rw [i1]
   grind
  grind
 rcases h (K1+K2) _ (by omega) (N.inA _) with h0 | h0
 ·refine .inl fun k r hk hr=>?_
  rcases h k r (by omega) hr with h2 | h2
  ·exact h2
  ·have:=(key k r hk hr).1;have:=(key k r hk hr).2;grind
 ·refine .inr fun k r hk hr=>?_
  rcases h k r (by omega) hr with h2 | h2
  ·have:=(key k r hk hr).1;have:=(key k r hk hr).2;grind
  ·exact h2
end
section
variable {n:Nat} {p:V} (N:Nest n p)
def Nest.Pos (x:V):Prop:=∃d K,0<d∧∀k r,K≤k→N.inI k r→d≤atQ n x r
theorem Nest.pos_mul (h1:1≤n) {x y:V} (hx:N.Pos x) (hy:N.Pos y):N.Pos (mul n p x y):=by
 obtain ⟨d,K,hd,h⟩:=hx
 obtain ⟨e,J,he,k⟩:=hy
 obtain ⟨B,hB⟩:=N.bd
 obtain ⟨L,hL0,hL⟩:=N.p_small
 obtain ⟨Q,hQ⟩:=at_mul (p:=p) h1 x y
 obtain ⟨D,hD0,hD⟩:=zsZ B Q
 have hm:=Rat.mul_nonneg hD0 hL0
 have hpos:0<2*(D*L)+1:=by grind
 have hde:=Rat.mul_pos hd he
 obtain ⟨M,hM⟩:=N.small (d*e*(2*(D*L)+1)⁻¹) (Rat.mul_pos hde (Rat.inv_pos.2 hpos))
 refine ⟨d*e*(1 / 2),K+J+M,Rat.mul_pos hde (by decide +kernel),fun i r hi hr=>?_⟩
 have a1:=h i r (by omega) hr
 have a2:=k i r (by omega) hr
 have hw:=hM i (by omega)
 have hw0:=N.w0 i
 have q:=(hD r (hB i r hr)).mul (hL i r hr)
 have i1:=Rat.mul_inv_cancel _ (show 2*(D*L)+1≠0 by grind)
 rw [hQ r]
 generalize (2*(D*L)+1)⁻¹=u at *
 generalize N.w i=w at *
 have hh:2*(D*(L*w))≤d*e:=by
  have m1:=Rat.mul_nonneg (show 0≤2*(D*L)+1 by grind) (show 0≤d*e*u-w by grind)
  have i4:d*e*((2*(D*L)+1)*u)=d*e*1:=by rw [i1]
  grind
 have m2:=Rat.mul_nonneg (show 0≤atQ n x r-d by grind) (show 0≤atQ n y r-e by grind)
 have m3:=Rat.mul_nonneg (Rat.le_of_lt hd) (show 0≤atQ n y r-e by grind)
 have m4:=Rat.mul_nonneg (Rat.le_of_lt he) (show 0≤atQ n x r-d by grind)
 have:=q.1;have:=q.2
 generalize atQ n x r=X at *
 generalize atQ n y r=Y at *
 generalize pvQ Q r*mpQ n p r=s at *
 grind
theorem Nest.pos_not {x:V} (hx:N.Pos x) (hy:N.Pos (sm (-1) x)):False:=by
 obtain ⟨d,K,hd,h⟩:=hx
 obtain ⟨e,J,he,k⟩:=hy
 have a1:=h (K+J) _ (by omega) (N.inA _)
 have a2:=k (K+J) _ (by omega) (N.inA _)
 rw [zsv] at a2
 grind
theorem Nest.pos_zero:¬N.Pos zero:=fun ⟨d,K,hd,h⟩=>by
 have a1:=h K _ (Nat.le_refl _) (N.inA _)
 have:atQ n zero (N.a K)=0:=by
  have:=zsv (n:=n) 0 zero (N.a K)
  rw [zak] at this
  rw [this,Rat.zero_mul]
 grind
theorem Nest.pos_or (h1:1≤n) {x y:V} (hxy:mul n p y x=e0):N.Pos x∨N.Pos (sm (-1) x):=by
 obtain ⟨d,K,hd,h | h⟩:=N.sign h1 hxy
 ·exact .inl ⟨d,K,hd,h⟩
 ·refine .inr ⟨d,K,hd,fun k r hk hr=>?_⟩
  have:=h k r hk hr
  rw [zsv];grind
open Classical in
noncomputable def Nest.sgn (x:V):Int:=if N.Pos x then 1 else if N.Pos (sm (-1) x) then -1 else 0
theorem Nest.sgn_pos {x:V} (h:N.Pos x):N.sgn x=1:=if_pos h
theorem Nest.sgn_neg {x:V} (h:N.Pos (sm (-1) x)):N.sgn x = -1:=by
 unfold Nest.sgn
 rw [if_neg fun k=>N.pos_not k h,if_pos h]
theorem sm_m1 (x:V):sm (-1) (sm (-1) x)=x:=by
 rw [zb3,show(-1:Rat) * -1=1 by grind,zf8]
theorem Nest.sgn_zero:N.sgn zero=0:=by
 unfold Nest.sgn
 rw [if_neg N.pos_zero,zb4,if_neg N.pos_zero]
theorem Nest.sgn_sm (x:V):N.sgn (sm (-1) x) = -N.sgn x:=by
 unfold Nest.sgn
 rw [sm_m1]
 by_cases h:N.Pos x
 ·rw [if_pos h,if_pos h,if_neg fun k=>N.pos_not h k]
 ·rw [if_neg h,if_neg h]
  split<;>rfl
end
def mn2 (x y:Rat):Rat:=if x≤y then x else y
def mx2 (x y:Rat):Rat:=if x≤y then y else x
def mn4 (x y z w:Rat):Rat:=mn2 (mn2 (mn2 x y) z) w
def mx4 (x y z w:Rat):Rat:=mx2 (mx2 (mx2 x y) z) w
theorem mn2_or (x y:Rat):(mn2 x y=x∨mn2 x y=y)∧mn2 x y≤x∧mn2 x y≤y:=by unfold mn2;split<;>grind
theorem mx2_or (x y:Rat):(mx2 x y=x∨mx2 x y=y)∧x≤mx2 x y∧y≤mx2 x y:=by unfold mx2;split<;>grind
theorem zsR (x y z w:Rat):(mn4 x y z w=x∨mn4 x y z w=y∨mn4 x y z w=z∨mn4 x y z w=w)∧mn4 x y z w≤x∧mn4 x y z w≤y∧mn4 x y z w≤z∧mn4 x y z w≤w:=by
 have h1:=mn2_or x y;have h2:=mn2_or (mn2 x y) z;have h3:=mn2_or (mn2 (mn2 x y) z) w
 unfold mn4;grind
theorem zsS (x y z w:Rat):(mx4 x y z w=x∨mx4 x y z w=y∨mx4 x y z w=z∨mx4 x y z w=w)∧x≤mx4 x y z w∧y≤mx4 x y z w∧z≤mx4 x y z w∧w≤mx4 x y z w:=by
 have h1:=mx2_or x y;have h2:=mx2_or (mx2 x y) z;have h3:=mx2_or (mx2 (mx2 x y) z) w
 unfold mx4;grind
def enc:List Rat→Rat→Rat→Rat × Rat
 | [],_,_=>(0,0)
 | c :: l,lo,hi=>(mn4 ((enc l lo hi).1*lo) ((enc l lo hi).1*hi) ((enc l lo hi).2*lo) ((enc l lo hi).2*hi)+c,mx4 ((enc l lo hi).1*lo) ((enc l lo hi).1*hi) ((enc l lo hi).2*lo) ((enc l lo hi).2*hi)+c)
theorem mul_in {a b v lo hi r m M:Rat} (h1:a≤v) (h2:v≤b) (h3:lo≤r) (h4:r≤hi) (m1:m≤a*lo) (m2:m≤a*hi) (m3:m≤b*lo) (m4:m≤b*hi) (M1:a*lo≤M) (M2:a*hi≤M) (M3:b*lo≤M) (M4:b*hi≤M):m≤r*v∧r*v≤M:=by
 have ends:∀x,m≤x*lo→m≤x*hi→x*lo≤M→x*hi≤M→m≤x*r∧x*r≤M:=by
  intro x a1 a2 a3 a4
  by_cases hx:0≤x
  ·have k1:=Rat.mul_nonneg hx (show 0≤r-lo by grind)
   have k2:=Rat.mul_nonneg hx (show 0≤hi-r by grind)
   exact ⟨by grind,by grind⟩
  ·have k1:=Rat.mul_nonneg (show 0≤-x by grind) (show 0≤r-lo by grind)
   have k2:=Rat.mul_nonneg (show 0≤-x by grind) (show 0≤hi-r by grind)
   exact ⟨by grind,by grind⟩
 have ⟨e1,e2⟩:=ends a m1 m2 M1 M2
 have ⟨e3,e4⟩:=ends b m3 m4 M3 M4
 by_cases hr:0≤r
 ·have k1:=Rat.mul_nonneg hr (show 0≤v-a by grind)
  have k2:=Rat.mul_nonneg hr (show 0≤b-v by grind)
  exact ⟨by grind,by grind⟩
 ·have k1:=Rat.mul_nonneg (show 0≤-r by grind) (show 0≤v-a by grind)
  have k2:=Rat.mul_nonneg (show 0≤-r by grind) (show 0≤b-v by grind)
  exact ⟨by grind,by grind⟩
theorem enc_in {lo hi r:Rat} (h1:lo≤r) (h2:r≤hi):∀l:List Rat,(enc l lo hi).1≤pvQ l r∧pvQ l r≤(enc l lo hi).2
 | []=>⟨Rat.le_refl,Rat.le_refl⟩
 | c :: l=>by
  have ⟨i1,i2⟩:=enc_in h1 h2 l
  have hm:=zsR ((enc l lo hi).1*lo) ((enc l lo hi).1*hi) ((enc l lo hi).2*lo) ((enc l lo hi).2*hi)
  have hM:=zsS ((enc l lo hi).1*lo) ((enc l lo hi).1*hi) ((enc l lo hi).2*lo) ((enc l lo hi).2*hi)
  have ⟨k1,k2⟩:=mul_in i1 i2 h1 h2 hm.2.1 hm.2.2.1 hm.2.2.2.1 hm.2.2.2.2 hM.2.1 hM.2.2.1 hM.2.2.2.1 hM.2.2.2.2
  show mn4 _ _ _ _+c≤c+r*pvQ l r∧c+r*pvQ l r≤mx4 _ _ _ _+c
  exact ⟨by grind,by grind⟩
def eB (M B:Rat):Nat→Rat
 | 0=>0
 | k+1=>eB M B k*B+M
def eW (M B:Rat):Nat→Rat
 | 0=>0
 | k+1=>B*eW M B k+eB M B k
section
variable {M B lo hi:Rat}
theorem eB0 (hM:0≤M) (hB:0≤B):∀k,0≤eB M B k
 | 0=>Rat.le_refl
 | k+1=>by have:=Rat.mul_nonneg (eB0 hM hB k) hB;unfold eB;grind
theorem eW0 (hM:0≤M) (hB:0≤B):∀k,0≤eW M B k
 | 0=>Rat.le_refl
 | k+1=>by have:=Rat.mul_nonneg hB (eW0 hM hB k);have:=eB0 hM hB k;unfold eW;grind
theorem enc_bd (h1:Bt B lo) (h2:Bt B hi):∀l:List Rat,(∀c∈l,Bt M c)→Bt (eB M B l.length) (enc l lo hi).1∧Bt (eB M B l.length) (enc l lo hi).2
 | [],_=>⟨⟨by simp [enc,eB],by simp [enc,eB]⟩,⟨by simp [enc,eB],by simp [enc,eB]⟩⟩
 | c :: l,h=>by
  have hD:=h c List.mem_cons_self
  have ⟨i1,i2⟩:=enc_bd h1 h2 l fun x hx=>h x (List.mem_cons_of_mem _ hx)
  have hm:=zsR ((enc l lo hi).1*lo) ((enc l lo hi).1*hi) ((enc l lo hi).2*lo) ((enc l lo hi).2*hi)
  have hM:=zsS ((enc l lo hi).1*lo) ((enc l lo hi).1*hi) ((enc l lo hi).2*lo) ((enc l lo hi).2*hi)
  have a1:=i1.mul h1;have a2:=i1.mul h2;have a3:=i2.mul h1;have a4:=i2.mul h2
  refine ⟨Bt.add ?_ hD,Bt.add ?_ hD⟩
  ·rcases hm.1 with e | e | e | e<;>rw [e]<;>assumption
  ·rcases hM.1 with e | e | e | e<;>rw [e]<;>assumption
theorem enc_w (h1:Bt B lo) (h2:Bt B hi) (hle:lo≤hi) (hM0:0≤M):∀l:List Rat,(∀c∈l,Bt M c)→(enc l lo hi).2-(enc l lo hi).1≤eW M B l.length*(hi-lo)
 | [],_=>by simp [enc,eW];grind
 | c :: l,h=>by
  have hB:=h1.nn
  have hl:∀x∈l,Bt M x:=fun x hx=>h x (List.mem_cons_of_mem _ hx)
  have ⟨i1,i2⟩:=enc_bd h1 h2 l hl
  have iw:=enc_w h1 h2 hle hM0 l hl
  have hin:=enc_in (r:=lo) Rat.le_refl hle l
  have hm:=zsR ((enc l lo hi).1*lo) ((enc l lo hi).1*hi) ((enc l lo hi).2*lo) ((enc l lo hi).2*hi)
  have hM:=zsS ((enc l lo hi).1*lo) ((enc l lo hi).1*hi) ((enc l lo hi).2*lo) ((enc l lo hi).2*hi)
  have hC0:=eB0 hM0 hB l.length
  show mx4 _ _ _ _+c-(mn4 _ _ _ _+c)≤(B*eW M B l.length+eB M B l.length)*(hi-lo)
  generalize (enc l lo hi).1=a at *
  generalize (enc l lo hi).2=b at *
  generalize eW M B l.length=W at *
  generalize eB M B l.length=C at *
  have hab:a≤b:=Rat.le_trans hin.1 hin.2
  have wd:Bt (W*(hi-lo)) (b-a):=⟨by grind,iw⟩
  have dd:Bt (hi-lo) (hi-lo):=⟨by grind,Rat.le_refl⟩
  have ca:=i1.mul dd
  have cb:=i2.mul dd
  have ba:=wd.mul h1
  have bh:=wd.mul h2
  have:=ca.1;have:=ca.2;have:=cb.1;have:=cb.2;have:=ba.1;have:=ba.2;have:=bh.1;have:=bh.2
  have p1:=Rat.mul_nonneg hC0 (show 0≤hi-lo by grind)
  have p2:=Rat.mul_nonneg hB (show 0≤W*(hi-lo) from wd.nn)
  rcases hm.1 with e | e | e | e<;>rcases hM.1 with f | f | f | f<;>rw [e,f]<;>grind
end
section
variable {n:Nat} {p:V} (N:Nest n p)
def Nest.en (x:V) (k:Nat):Rat × Rat:=enc (crd n x) (N.a k) (N.b k)
theorem Nest.en_in (x:V) {k:Nat} {r:Rat} (hr:N.inI k r):(N.en x k).1≤atQ n x r∧atQ n x r≤(N.en x k).2:=by
 have:=enc_in hr.1 hr.2 (crd n x)
 rw [zsz] at this
 exact this
theorem Nest.en_sgn1 (h1:1≤n) {x y:V} (hxy:mul n p y x=e0) {k:Nat} (h:0<(N.en x k).1):N.sgn x=1:=by
 rcases N.pos_or h1 hxy with hp | hp
 ·exact N.sgn_pos hp
 ·obtain ⟨d,K,hd,hq⟩:=hp
  have k1:=hq (k+K) _ (by omega) (N.inA _)
  have k2:=(N.en_in x (N.inI_mono (Nat.le_add_right k K) (N.inA (k+K)))).1
  rw [zsv] at k1
  grind
theorem Nest.en_sgn2 (h1:1≤n) {x y:V} (hxy:mul n p y x=e0) {k:Nat} (h:(N.en x k).2<0):N.sgn x = -1:=by
 rcases N.pos_or h1 hxy with hp | hp
 ·obtain ⟨d,K,hd,hq⟩:=hp
  have k1:=hq (k+K) _ (by omega) (N.inA _)
  have k2:=(N.en_in x (N.inI_mono (Nat.le_add_right k K) (N.inA (k+K)))).2
  grind
 ·exact N.sgn_neg hp
theorem Nest.far (h1:1≤n) {x y:V} {D:Rat} (hxy:mul n p y x=sm D e0) (hD:1≤D∨D≤-1) {C:Rat} (hC0:0<C) (hC:∀k r,N.inI k r→Bt C (atQ n y r)) (k:Nat):∃r,N.inI k r∧(1≤2*C*atQ n x r∨2*C*atQ n x r≤-1):=by
 obtain ⟨B,hB⟩:=N.bd
 obtain ⟨L,hL0,hL⟩:=N.p_small
 obtain ⟨Q,hQ⟩:=at_mul (p:=p) h1 y x
 obtain ⟨E,hE0,hE⟩:=zsZ B Q
 have hm:=Rat.mul_nonneg hE0 hL0
 have hpos:0<4*(E*L)+1:=by grind
 obtain ⟨K,hK⟩:=N.small ((4*(E*L)+1)⁻¹) (Rat.inv_pos.2 hpos)
 have hr:=N.inA (k+K)
 refine ⟨N.a (k+K),N.inI_mono (by omega) hr,?_⟩
 have hw:=hK (k+K) (by omega)
 have hw0:=N.w0 (k+K)
 have e:=hQ (N.a (k+K))
 rw [hxy,zsv,at_e0 h1,Rat.mul_one] at e
 have q:=(hE _ (hB _ _ hr)).mul (hL _ _ hr)
 have yb:=hC _ _ hr
 have i1:=Rat.mul_inv_cancel _ (show 4*(E*L)+1≠0 by grind)
 have c2:0<2*C:=by grind
 have i2:=Rat.mul_inv_cancel (2*C) (by grind)
 generalize (4*(E*L)+1)⁻¹=u at *
 generalize hv:(2*C)⁻¹=v at *
 have hv0:0<v:=by rw [← hv];exact Rat.inv_pos.2 c2
 generalize N.w (k+K)=w at *
 have hh:4*(E*(L*w))≤1:=by
  have m1:=Rat.mul_nonneg (show 0≤4*(E*L)+1 by grind) (show 0≤u-w by grind)
  grind
 apply Classical.byContradiction
 intro hc
 generalize atQ n x (N.a (k+K))=X at *
 have hx:Bt v X:=by
  constructor
  ·apply Classical.byContradiction;intro hn
   have:=Rat.mul_pos c2 (show 0 < -v-X by grind)
   grind
  ·apply Classical.byContradiction;intro hn
   have:=Rat.mul_pos c2 (show 0<X-v by grind)
   grind
 have m2:=yb.mul hx
 have:=m2.1;have:=m2.2;have:=q.1;have:=q.2
 generalize atQ n y (N.a (k+K))*X=z at *
 generalize pvQ Q (N.a (k+K))*mpQ n p (N.a (k+K))=s at *
 rcases hD with h | h<;>grind
theorem Nest.w2 (k:Nat):2 ^ k*N.w k=N.w 0:=by
 induction k with
 | zero=>rw [Rat.pow_zero,Rat.one_mul]
 | succ k ih=>
  have h:2*N.w (k+1)=N.w k:=N.hv k
  rw [Rat.pow_succ,← ih,← h];grind
theorem Nest.tells (h1:1≤n) {x y:V} {D:Rat} (hxy:mul n p y x=sm D e0) (hD:1≤D∨D≤-1) {C M B:Rat} (hC0:0<C) (hC:∀k r,N.inI k r→Bt C (atQ n y r)) (hB:∀k r,N.inI k r→Bt B r) (hM:0≤M) (hx:∀i,i<n→Bt M (x i)) {k:Nat} (hk:2*C*(eW M B n*N.w 0)<2 ^ k):0<(N.en x k).1∨(N.en x k).2<0:=by
 obtain ⟨r,hr,hf⟩:=N.far h1 hxy hD hC0 hC k
 have ⟨e1,e2⟩:=N.en_in x hr
 have hw:=enc_w (hB k _ (N.inA k)) (hB k _ (N.inB k)) (N.le k) hM (crd n x) fun c hc=>by
  obtain ⟨i,hi,rfl⟩:=List.mem_map.1 hc
  exact hx i (List.mem_range.1 hi)
 rw [ziT] at hw
 have hw2:=N.w2 k
 have hp:(0:Rat)<2 ^ k:=Rat.pow_pos (by decide)
 change (N.en x k).2-(N.en x k).1≤eW M B n*N.w k at hw
 apply Classical.byContradiction
 intro hn
 generalize (N.en x k).1=a at *
 generalize (N.en x k).2=b at *
 generalize atQ n x r=X at *
 generalize eW M B n=W at *
 generalize N.w k=w at *
 rw [← hw2] at hk
 generalize (2:Rat) ^ k=P at *
 have h3:1≤2*C*(b-a):=by
  have m1:=Rat.mul_nonneg (Rat.le_of_lt hC0) (show 0≤b-X by grind)
  have m2:=Rat.mul_nonneg (Rat.le_of_lt hC0) (show 0≤X-a by grind)
  have m3:=Rat.mul_nonneg (Rat.le_of_lt hC0) (show 0≤-a by grind)
  have m4:=Rat.mul_nonneg (Rat.le_of_lt hC0) (show 0≤b by grind)
  rcases hf with h | h<;>grind
 have h4:=Rat.mul_nonneg (Rat.le_of_lt hC0) (show 0≤W*w-(b-a) by grind)
 have h5:=Rat.mul_nonneg (Rat.le_of_lt hp) (show 0≤2*C*(W*w)-1 by grind)
 grind
end
end Go.Kf
end
section
open Go Go.Ev Go.RowKit
namespace Go.Proofs.YtagbldogmjhdpaaGreatDoor
open Go.Proofs
set_option maxRecDepth 100000
set_option maxHeartbeats 1000000
set_option linter.unusedVariables false
set_option linter.unusedSimpArgs false
noncomputable section
end
open Go.Kf
open Go.Kf.V
section
variable {m:Nat} {g:V}
def cV (m:Nat) (g:V) (r:List Int):Nat→V
 | 0=>zero
 | k+1=>add (cV m g r k) (sm ((r.getD k 0:Int):Rat) (Tn m g k e0))
theorem cV_ev (l:List Int):∀k,k≤l.length→cV m g l k=ev m g (qL (l.take k))
 | 0,_=>rfl
 | k+1,h=>by
  have hk:k<l.length:=by omega
  unfold cV
  rw [cV_ev l k (by omega),List.take_succ_eq_append_getElem hk]
  have e:qL (l.take k++[l[k]])=qL (l.take k)++[((l[k]:Int):Rat)]:=List.map_append
  rw [e,zsJ,zbA,List.length_take,Nat.min_eq_left (by omega),List.getD_eq_getElem?_getD,List.getElem?_eq_getElem hk];rfl
theorem cV_low {r R:List Int} {sq:Int} {s:Nat} (h:∀i,i<s→R.getD i 0=r.getD i 0*sq):∀k,k≤s→cV m g R k=sm (sq:Rat) (cV m g r k)
 | 0,_=>(zb4 _).symm
 | k+1,hk=>by
  unfold cV
  rw [cV_low h k (by omega),h k (by omega),zh5,zb3,Rat.intCast_mul,Rat.mul_comm]
theorem cV_ag {q r R:List Int} {sq first:Int} {s:Nat}:∀k,(∀i,i<s+k→R.getD i 0=agC q sq first s i (r.getD i 0)) →
 cV m g R (s+k)=add (sm (sq:Rat) (cV m g r (s+k))) (sm (-(first:Rat)) (Tn m g s (cV m g q k)))
 | 0, h=>by
  have hz:Tn m g s zero=zero:=by
   have:=zsU (n:=m) (p:=g) s 0 zero
   rwa [zak,zak] at this
  show cV m g R s=add (sm (sq:Rat) (cV m g r s)) (sm (-(first:Rat)) (Tn m g s zero))
  rw [hz,zb4,za1]
  exact cV_low (fun i hi=>by rw [h i (by omega)];exact if_neg (by omega)) s (Nat.le_refl _)
 | k + 1,h=>by
  have hc:=h (s+k) (by omega)
  have e1:agC q sq first s (s+k) (r.getD (s+k) 0)=r.getD (s+k) 0*sq + -(first*q.getD k 0):=by
   unfold agC;rw [if_pos (by omega),Nat.add_sub_cancel_left]
  show add (cV m g R (s+k)) (sm ((R.getD (s+k) 0:Int):Rat) (Tn m g (s+k) e0))=add (sm (sq:Rat) (add (cV m g r (s+k)) (sm ((r.getD (s+k) 0:Int):Rat) (Tn m g (s+k) e0)))) (sm (-(first:Rat)) (Tn m g s (add (cV m g q k) (sm ((q.getD k 0:Int):Rat) (Tn m g k e0)))))
  rw [cV_ag k fun i hi=>h i (by omega),hc,e1,Tn_add,zsU,Tn_Tn]
  generalize Tn m g (s+k) e0=E
  generalize cV m g r (s+k)=A
  generalize Tn m g s (cV m g q k)=B
  rw [Rat.intCast_add,zrm,Rat.intCast_mul]
  funext i
  show(sq:Rat)*A i + -(first:Rat)*B i+((r.getD (s+k) 0:Int)*(sq:Rat) + -(first:Rat)*(q.getD k 0:Int))*E i=(sq:Rat)*(A i+(r.getD (s+k) 0:Int)*E i) + -(first:Rat)*(B i+(q.getD k 0:Int)*E i)
  grind
theorem cV_cut (r:List Int):∀n,cV m g r (cutN r n)=cV m g r n
 | 0=>rfl
 | n + 1=>by
  unfold cutN
  split
  ·rename_i h
   rw [cV_cut r n]
   show _=add (cV m g r n) (sm ((r.getD n 0:Int):Rat) (Tn m g n e0))
   rw [h]
   show _=add (cV m g r n) (sm 0 (Tn m g n e0))
   rw [zak,za1]
  ·rfl
theorem agN_z {q:List Int} (hq:cV m g q q.length=zero) (ht:q.getD (q.length-1) 0≠0):∀(k n:Nat) (r:List Int),n≤r.length→cV m g (agN q k n r).2 (agN q k n r).1=zero→cV m g r n=zero
 | 0,n,r,_,h=>h
 | k + 1,n,r,hn,h=>by
  unfold agN at h
  by_cases hc:q.length≤n
  ·rw [if_pos hc] at h
   simp only at h
   generalize ht':q.getD (q.length-1) 0=t at *
   have hl:=zgU q (t*t) (r.getD (n-1) 0*t) (n-q.length) r n
   have hcl:=zg7 (agR q (t*t) (r.getD (n-1) 0*t) (n-q.length) r n) n
   have ih:=agN_z hq (by rw [ht'];exact ht) k _ _ (by omega) h
   rw [cV_cut] at ih
   have key:=cV_ag (m:=m) (g:=g) (q:=q) (r:=r) (R:=agR q (t*t) (r.getD (n-1) 0*t) (n-q.length) r n) (sq:=t*t) (first:=r.getD (n-1) 0*t) (s:=n-q.length) q.length fun i hi=>by rw [zgT _ _ _ _ _ _ _ hn,if_pos (by omega)]
   rw [show n-q.length+q.length=n by omega,ih,hq] at key
   have hz:Tn m g (n-q.length) zero=zero:=by
    have:=zsU (n:=m) (p:=g) (n-q.length) 0 zero
    rwa [zak,zak] at this
   rw [hz,zb4,za1] at key
   apply Classical.byContradiction
   intro hne
   have:=sm_ne hne key.symm
   have h0:t*t=0:=Rat.intCast_inj.1 this
   rcases Int.mul_eq_zero.1 h0 with e | e<;>exact ht e
  ·rw [if_neg hc] at h;exact h
theorem cutN_tp (r:List Int):∀n,cutN r n=0∨r.getD (cutN r n-1) 0≠0
 | 0=>.inl rfl
 | n+1=>by
  unfold cutN
  split
  ·exact cutN_tp r n
  ·rename_i h;exact .inr h
theorem zsF {q:List Int}:∀(k n:Nat) (r:List Int),n≤r.length→(n=0∨r.getD (n-1) 0≠0)→(agN q k n r).1≤(agN q k n r).2.length∧((agN q k n r).1=0∨(agN q k n r).2.getD ((agN q k n r).1-1) 0≠0)
 | 0,n,r,hn,h=>⟨hn,h⟩
 | k + 1,n,r,hn,h=>by
  unfold agN
  by_cases hc:q.length≤n
  ·rw [if_pos hc]
   simp only
   generalize q.getD (q.length-1) 0=t
   have hl:=zgU q (t*t) (r.getD (n-1) 0*t) (n-q.length) r n
   have hcl:=zg7 (agR q (t*t) (r.getD (n-1) 0*t) (n-q.length) r n) n
   exact zsF k _ _ (by omega) (cutN_tp _ _)
  ·rw [if_neg hc];exact ⟨hn,h⟩
end
def Tp (l:List Int):Prop:=l.getD (l.length-1) 0≠0
theorem zsT {n i:Nat} {l:List Int} (h:i<n):(l.take n).getD i 0=l.getD i 0:=by simp [List.getD,List.getElem?_take,h]
theorem agst_top {p q:List Int} (hp:Tp p) (hne:agst p q≠[]):Tp (agst p q):=by
 obtain ⟨h1,h2⟩:=zsF (q:=q) p.length p.length p (Nat.le_refl _) (.inr hp)
 have hl:(agst p q).length=(agN q p.length p.length p).1:=by unfold agst;rw [List.length_take,zfJ];omega
 have h0:1≤(agst p q).length:=List.length_pos_iff.2 hne
 unfold Tp
 rw [hl]
 rw [hl] at h0
 unfold agst
 rw [zsT (by omega),zjV _ _ _ h1,if_pos (by omega)]
 rcases h2 with h | h
 ·omega
 ·omega
theorem agst_z {m:Nat} {g:V} {p q:List Int} (hp:Tp p) (hq:Tp q) (zq:cV m g q q.length=zero) (za:cV m g (agst p q) (agst p q).length=zero):cV m g p p.length=zero:=by
 obtain ⟨h1,h2⟩:=zsF (q:=q) p.length p.length p (Nat.le_refl _) (.inr hp)
 have hl:(agst p q).length=(agN q p.length p.length p).1:=by unfold agst;rw [List.length_take,zfJ];omega
 refine agN_z zq hq p.length p.length p (Nat.le_refl _) ?_
 rw [hl] at za
 have e:=cV_low (m:=m) (g:=g) (r:=(agN q p.length p.length p).2) (R:=agst p q) (sq:=-1) (s:=(agN q p.length p.length p).1) (fun i hi=>by
  unfold agst
  rw [zsT hi,zjV _ _ _ h1,if_pos hi];omega) _ (Nat.le_refl _)
 rw [za] at e
 apply Classical.byContradiction
 intro hne
 have:=sm_ne hne e.symm
 exact absurd this (by decide)
def gl:Nat→List Int→List Int→List Int
 | 0,_,b=>b
 | k+1,a,b=>if agst a b=[] then b else gl k b (agst a b)
theorem chn_gl:∀(k:Nat) (a b:List Int),∃l,b :: chn k a b=l++[gl k a b]
 | 0,a,b=>⟨[],rfl⟩
 | k + 1,a,b=>by
  unfold chn gl
  by_cases h:agst a b=[]
  ·rw [if_pos h,if_pos h];exact ⟨[],rfl⟩
  ·rw [if_neg h,if_neg h]
   obtain ⟨l,e⟩:=chn_gl k b (agst a b)
   exact ⟨b :: l,by rw [e];rfl⟩
theorem PInv.lt {i:Nat} {a b:List Int} (h:PInv i a b):(agst a b).length<b.length:=by
 obtain ⟨i3,la,lb,b1,a0,sa,sb⟩:=h
 have hi:i=0∨i=1∨i=2∨i=3:=by omega
 have hm:bz i+a.length*(2*bz (i+1)+1)≤bz i+(5-i)*(2*bz (i+1)+1):=Nat.add_le_add_left (Nat.mul_le_mul_right _ la) _
 exact(zoK sa sb (Nat.le_trans hm (by rcases hi with rfl | rfl | rfl | rfl<;>decide)) (by rcases hi with rfl | rfl | rfl | rfl<;>decide) (by omega) b1).1
theorem gl_ok:∀(k i:Nat) (a b:List Int),PInv i a b→i+k=4→Tp a→Tp b→Tp (gl k a b)∧1≤(gl k a b).length∧(gl k a b).length≤b.length ∧
 ∀(m:Nat) (g:V),cV m g (gl k a b) (gl k a b).length=zero→cV m g b b.length=zero∧cV m g a a.length=zero
 | 0,i,a,b,h,hk,ha,hb=>by have:=h.i3;omega
 | k + 1,i,a,b,h,hk,ha,hb=>by
  have hlt:=h.lt
  unfold gl
  by_cases hne:agst a b=[]
  ·rw [if_pos hne]
   exact ⟨hb,h.b1,Nat.le_refl _,fun m g z=>⟨z,agst_z ha hb z (by rw [hne];rfl)⟩⟩
  ·rw [if_neg hne]
   obtain ⟨i2,hs⟩:=h.step hne
   obtain ⟨t,l1,l2,hz⟩:=gl_ok k (i+1) b (agst a b) hs (by omega) hb (agst_top ha hne)
   exact ⟨t,l1,by omega,fun m g z=>⟨(hz m g z).2,agst_z ha hb (hz m g z).2 (hz m g z).1⟩⟩
theorem own_z {l:List Int} (h2:2≤l.length) (ht:Tp l):cV (l.length-1) (fun i=>((l.getD i 0:Int):Rat)*((l.getD (l.length-1) 0:Int):Rat)⁻¹) l l.length=zero:=by
 obtain ⟨m,hm⟩:∃m,l.length=m+2:=⟨l.length-2,by omega⟩
 unfold Tp at ht
 rw [hm] at ht ⊢
 rw [show m+2-1=m+1 by omega] at ht ⊢
 generalize hG:(fun i=>((l.getD i 0:Int):Rat)*((l.getD (m+1) 0:Int):Rat)⁻¹)=G
 have hc:∀k,k≤m+1→cV (m+1) G l k=fun i=>if i<k then((l.getD i 0:Int):Rat) else 0:=by
  intro k
  induction k with
  | zero=>intro _;rfl
  | succ k ih=>
   intro hk
   show add (cV (m+1) G l k) (sm _ (Tn (m+1) G k e0))=_
   rw [ih (by omega),Tn_ei k (by omega)]
   funext i
   show(if i<k then((l.getD i 0:Int):Rat) else 0)+_*(if i=k then(1:Rat) else 0)=_
   by_cases h1:i<k
   ·rw [if_pos h1,if_neg (by omega),if_pos (by omega)];grind
   ·by_cases h3:i=k
    ·subst h3;rw [if_neg h1,if_pos rfl,if_pos (by omega)];grind
    ·rw [if_neg h1,if_neg h3,if_neg (by omega)];grind
 show add (cV (m+1) G l (m+1)) (sm _ (T (m+1) G (Tn (m+1) G m e0)))=zero
 rw [hc (m+1) (Nat.le_refl _),Tn_ei m (by omega)]
 have hi:=Rat.mul_inv_cancel ((l.getD (m+1) 0:Int):Rat) fun e=>ht (Rat.intCast_inj.1 e)
 funext i
 show(if i<m+1 then((l.getD i 0:Int):Rat) else 0)+((l.getD (m+1) 0:Int):Rat)*(if i<m+1 then(if i=0 then 0 else if i-1=m then(1:Rat) else 0)-(if m+1-1=m then(1:Rat) else 0)*G i else 0)=0
 by_cases h:i<m+1
 ·rw [if_pos h,if_pos h]
  have e:(if i=0 then 0 else if i-1=m then(1:Rat) else 0)=0:=by
   by_cases h0:i=0
   ·rw [if_pos h0]
   ·rw [if_neg h0,if_neg (by omega)]
  rw [e,if_pos (show m+1-1=m by omega),← hG]
  simp only
  generalize ((l.getD (m+1) 0:Int):Rat)=t at *
  generalize t⁻¹=u at *
  grind
 ·rw [if_neg h,if_neg h];grind
theorem ann_gl {q g:List Int} (h2:2≤q.length) (h4:q.length≤4) (hI:Irr (qL q++[1])) (hg2:2≤g.length) (hgl:g.length≤q.length) (ht:Tp g) {m:Nat} {G:V} (hA:Ann m G e0 (qL g)) (hP:Ann m G e0 (qL q++[1])):False:=by
 have h0:e0≠zero:=fun e=>by have:=congrFun e 0;revert this;decide
 have hR:=hI.1 (by rw [List.length_append,zbA,List.length_singleton];omega)
 have c:∀ {z:Int},((z:Int):Rat)=0→z=0:=fun h=>Rat.intCast_inj.1 h
 match q,h2,h4 with
 | [q0,q1],_,_=>
  match g,hg2,hgl with
  | [a,b],_,_=>exact ht (c (ann1 h0 hP hR hA).2)
 | [q0,q1,q2],_,_=>
  match g,hg2,hgl with
  | [a,b],_,_=>exact ht (c (ann1 h0 hP hR hA).2)
  | [a,b,d],_,_=>exact ht (c (ann2 h0 hP hR (deg3_2 h0 hP hR) hA).2.2)
 | [q0,q1,q2,q3],_,_=>
  have hD:=deg4_2 h0 hP hR (hI.2 _ _ _ _ rfl)
  match g,hg2,hgl with
  | [a,b],_,_=>exact ht (c (ann1 h0 hP hR hA).2)
  | [a,b,d],_,_=>exact ht (c (ann2 h0 hP hR hD hA).2.2)
  | [a,b,d,e],_,_=>exact ht (c (ann3 h0 hP hR hD (deg4_3 h0 hP hR hD) hA).2.2.2)
theorem ann_cV {m:Nat} {G:V} {l:List Int} (h:cV m G l l.length=zero):Ann m G e0 (qL l):=by
 rw [cV_ev l _ (Nat.le_refl _),List.take_length] at h
 exact h
theorem gl_const {q:List Int} (h2:2≤q.length) (h4:q.length≤4) (hI:Irr (qL q++[1])) (hp:zcx (q++[1])):∃c,c≠0∧gl 4 (q++[1]) (der (q++[1]))=[c]:=by
 have hl:(q++[1]).length=q.length+1:=by simp
 have ta:Tp (q++[1]):=by unfold Tp;rw [hl,Nat.add_sub_cancel,List.getD_eq_getElem?_getD,List.getElem?_append_right (Nat.le_refl _)];simp
 have ld:(der (q++[1])).length=q.length:=by rw [zd7,hl];rfl
 have tb:Tp (der (q++[1])):=by
  unfold Tp
  rw [ld,zsI (by omega),show q.length-1+1=q.length by omega]
  unfold Tp at ta
  rw [hl,Nat.add_sub_cancel] at ta
  intro e
  rcases Int.mul_eq_zero.1 e with e | e
  ·exact ta e
  ·omega
 obtain ⟨t,l1,l2,hz⟩:=gl_ok 4 0 _ _ (pinv0 hp) rfl ta tb
 generalize hG:gl 4 (q++[1]) (der (q++[1]))=G at *
 by_cases h:2≤G.length
 ·exfalso
  have z:=own_z h t
  have zp:=(hz _ _ z).2
  have e:qL (q++[1])=qL q++[1]:=List.map_append
  exact ann_gl h2 h4 hI h (by omega) t (ann_cV z) (e▸ann_cV zp)
 ·match G,l1,h with
  | [c],_,_=>exact ⟨c,t,rfl⟩
  | _ :: _ :: _,_,h=>simp at h
theorem zsq:∀(l:List Int) (n s:Int),s=1∨s = -1→((zbi l n s).2=1∨(zbi l n s).2 = -1)∧(((zbi l n s).1-n) % 2=0↔(zbi l n s).2=s)
 | [],n,s,h=>⟨h,by simp [zbi]⟩
 | v :: l,n,s,h=>by
  unfold zbi
  have a:=zsq l n s h
  have hs:=sgn3 v
  by_cases hz:v.sign=0
  ·rw [if_pos hz];exact a
  ·rw [if_neg hz]
   have hv:v.sign=1∨v.sign = -1:=by omega
   have b:=zsq l (n+1) v.sign hv
   have c:=zsq l n v.sign hv
   by_cases hc:s≠0∧v.sign≠s
   ·rw [if_pos hc]
    refine ⟨b.1,?_⟩
    have:=b.1
    have:=b.2
    omega
   ·rw [if_neg hc]
    refine ⟨c.1,?_⟩
    have:=c.2
    omega
theorem zsf (v:Int) (hv:v.sign≠0):∀(l:List Int) (n s:Int),(zbi (l++[v]) n s).2=v.sign
 | [],n,s=>by
  show(zbi [v] n s).2=_
  unfold zbi
  rw [if_neg hv]
  split<;>rfl
 | a :: l,n,s=>by
  show(zbi (a :: (l++[v])) n s).2=_
  unfold zbi
  split
  ·exact zsf v hv l n s
  ·split
   ·exact zsf v hv l _ _
   ·exact zsf v hv l _ _
theorem zsD (v:Int) (hv:v.sign≠0) (l:List Int):zbi (v :: l) 0 0=zbi l 0 v.sign:=by
 conv=>lhs;unfold zbi
 rw [if_neg hv,if_neg (by simp)]
theorem ev_c (c a d:Int):zaf [c] a d=c:=by simp [zaf,zlV]
theorem roots_sg {q:List Int} (h2:2≤q.length) (h4:q.length≤4) (hI:Irr (qL q++[1])) (hp:zcx (q++[1])) {a b d:Int} (h1:zcP (q++[1]) a b d=1) (na:zaf (q++[1]) a d≠0) (nb:zaf (q++[1]) b d≠0):(zaf (q++[1]) a d).sign≠(zaf (q++[1]) b d).sign:=by
 obtain ⟨c,hc,e⟩:=gl_const h2 h4 hI hp
 obtain ⟨l,el⟩:=chn_gl 4 (q++[1]) (der (q++[1]))
 rw [e] at el
 have key:∀x:Int,svZ (chZ (q++[1])) x d=zaf (q++[1]) x d :: (svZ l x d++[c]):=fun x=>by
  unfold chZ svZ
  rw [el,List.map_cons,List.map_append,List.map_singleton,ev_c]
 have ns:∀ {z:Int},z≠0→z.sign≠0:=fun h e=>h (Int.sign_eq_zero_iff_zero.1 e)
 unfold zcP at h1
 rw [key,key,zsD _ (ns na),zsD _ (ns nb)] at h1
 have s:∀ {z:Int},z≠0→z.sign=1∨z.sign = -1:=fun h=>by have:=sgn3 ‹Int›;have:=ns h;omega
 have pa:=zsq (svZ l a d++[c]) 0 (zaf (q++[1]) a d).sign (by have:=sgn3 (zaf (q++[1]) a d);have:=ns na;omega)
 have pb:=zsq (svZ l b d++[c]) 0 (zaf (q++[1]) b d).sign (by have:=sgn3 (zaf (q++[1]) b d);have:=ns nb;omega)
 have la:=zsf c (ns hc) (svZ l a d) 0 (zaf (q++[1]) a d).sign
 have lb:=zsf c (ns hc) (svZ l b d) 0 (zaf (q++[1]) b d).sign
 rw [la] at pa
 rw [lb] at pb
 intro he
 have:=pa.2
 have:=pb.2
 rw [← he] at this
 omega
theorem ev_pv (a b:Int) (hb:b≠0):∀l:List Int,((zlV a b l).1:Rat)*(b:Rat)=pvQ (qL l) ((a:Rat)*(b:Rat)⁻¹)*((zlV a b l).2:Rat)∧(zlV a b l).2≠0
 | []=>⟨by simp [zlV,qL,pvQ],show(1:Int)≠0 by decide⟩
 | c :: l=>by
  obtain ⟨ih,h0⟩:=ev_pv a b hb l
  refine ⟨?_,Int.mul_ne_zero h0 hb⟩
  have hi:=Rat.mul_inv_cancel (b:Rat) fun e=>hb (Rat.intCast_inj.1 e)
  show(((zlV a b l).1*a+c*(zlV a b l).2:Int):Rat)*b=((c:Rat)+(a:Rat)*(b:Rat)⁻¹*pvQ (qL l) ((a:Rat)*(b:Rat)⁻¹))*(((zlV a b l).2*b:Int):Rat)
  rw [Rat.intCast_add,Rat.intCast_mul,Rat.intCast_mul,Rat.intCast_mul]
  generalize pvQ (qL l) ((a:Rat)*(b:Rat)⁻¹)=P at *
  generalize ((zlV a b l).1:Rat)=A at *
  generalize ((zlV a b l).2:Rat)=W at *
  generalize (b:Rat)⁻¹=u at *
  grind
theorem ev_ne {q:List Int} (h2:2≤q.length) (hI:Irr (qL q++[1])) (a:Int) {d:Int} (hd:d≠0):zaf (q++[1]) a d≠0:=by
 intro h
 obtain ⟨e,h0⟩:=ev_pv a d hd (q++[1])
 unfold zaf at h
 rw [h] at e
 have hR:=hI.1 (by rw [List.length_append,zbA,List.length_singleton];omega) ((a:Rat)*(d:Rat)⁻¹)
 have e2:qL (q++[1])=qL q++[1]:=List.map_append
 rw [e2] at e
 have h3:((zlV a d (q++[1])).2:Rat)≠0:=fun e=>h0 (Rat.intCast_inj.1 e)
 have e3:pvQ (qL q++[1]) ((a:Rat)*(d:Rat)⁻¹)*((zlV a d (q++[1])).2:Rat)=0:=by
  rw [← e];show((0:Int):Rat)*_=0;exact Rat.zero_mul _
 rcases Rat.mul_eq_zero.1 e3 with k | k
 ·exact hR k
 ·exact h3 k
end Go.Proofs.YtagbldogmjhdpaaGreatDoor
end
