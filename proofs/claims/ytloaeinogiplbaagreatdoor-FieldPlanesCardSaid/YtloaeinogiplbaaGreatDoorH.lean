/- Part of a proof about a given program: see the last module of the claim. -/
import Derived.Test.YtloaeinogiplbaaGreatDoorG
import Derived.Test.YtloaeinogiplbaaGreatDoorD
section
open Go Go.Ev Go.RowKit
namespace Go.Proofs.YtloaeinogiplbaaGreatDoor
open Go.Proofs
set_option maxRecDepth 100000
set_option maxHeartbeats 1000000
set_option linter.unusedVariables false
set_option linter.unusedSimpArgs false
noncomputable section
abbrev zfu (s:St) (r:Ex × St):Prop:=Loops 2 Tryz.prog (pZ Tryz.prog 148 0) s r
abbrev zgP (a:List (List Int)) (b:List Int) (c:Nat) (d:List (List Int)):St:=⟨sp 72 [(1,.lst (EK.sl (.int .i64)) a),(5,.sq b),(6,.own 1 0 c 1)],[.dead,.lst (EK.sl (.int .i64)) d true],[1,0]⟩
abbrev zfv (a:List (List Int)) (b:List Int) (c:Nat) (d e:List (List Int)):St:=⟨sp 72 [(1,.lst (EK.sl (.int .i64)) a),(5,.sq b),(6,.lst (EK.sl (.int .i64)) e)],[.dead,.lst (EK.sl (.int .i64)) d true],[1,0]⟩
abbrev zlL (a:List (List Int)) (b:List Int) (c:Nat) (d:List (List Int)):St:=⟨sp 72 [(1,.lst (EK.sl (.int .i64)) a),(5,.sq b),(6,.own 1 0 c 1)],[.dead,.lst (EK.sl (.int .i64)) d true],[1,0]⟩
abbrev zdW (a:List (List Int)) (b:List Int) (c:Nat) (d e:List (List Int)):St:=⟨sp 72 [(1,.lst (EK.sl (.int .i64)) a),(5,.sq b),(6,.lst (EK.sl (.int .i64)) e)],[.dead,.lst (EK.sl (.int .i64)) d true],[1,0]⟩
abbrev zcO (s:St) (r:Ex × St):Prop:=Loops 2 Tryz.prog (pZ Tryz.prog 148 1) s r
abbrev zft (a:List (List Int)) (b:List Int) (c:Nat) (d:List Int) (e:List (List Int)):St:=⟨sp 72 [(1,.lst (EK.sl (.int .i64)) a),(5,.sq b),(6,.own 1 0 c 1),(7,.sq d),(8,aN),(9,aI 0)],[.dead,.lst (EK.sl (.int .i64)) e true],[1,0]⟩
abbrev zcv (a:List (List Int)) (b:List Int) (c:Nat) (d:List Int) (e:List (List Int)) (f:Nat) (g:Int) (i:List (List Int)):St:=⟨sp 72 [(1,.lst (EK.sl (.int .i64)) a),(5,.sq b),(6,.own 1 0 c 1),(7,.sq d),(8,.own 2 0 f 1),(9,aI g)],[.dead,.lst (EK.sl (.int .i64)) e true,.lst (EK.sl (.int .i64)) i true],[1,0]⟩
abbrev rre_L0_E0 (a:List (List Int)) (b:List Int) (c:Nat) (d:List Int) (e:List (List Int)):St:=⟨sp 72 [(1,.lst (EK.sl (.int .i64)) a),(5,.sq b),(6,.own 1 0 c 1),(7,.sq d),(8,aN),(9,aI 0)],[.dead,.lst (EK.sl (.int .i64)) e true],[1,0]⟩
abbrev zbv (a:List (List Int)) (b:List Int) (c:Nat) (d:List Int) (e:List (List Int)) (f:Nat) (g:Int) (i:List (List Int)):St:=⟨sp 72 [(1,.lst (EK.sl (.int .i64)) a),(5,.sq b),(6,.own 1 0 c 1),(7,.sq d),(8,.own 2 0 f 1),(9,aI g)],[.dead,.lst (EK.sl (.int .i64)) e true,.lst (EK.sl (.int .i64)) i true],[1,0]⟩
theorem zpE (a:List (List Int)) (b:List Int) (d:Nat) (f:List Int) (g:List (List Int)) (h1:0<(d:Int)) (h2:0<g.length) (h3:pMu (g.getD 0 (EK.dflt (EK.sl (.int .i64)))) b) (h4:pMu (aZ (vl (g.getD 0 (EK.dflt (EK.sl (.int .i64))))*vl b)) b) (h5:r64 (0-(d:Int))) (h6:r64 (0-(d:Int)+(a.length:Int))) (h7:0-(d:Int)+(a.length:Int)≥0) (h8:0≤0-(d:Int)+(a.length:Int)) (h9:0-(d:Int)+(a.length:Int)<(a.length:Int)) (h10:pMu f b) (h11:pMu (aZ (vl f*vl b)) (a.getD (0-(d:Int)+(a.length:Int)).toNat (EK.dflt (EK.sl (.int .i64))))) (h12:pSu (aZ (vl (aZ (vl (g.getD 0 (EK.dflt (EK.sl (.int .i64))))*vl b))*vl b)) (aZ (vl (aZ (vl f*vl b))*vl (a.getD (0-(d:Int)+(a.length:Int)).toNat (EK.dflt (EK.sl (.int .i64))))))) (h13:1≤List.length [aZ (vl (aZ (vl (aZ (vl (g.getD 0 (EK.dflt (EK.sl (.int .i64))))*vl b))*vl b))-vl (aZ (vl (aZ (vl f*vl b))*vl (a.getD (0-(d:Int)+(a.length:Int)).toNat (EK.dflt (EK.sl (.int .i64)))))))]) (h14:0<(List.take 1 [aZ (vl (aZ (vl (aZ (vl (g.getD 0 (EK.dflt (EK.sl (.int .i64))))*vl b))*vl b))-vl (aZ (vl (aZ (vl f*vl b))*vl (a.getD (0-(d:Int)+(a.length:Int)).toNat (EK.dflt (EK.sl (.int .i64)))))))]).length) (h15:(List.take 1 [aZ (vl (aZ (vl (aZ (vl (g.getD 0 (EK.dflt (EK.sl (.int .i64))))*vl b))*vl b))-vl (aZ (vl (aZ (vl f*vl b))*vl (a.getD (0-(d:Int)+(a.length:Int)).toNat (EK.dflt (EK.sl (.int .i64)))))))]).length*24≤140737488355328) (h16:(List.take 1 [aZ (vl (aZ (vl (aZ (vl (g.getD 0 (EK.dflt (EK.sl (.int .i64))))*vl b))*vl b))-vl (aZ (vl (aZ (vl f*vl b))*vl (a.getD (0-(d:Int)+(a.length:Int)).toNat (EK.dflt (EK.sl (.int .i64)))))))]).length≤4611686018427387904) {r:Ex × St} (k:zcO (zcv a b d f g (1) (1) ([aZ (vl (aZ (vl (aZ (vl (g.getD 0 (EK.dflt (EK.sl (.int .i64))))*vl b))*vl b))-vl (aZ (vl (aZ (vl f*vl b))*vl (a.getD (0-(d:Int)+(a.length:Int)).toNat (EK.dflt (EK.sl (.int .i64)))))))])) r):zcO (zft a b d f g) r:=Loops.go (LS.at zdK 60 [3] [1,5,6,7,8,9] [1,0] [1,1] (.t h1<|.t h2<|.c h3<|.c h4<|.i h5<|.i h6<|.t h7<|.t h8<|.t h9<|.c h10<|.c h11<|.c h12<|.c h13<|.t h14<|.t h15<|.t h16<|.e) [1,0,1,2,3,4,5,6,7,8,9,10,11,12,13,14,15,16,0]) k
theorem zpF (a:List (List Int)) (b:List Int) (d:Nat) (g:List Int) (j:List (List Int)) (h1:0<(d:Int)) (h2:0<j.length) (h3:pMu (j.getD 0 (EK.dflt (EK.sl (.int .i64)))) b) (h4:pMu (aZ (vl (j.getD 0 (EK.dflt (EK.sl (.int .i64))))*vl b)) b) (h5:r64 (0-(d:Int))) (h6:r64 (0-(d:Int)+(a.length:Int))) (h7:¬(0-(d:Int)+(a.length:Int)≥0)) (h8:1≤List.length [aZ (vl (aZ (vl (j.getD 0 (EK.dflt (EK.sl (.int .i64))))*vl b))*vl b)]) (h9:0<(List.take 1 [aZ (vl (aZ (vl (j.getD 0 (EK.dflt (EK.sl (.int .i64))))*vl b))*vl b)]).length) (h10:(List.take 1 [aZ (vl (aZ (vl (j.getD 0 (EK.dflt (EK.sl (.int .i64))))*vl b))*vl b)]).length*24≤140737488355328) (h11:(List.take 1 [aZ (vl (aZ (vl (j.getD 0 (EK.dflt (EK.sl (.int .i64))))*vl b))*vl b)]).length≤4611686018427387904) {r:Ex × St} (k:zcO (zcv a b d g j (1) (1) ([aZ (vl (aZ (vl (j.getD 0 (EK.dflt (EK.sl (.int .i64))))*vl b))*vl b)])) r):zcO (zft a b d g j) r:=Loops.go (LS.at zdK 60 [3] [1,5,6,7,8,9] [1,0] [1,0] (.t h1<|.t h2<|.c h3<|.c h4<|.i h5<|.i h6<|.f h7<|.c h8<|.t h9<|.t h10<|.t h11<|.e) [1,0,1,2,3,4,5,6,7,8,9,10,11,0]) k
theorem rre_L0_0_2 (a:List (List Int)) (b:List Int) (c:Nat) (d:List Int) (g:List (List Int)) (h1:¬(0<(c:Int))):zcO (zft a b c d g) (Ex.exit 2,(rre_L0_E0 a b c d g)):=Loops.fin (LS.at zdK 60 [] [1,5,6,7,8,9] [1,0] [0] (.f h1<|.e) [1]) (fun h=>nomatch h)
theorem zpG (a:List (List Int)) (b:List Int) (d:Nat) (f:List Int) (g:List (List Int)) (j:Nat) (l:Int) (m:List (List Int)) (h1:l<(d:Int)) (h2:0≤l) (h3:l.toNat<g.length) (h4:pMu (g.getD l.toNat (EK.dflt (EK.sl (.int .i64)))) b) (h5:pMu (aZ (vl (g.getD l.toNat (EK.dflt (EK.sl (.int .i64))))*vl b)) b) (h6:r64 (l-(d:Int))) (h7:r64 (l-(d:Int)+(a.length:Int))) (h8:l-(d:Int)+(a.length:Int)≥0) (h9:0≤l-(d:Int)+(a.length:Int)) (h10:l-(d:Int)+(a.length:Int)<(a.length:Int)) (h11:pMu f b) (h12:pMu (aZ (vl f*vl b)) (a.getD (l-(d:Int)+(a.length:Int)).toNat (EK.dflt (EK.sl (.int .i64))))) (h13:pSu (aZ (vl (aZ (vl (g.getD l.toNat (EK.dflt (EK.sl (.int .i64))))*vl b))*vl b)) (aZ (vl (aZ (vl f*vl b))*vl (a.getD (l-(d:Int)+(a.length:Int)).toNat (EK.dflt (EK.sl (.int .i64))))))) (h14:1≤List.length [aZ (vl (aZ (vl (aZ (vl (g.getD l.toNat (EK.dflt (EK.sl (.int .i64))))*vl b))*vl b))-vl (aZ (vl (aZ (vl f*vl b))*vl (a.getD (l-(d:Int)+(a.length:Int)).toNat (EK.dflt (EK.sl (.int .i64)))))))]) (h15:(j+(List.take 1 [aZ (vl (aZ (vl (aZ (vl (g.getD l.toNat (EK.dflt (EK.sl (.int .i64))))*vl b))*vl b))-vl (aZ (vl (aZ (vl f*vl b))*vl (a.getD (l-(d:Int)+(a.length:Int)).toNat (EK.dflt (EK.sl (.int .i64)))))))]).length)*24≤140737488355328) (h16:j+(List.take 1 [aZ (vl (aZ (vl (aZ (vl (g.getD l.toNat (EK.dflt (EK.sl (.int .i64))))*vl b))*vl b))-vl (aZ (vl (aZ (vl f*vl b))*vl (a.getD (l-(d:Int)+(a.length:Int)).toNat (EK.dflt (EK.sl (.int .i64)))))))]).length≤4611686018427387904) (h17:j≤m.length) (h18:r64 (l+1)) {r:Ex × St} (k:zcO (zcv a b d f g (j+(List.take 1 [aZ (vl (aZ (vl (aZ (vl (g.getD l.toNat (EK.dflt (EK.sl (.int .i64))))*vl b))*vl b))-vl (aZ (vl (aZ (vl f*vl b))*vl (a.getD (l-(d:Int)+(a.length:Int)).toNat (EK.dflt (EK.sl (.int .i64)))))))]).length) (l+1) (m.take j++List.take 1 [aZ (vl (aZ (vl (aZ (vl (g.getD l.toNat (EK.dflt (EK.sl (.int .i64))))*vl b))*vl b))-vl (aZ (vl (aZ (vl f*vl b))*vl (a.getD (l-(d:Int)+(a.length:Int)).toNat (EK.dflt (EK.sl (.int .i64)))))))])) r):zcO (zcv a b d f g j l m) r:=Loops.go (LS.at zdK 60 [4] [1,5,6,7,8,9] [1,0] [1,1] (.t h1<|.t h2<|.t h3<|.c h4<|.c h5<|.i h6<|.i h7<|.t h8<|.t h9<|.t h10<|.c h11<|.c h12<|.c h13<|.c h14<|.t h15<|.t h16<|.t h17<|.i h18<|.e) [1,2,1,3,4,5,6,7,8,9,10,11,12,13,14,15,16,17,18]) k
theorem zpH (a:List (List Int)) (b:List Int) (d:Nat) (g:List Int) (j:List (List Int)) (l:Nat) (m:Int) (n:List (List Int)) (h1:m<(d:Int)) (h2:0≤m) (h3:m.toNat<j.length) (h4:pMu (j.getD m.toNat (EK.dflt (EK.sl (.int .i64)))) b) (h5:pMu (aZ (vl (j.getD m.toNat (EK.dflt (EK.sl (.int .i64))))*vl b)) b) (h6:r64 (m-(d:Int))) (h7:r64 (m-(d:Int)+(a.length:Int))) (h8:¬(m-(d:Int)+(a.length:Int)≥0)) (h9:1≤List.length [aZ (vl (aZ (vl (j.getD m.toNat (EK.dflt (EK.sl (.int .i64))))*vl b))*vl b)]) (h10:(l+(List.take 1 [aZ (vl (aZ (vl (j.getD m.toNat (EK.dflt (EK.sl (.int .i64))))*vl b))*vl b)]).length)*24≤140737488355328) (h11:l+(List.take 1 [aZ (vl (aZ (vl (j.getD m.toNat (EK.dflt (EK.sl (.int .i64))))*vl b))*vl b)]).length≤4611686018427387904) (h12:l≤n.length) (h13:r64 (m+1)) {r:Ex × St} (k:zcO (zcv a b d g j (l+(List.take 1 [aZ (vl (aZ (vl (j.getD m.toNat (EK.dflt (EK.sl (.int .i64))))*vl b))*vl b)]).length) (m+1) (n.take l++List.take 1 [aZ (vl (aZ (vl (j.getD m.toNat (EK.dflt (EK.sl (.int .i64))))*vl b))*vl b)])) r):zcO (zcv a b d g j l m n) r:=Loops.go (LS.at zdK 60 [4] [1,5,6,7,8,9] [1,0] [1,0] (.t h1<|.t h2<|.t h3<|.c h4<|.c h5<|.i h6<|.i h7<|.f h8<|.c h9<|.t h10<|.t h11<|.t h12<|.i h13<|.e) [1,2,1,3,4,5,6,7,8,9,10,11,12,13]) k
theorem zpI (a:List (List Int)) (b:List Int) (c:Nat) (d:List Int) (g:List (List Int)) (i:Nat) (j:Int) (l:List (List Int)) (h1:¬(j<(c:Int))):zcO (zcv a b c d g i j l) (Ex.exit 2,(zbv a b c d g i j l)):=Loops.fin (LS.at zdK 60 [2] [1,5,6,7,8,9] [1,0] [0] (.f h1<|.e) [1]) (fun h=>nomatch h)
theorem zpO (a:List (List Int)) (b:List Int) (d:Nat) (f:List (List Int)) (g:Nat) (j:Int) (l:List (List Int)) (h1:(d:Int)≥(a.length:Int)) (h2:r64 ((d:Int)-1)) (h3:0≤(d:Int)-1) (h4:(d:Int)-1<(d:Int)) (h5:((d:Int)-1).toNat<f.length) (hL1:zcO (zft a b d (f.getD ((d:Int)-1).toNat (EK.dflt (EK.sl (.int .i64)))) f) (Ex.exit 2,(zbv a b d (f.getD ((d:Int)-1).toNat (EK.dflt (EK.sl (.int .i64)))) f g j l))) (h7:g≤l.length) (h8:pSh (l.take g)) {r:Ex × St} (k:zfu (zfv a b d f ((l.take g).take (Kf.cutN (vls (l.take g)) (l.take g).length))) r):zfu (zgP a b d f) r:=Loops.go (LS.at zdK 60 [] [1,5,6] [1,0] [1] (.t h1<|.i h2<|.t h3<|.t h4<|.t h5<|.v [1,5,6,7,8,9] [1,0] hL1<|.c h7<|.c h8<|.e) [1,2,3,4,5,0,6,7,8]) k
theorem zpP (a:List (List Int)) (b:List Int) (c:Nat) (d:List (List Int)) (h1:¬((c:Int)≥(a.length:Int))):zfu (zgP a b c d) (Ex.exit 0,(zlL a b c d)):=Loops.fin (LS.at zdK 60 [] [1,5,6] [1,0] [0] (.f h1<|.e) [1]) (fun h=>nomatch h)
abbrev zds (s:St) (r:Ex × St):Prop:=Loops 2 Tryz.prog (pZ Tryz.prog 148 1) s r
abbrev zgO (a:List (List Int)) (b:List Int) (c:List (List Int)) (d:List Int) (e:List (List Int)):St:=⟨sp 72 [(1,.lst (EK.sl (.int .i64)) a),(5,.sq b),(6,.lst (EK.sl (.int .i64)) c),(7,.sq d),(8,aN),(9,aI 0)],[.dead,.lst (EK.sl (.int .i64)) e true],[1,0]⟩
abbrev zcw (a:List (List Int)) (b:List Int) (c:List (List Int)) (d:List Int) (e:List (List Int)) (f:Nat) (g:Int) (i:List (List Int)):St:=⟨sp 72 [(1,.lst (EK.sl (.int .i64)) a),(5,.sq b),(6,.lst (EK.sl (.int .i64)) c),(7,.sq d),(8,.own 2 0 f 1),(9,aI g)],[.dead,.lst (EK.sl (.int .i64)) e true,.lst (EK.sl (.int .i64)) i true],[1,0]⟩
abbrev zbw (a:List (List Int)) (b:List Int) (c:List (List Int)) (d:List Int) (e:List (List Int)) (f:Nat) (g:Int) (i:List (List Int)):St:=⟨sp 72 [(1,.lst (EK.sl (.int .i64)) a),(5,.sq b),(6,.lst (EK.sl (.int .i64)) c),(7,.sq d),(8,.own 2 0 f 1),(9,aI g)],[.dead,.lst (EK.sl (.int .i64)) e true,.lst (EK.sl (.int .i64)) i true],[1,0]⟩
theorem zpJ (a:List (List Int)) (b:List Int) (d:List (List Int)) (f:List Int) (g:List (List Int)) (h1:0<(d.length:Int)) (h2:pMu (d.getD 0 (EK.dflt (EK.sl (.int .i64)))) b) (h3:pMu (aZ (vl (d.getD 0 (EK.dflt (EK.sl (.int .i64))))*vl b)) b) (h4:r64 (0-(d.length:Int))) (h5:r64 (0-(d.length:Int)+(a.length:Int))) (h6:0-(d.length:Int)+(a.length:Int)≥0) (h7:0≤0-(d.length:Int)+(a.length:Int)) (h8:0-(d.length:Int)+(a.length:Int)<(a.length:Int)) (h9:pMu f b) (h10:pMu (aZ (vl f*vl b)) (a.getD (0-(d.length:Int)+(a.length:Int)).toNat (EK.dflt (EK.sl (.int .i64))))) (h11:pSu (aZ (vl (aZ (vl (d.getD 0 (EK.dflt (EK.sl (.int .i64))))*vl b))*vl b)) (aZ (vl (aZ (vl f*vl b))*vl (a.getD (0-(d.length:Int)+(a.length:Int)).toNat (EK.dflt (EK.sl (.int .i64))))))) (h12:1≤List.length [aZ (vl (aZ (vl (aZ (vl (d.getD 0 (EK.dflt (EK.sl (.int .i64))))*vl b))*vl b))-vl (aZ (vl (aZ (vl f*vl b))*vl (a.getD (0-(d.length:Int)+(a.length:Int)).toNat (EK.dflt (EK.sl (.int .i64)))))))]) (h13:0<(List.take 1 [aZ (vl (aZ (vl (aZ (vl (d.getD 0 (EK.dflt (EK.sl (.int .i64))))*vl b))*vl b))-vl (aZ (vl (aZ (vl f*vl b))*vl (a.getD (0-(d.length:Int)+(a.length:Int)).toNat (EK.dflt (EK.sl (.int .i64)))))))]).length) (h14:(List.take 1 [aZ (vl (aZ (vl (aZ (vl (d.getD 0 (EK.dflt (EK.sl (.int .i64))))*vl b))*vl b))-vl (aZ (vl (aZ (vl f*vl b))*vl (a.getD (0-(d.length:Int)+(a.length:Int)).toNat (EK.dflt (EK.sl (.int .i64)))))))]).length*24≤140737488355328) (h15:(List.take 1 [aZ (vl (aZ (vl (aZ (vl (d.getD 0 (EK.dflt (EK.sl (.int .i64))))*vl b))*vl b))-vl (aZ (vl (aZ (vl f*vl b))*vl (a.getD (0-(d.length:Int)+(a.length:Int)).toNat (EK.dflt (EK.sl (.int .i64)))))))]).length≤4611686018427387904) {r:Ex × St} (k:zds (zcw a b d f g (1) (1) ([aZ (vl (aZ (vl (aZ (vl (d.getD 0 (EK.dflt (EK.sl (.int .i64))))*vl b))*vl b))-vl (aZ (vl (aZ (vl f*vl b))*vl (a.getD (0-(d.length:Int)+(a.length:Int)).toNat (EK.dflt (EK.sl (.int .i64)))))))])) r):zds (zgO a b d f g) r:=Loops.go (LS.at zdK 60 [3] [1,5,6,7,8,9] [1,0] [1,1] (.t h1<|.c h2<|.c h3<|.i h4<|.i h5<|.t h6<|.t h7<|.t h8<|.c h9<|.c h10<|.c h11<|.c h12<|.t h13<|.t h14<|.t h15<|.e) [1,0,1,2,3,4,5,6,7,8,9,10,11,12,13,14,15,0]) k
theorem zpK (a:List (List Int)) (b:List Int) (d:List (List Int)) (g:List Int) (j:List (List Int)) (h1:0<(d.length:Int)) (h2:pMu (d.getD 0 (EK.dflt (EK.sl (.int .i64)))) b) (h3:pMu (aZ (vl (d.getD 0 (EK.dflt (EK.sl (.int .i64))))*vl b)) b) (h4:r64 (0-(d.length:Int))) (h5:r64 (0-(d.length:Int)+(a.length:Int))) (h6:¬(0-(d.length:Int)+(a.length:Int)≥0)) (h7:1≤List.length [aZ (vl (aZ (vl (d.getD 0 (EK.dflt (EK.sl (.int .i64))))*vl b))*vl b)]) (h8:0<(List.take 1 [aZ (vl (aZ (vl (d.getD 0 (EK.dflt (EK.sl (.int .i64))))*vl b))*vl b)]).length) (h9:(List.take 1 [aZ (vl (aZ (vl (d.getD 0 (EK.dflt (EK.sl (.int .i64))))*vl b))*vl b)]).length*24≤140737488355328) (h10:(List.take 1 [aZ (vl (aZ (vl (d.getD 0 (EK.dflt (EK.sl (.int .i64))))*vl b))*vl b)]).length≤4611686018427387904) {r:Ex × St} (k:zds (zcw a b d g j (1) (1) ([aZ (vl (aZ (vl (d.getD 0 (EK.dflt (EK.sl (.int .i64))))*vl b))*vl b)])) r):zds (zgO a b d g j) r:=Loops.go (LS.at zdK 60 [3] [1,5,6,7,8,9] [1,0] [1,0] (.t h1<|.c h2<|.c h3<|.i h4<|.i h5<|.f h6<|.c h7<|.t h8<|.t h9<|.t h10<|.e) [1,0,1,2,3,4,5,6,7,8,9,10,0]) k
theorem zpL (a:List (List Int)) (b:List Int) (d:List (List Int)) (f:List Int) (g:List (List Int)) (j:Nat) (l:Int) (m:List (List Int)) (h1:l<(d.length:Int)) (h2:0≤l) (h3:pMu (d.getD l.toNat (EK.dflt (EK.sl (.int .i64)))) b) (h4:pMu (aZ (vl (d.getD l.toNat (EK.dflt (EK.sl (.int .i64))))*vl b)) b) (h5:r64 (l-(d.length:Int))) (h6:r64 (l-(d.length:Int)+(a.length:Int))) (h7:l-(d.length:Int)+(a.length:Int)≥0) (h8:0≤l-(d.length:Int)+(a.length:Int)) (h9:l-(d.length:Int)+(a.length:Int)<(a.length:Int)) (h10:pMu f b) (h11:pMu (aZ (vl f*vl b)) (a.getD (l-(d.length:Int)+(a.length:Int)).toNat (EK.dflt (EK.sl (.int .i64))))) (h12:pSu (aZ (vl (aZ (vl (d.getD l.toNat (EK.dflt (EK.sl (.int .i64))))*vl b))*vl b)) (aZ (vl (aZ (vl f*vl b))*vl (a.getD (l-(d.length:Int)+(a.length:Int)).toNat (EK.dflt (EK.sl (.int .i64))))))) (h13:1≤List.length [aZ (vl (aZ (vl (aZ (vl (d.getD l.toNat (EK.dflt (EK.sl (.int .i64))))*vl b))*vl b))-vl (aZ (vl (aZ (vl f*vl b))*vl (a.getD (l-(d.length:Int)+(a.length:Int)).toNat (EK.dflt (EK.sl (.int .i64)))))))]) (h14:(j+(List.take 1 [aZ (vl (aZ (vl (aZ (vl (d.getD l.toNat (EK.dflt (EK.sl (.int .i64))))*vl b))*vl b))-vl (aZ (vl (aZ (vl f*vl b))*vl (a.getD (l-(d.length:Int)+(a.length:Int)).toNat (EK.dflt (EK.sl (.int .i64)))))))]).length)*24≤140737488355328) (h15:j+(List.take 1 [aZ (vl (aZ (vl (aZ (vl (d.getD l.toNat (EK.dflt (EK.sl (.int .i64))))*vl b))*vl b))-vl (aZ (vl (aZ (vl f*vl b))*vl (a.getD (l-(d.length:Int)+(a.length:Int)).toNat (EK.dflt (EK.sl (.int .i64)))))))]).length≤4611686018427387904) (h16:j≤m.length) (h17:r64 (l+1)) {r:Ex × St} (k:zds (zcw a b d f g (j+(List.take 1 [aZ (vl (aZ (vl (aZ (vl (d.getD l.toNat (EK.dflt (EK.sl (.int .i64))))*vl b))*vl b))-vl (aZ (vl (aZ (vl f*vl b))*vl (a.getD (l-(d.length:Int)+(a.length:Int)).toNat (EK.dflt (EK.sl (.int .i64)))))))]).length) (l+1) (m.take j++List.take 1 [aZ (vl (aZ (vl (aZ (vl (d.getD l.toNat (EK.dflt (EK.sl (.int .i64))))*vl b))*vl b))-vl (aZ (vl (aZ (vl f*vl b))*vl (a.getD (l-(d.length:Int)+(a.length:Int)).toNat (EK.dflt (EK.sl (.int .i64)))))))])) r):zds (zcw a b d f g j l m) r:=Loops.go (LS.at zdK 60 [4] [1,5,6,7,8,9] [1,0] [1,1] (.t h1<|.t h2<|.c h3<|.c h4<|.i h5<|.i h6<|.t h7<|.t h8<|.t h9<|.c h10<|.c h11<|.c h12<|.c h13<|.t h14<|.t h15<|.t h16<|.i h17<|.e) [1,2,1,3,4,5,6,7,8,9,10,11,12,13,14,15,16,17]) k
theorem zpM (a:List (List Int)) (b:List Int) (d:List (List Int)) (g:List Int) (j:List (List Int)) (l:Nat) (m:Int) (n:List (List Int)) (h1:m<(d.length:Int)) (h2:0≤m) (h3:pMu (d.getD m.toNat (EK.dflt (EK.sl (.int .i64)))) b) (h4:pMu (aZ (vl (d.getD m.toNat (EK.dflt (EK.sl (.int .i64))))*vl b)) b) (h5:r64 (m-(d.length:Int))) (h6:r64 (m-(d.length:Int)+(a.length:Int))) (h7:¬(m-(d.length:Int)+(a.length:Int)≥0)) (h8:1≤List.length [aZ (vl (aZ (vl (d.getD m.toNat (EK.dflt (EK.sl (.int .i64))))*vl b))*vl b)]) (h9:(l+(List.take 1 [aZ (vl (aZ (vl (d.getD m.toNat (EK.dflt (EK.sl (.int .i64))))*vl b))*vl b)]).length)*24≤140737488355328) (h10:l+(List.take 1 [aZ (vl (aZ (vl (d.getD m.toNat (EK.dflt (EK.sl (.int .i64))))*vl b))*vl b)]).length≤4611686018427387904) (h11:l≤n.length) (h12:r64 (m+1)) {r:Ex × St} (k:zds (zcw a b d g j (l+(List.take 1 [aZ (vl (aZ (vl (d.getD m.toNat (EK.dflt (EK.sl (.int .i64))))*vl b))*vl b)]).length) (m+1) (n.take l++List.take 1 [aZ (vl (aZ (vl (d.getD m.toNat (EK.dflt (EK.sl (.int .i64))))*vl b))*vl b)])) r):zds (zcw a b d g j l m n) r:=Loops.go (LS.at zdK 60 [4] [1,5,6,7,8,9] [1,0] [1,0] (.t h1<|.t h2<|.c h3<|.c h4<|.i h5<|.i h6<|.f h7<|.c h8<|.t h9<|.t h10<|.t h11<|.i h12<|.e) [1,2,1,3,4,5,6,7,8,9,10,11,12]) k
theorem zpN (a:List (List Int)) (b:List Int) (c:List (List Int)) (d:List Int) (g:List (List Int)) (i:Nat) (j:Int) (l:List (List Int)) (h1:¬(j<(c.length:Int))):zds (zcw a b c d g i j l) (Ex.exit 2,(zbw a b c d g i j l)):=Loops.fin (LS.at zdK 60 [2] [1,5,6,7,8,9] [1,0] [0] (.f h1<|.e) [1]) (fun h=>nomatch h)
theorem zpQ (a:List (List Int)) (b:List Int) (d:Nat) (f g:List (List Int)) (j:Nat) (l:Int) (m:List (List Int)) (h1:(g.length:Int)≥(a.length:Int)) (h2:r64 ((g.length:Int)-1)) (h3:0≤(g.length:Int)-1) (h4:(g.length:Int)-1<(g.length:Int)) (hL1:zds (zgO a b g (g.getD ((g.length:Int)-1).toNat (EK.dflt (EK.sl (.int .i64)))) f) (Ex.exit 2,(zbw a b g (g.getD ((g.length:Int)-1).toNat (EK.dflt (EK.sl (.int .i64)))) f j l m))) (h6:j≤m.length) (h7:pSh (m.take j)) {r:Ex × St} (k:zfu (zfv a b d f ((m.take j).take (Kf.cutN (vls (m.take j)) (m.take j).length))) r):zfu (zfv a b d f g) r:=Loops.go (LS.at zdK 60 [] [1,5,6] [1,0] [1] (.t h1<|.i h2<|.t h3<|.t h4<|.v [1,5,6,7,8,9] [1,0] hL1<|.c h6<|.c h7<|.e) [1,2,3,4,0,5,6,7]) k
theorem zpR (a:List (List Int)) (b:List Int) (c:Nat) (d g:List (List Int)) (h1:¬((g.length:Int)≥(a.length:Int))):zfu (zfv a b c d g) (Ex.exit 0,(zdW a b c d g)):=Loops.fin (LS.at zdK 60 [] [1,5,6] [1,0] [0] (.f h1<|.e) [1]) (fun h=>nomatch h)
theorem rre_0 (p q:List (List Int)) (h1:r64 ((q.length:Int)-1)) (h2:0≤(q.length:Int)-1) (h3:(q.length:Int)-1<(q.length:Int)) (h4:(0+p.length)*24≤140737488355328) (h5:0+p.length≤4611686018427387904) (hL1:zfu (zgP q (q.getD ((q.length:Int)-1).toNat (EK.dflt (EK.sl (.int .i64)))) (0+p.length) (List.take 0 []++p)) (Ex.exit 0,(zlL q (q.getD ((q.length:Int)-1).toNat (EK.dflt (EK.sl (.int .i64)))) (0+p.length) (List.take 0 []++p)))) (h7:0+p.length≤(List.take 0 []++p).length):FC Tryz.prog 148 [.lst (.sl (.int .i64)) p,.lst (.sl (.int .i64)) q] (.lst (EK.sl (.int .i64)) ((List.take 0 []++p).take (0+p.length))):=fZ zdK 60 [] (.i h1<|.t h2<|.t h3<|.t h4<|.t h5<|.v [1,5,6] [1,0] hL1<|.c h7<|.e) [1,2,3,4,5,0,0,6,7]
theorem rre_1 (p q a:List (List Int)) (h1:r64 ((q.length:Int)-1)) (h2:0≤(q.length:Int)-1) (h3:(q.length:Int)-1<(q.length:Int)) (h4:(0+p.length)*24≤140737488355328) (h5:0+p.length≤4611686018427387904) (hL1:zfu (zgP q (q.getD ((q.length:Int)-1).toNat (EK.dflt (EK.sl (.int .i64)))) (0+p.length) (List.take 0 []++p)) (Ex.exit 0,(zdW q (q.getD ((q.length:Int)-1).toNat (EK.dflt (EK.sl (.int .i64)))) (0+p.length) (List.take 0 []++p) a))):FC Tryz.prog 148 [.lst (.sl (.int .i64)) p,.lst (.sl (.int .i64)) q] (.lst (EK.sl (.int .i64)) a):=fZ zdK 60 [] (.i h1<|.t h2<|.t h3<|.t h4<|.t h5<|.v [1,5,6] [1,0] hL1<|.e) [1,2,3,4,5,0,0,6]
end
open Go.Kf
def rsF (q r:List (List Int)) (last top:List Int) (i:Nat):List Int:=aZ (agC (vls q) (vl last*vl last) (vl top*vl last) (r.length-q.length) i ((vls r).getD i 0))
def rsL (q r:List (List Int)) (last top:List Int) (i:Nat):List (List Int):=(List.range i).map (rsF q r last top)
theorem zdZ (q r:List (List Int)) (last top:List Int) (i:Nat):(rsL q r last top i).length=i:=by simp [rsL]
theorem zgS (q r:List (List Int)) (last top:List Int) (i:Nat) {x:List Int} (h:x=rsF q r last top i):List.take i (rsL q r last top i)++List.take 1 [x]=rsL q r last top (i+1):=by
  rw [List.take_of_length_le (by rw [zdZ];exact Nat.le_refl _),h]
  unfold rsL
  rw [List.range_succ,List.map_append];rfl
theorem znL {q r:List (List Int)} {last top:List Int} {i:Nat} (h:r.length-q.length≤i):aZ (vl (aZ (vl (aZ (vl (r.getD i [])*vl last))*vl last))-vl (aZ (vl (aZ (vl top*vl last))*vl (q.getD (i-(r.length-q.length)) []))))=rsF q r last top i:=by
  simp only [cZ]
  unfold rsF agC
  rw [if_pos h,← zaY,← zaY,Int.sub_eq_add_neg,Int.mul_assoc (vl (r.getD i []))]
theorem znM {q r:List (List Int)} {last top:List Int} {i:Nat} (h:¬r.length-q.length≤i):aZ (vl (aZ (vl (r.getD i [])*vl last))*vl last)=rsF q r last top i:=by
  simp only [cZ]
  unfold rsF agC
  rw [if_neg h,← zaY,Int.mul_assoc]
theorem zbE {p:List (List Int)} {N:Nat} (h:∀l∈p,pQ N l) {i:Nat} (hi:i<p.length):pQ N (p.getD i []):=by
  rw [List.getD_eq_getElem?_getD,List.getElem?_eq_getElem hi];exact h _ (List.getElem_mem hi)
theorem za5 {N:Nat} {l:List Int} (h:pQ N l):Sz (N+3) (vl l):=(vl_sz h.2).mono (by have:=h.1;omega)
theorem rre_l1 {q r:List (List Int)} {last top:List Int} {lr:List (List Int)} {N M:Nat} (hr:∀l∈r,pQ N l) (hq:∀l∈q,pQ M l) (hlast:pQ M last) (htop:pQ N top) (hb:N+2*M+20≤90000) (hlen:q.length≤r.length) (h1000:r.length≤1000) :
    ∀(m i:Nat),i+m=r.length→1≤i→zds (zcw q last r top lr i i (rsL q r last top i)) (Ex.exit 2,zbw q last r top lr r.length r.length (rsL q r last top r.length))
  | 0,i,hi,_=>by
    obtain rfl:i=r.length:=by omega
    exact zpN q last r top lr _ _ _ (by omega)
  | m + 1,i,hi,h1=>by
    have ih:=rre_l1 (lr:=lr) hr hq hlast htop hb hlen h1000 m (i+1) (by omega) (by omega)
    have e1:Int.toNat (i:Int)=i:=rfl
    have pr:=zbE hr (i:=i) (by omega)
    have s1:=za5 pr
    have s2:=za5 hlast
    have s3:=za5 htop
    have m1:pQ 100000 (aZ (vl (r.getD i [])*vl last)):=kZ (s1.mul s2) (by omega)
    by_cases hs:r.length-q.length≤i
    · have e2:Int.toNat ((i:Int)-(r.length:Int)+(q.length:Int))=i-(r.length-q.length):=by omega
      have pq:=zbE hq (i:=i-(r.length-q.length)) (by omega)
      have s4:=za5 pq
      have m2:pQ 390000 (aZ (vl (aZ (vl (r.getD i [])*vl last))*vl last)):=by rw [cZ];exact kZ ((s1.mul s2).mul s2) (by omega)
      have m3:pQ 100000 (aZ (vl top*vl last)):=kZ (s3.mul s2) (by omega)
      have m4:pQ 390000 (aZ (vl (aZ (vl top*vl last))*vl (q.getD (i-(r.length-q.length)) []))):=by rw [cZ];exact kZ ((s3.mul s2).mul s4) (by omega)
      have go:=@zpL q last r top lr i i (rsL q r last top i) (by omega) (by omega) ⟨pr.mono (by omega),hlast.mono (by omega)⟩ ⟨m1,hlast.mono (by omega)⟩ (by omega) (by omega) (by omega) (by omega) (by omega) ⟨htop.mono (by omega),hlast.mono (by omega)⟩
        (by rw [e2];exact ⟨m3,pq.mono (by omega)⟩) (by rw [e2];exact ⟨m2,m4⟩) (by simp) (by simp;omega) (by simp;omega) (by rw [zdZ];exact Nat.le_refl _) (by omega) (Ex.exit 2,zbw q last r top lr r.length r.length (rsL q r last top r.length))
      rw [zgS q r last top i (by rw [e2];exact znL hs)] at go
      exact go ih
    · have go:=@zpM q last r top lr i i (rsL q r last top i) (by omega) (by omega) ⟨pr.mono (by omega),hlast.mono (by omega)⟩ ⟨m1,hlast.mono (by omega)⟩ (by omega) (by omega) (by omega) (by simp) (by simp;omega) (by simp;omega) (by rw [zdZ];exact Nat.le_refl _) (by omega) (Ex.exit 2,zbw q last r top lr r.length r.length (rsL q r last top r.length))
      rw [zgS q r last top i (by exact znM hs)] at go
      exact go ih
theorem rre_l0 {q r:List (List Int)} {last top:List Int} {N M:Nat} (hr:∀l∈r,pQ N l) (hq:∀l∈q,pQ M l) (hlast:pQ M last) (htop:pQ N top) (hb:N+2*M+20≤90000) (hlen:q.length≤r.length) (h1000:r.length≤1000) :
    ∀(m i:Nat),i+m=r.length→1≤i→zcO (zcv q last r.length top r i i (rsL q r last top i)) (Ex.exit 2,zbv q last r.length top r r.length r.length (rsL q r last top r.length))
  | 0,i,hi,_=>by
    obtain rfl:i=r.length:=by omega
    exact zpI q last r.length top r _ _ _ (by omega)
  | m + 1,i,hi,h1=>by
    have ih:=rre_l0 hr hq hlast htop hb hlen h1000 m (i+1) (by omega) (by omega)
    have e1:Int.toNat (i:Int)=i:=rfl
    have pr:=zbE hr (i:=i) (by omega)
    have s1:=za5 pr
    have s2:=za5 hlast
    have s3:=za5 htop
    have m1:pQ 100000 (aZ (vl (r.getD i [])*vl last)):=kZ (s1.mul s2) (by omega)
    by_cases hs:r.length-q.length≤i
    · have e2:Int.toNat ((i:Int)-(r.length:Int)+(q.length:Int))=i-(r.length-q.length):=by omega
      have pq:=zbE hq (i:=i-(r.length-q.length)) (by omega)
      have s4:=za5 pq
      have m2:pQ 390000 (aZ (vl (aZ (vl (r.getD i [])*vl last))*vl last)):=by rw [cZ];exact kZ ((s1.mul s2).mul s2) (by omega)
      have m3:pQ 100000 (aZ (vl top*vl last)):=kZ (s3.mul s2) (by omega)
      have m4:pQ 390000 (aZ (vl (aZ (vl top*vl last))*vl (q.getD (i-(r.length-q.length)) []))):=by rw [cZ];exact kZ ((s3.mul s2).mul s4) (by omega)
      have go:=@zpG q last r.length top r i i (rsL q r last top i) (by omega) (by omega) (by rw [e1];omega) ⟨pr.mono (by omega),hlast.mono (by omega)⟩ ⟨m1,hlast.mono (by omega)⟩ (by omega) (by omega) (by omega) (by omega) (by omega) ⟨htop.mono (by omega),hlast.mono (by omega)⟩
        (by rw [e2];exact ⟨m3,pq.mono (by omega)⟩) (by rw [e2];exact ⟨m2,m4⟩) (by simp) (by simp;omega) (by simp;omega) (by rw [zdZ];exact Nat.le_refl _) (by omega) (Ex.exit 2,zbv q last r.length top r r.length r.length (rsL q r last top r.length))
      rw [zgS q r last top i (by rw [e2];exact znL hs)] at go
      exact go ih
    · have go:=@zpH q last r.length top r i i (rsL q r last top i) (by omega) (by omega) (by rw [e1];omega) ⟨pr.mono (by omega),hlast.mono (by omega)⟩ ⟨m1,hlast.mono (by omega)⟩ (by omega) (by omega) (by omega) (by simp) (by simp;omega) (by simp;omega) (by rw [zdZ];exact Nat.le_refl _) (by omega) (Ex.exit 2,zbv q last r.length top r r.length r.length (rsL q r last top r.length))
      rw [zgS q r last top i (by exact znM hs)] at go
      exact go ih
theorem rre_l1s {q r:List (List Int)} {last top:List Int} {lr:List (List Int)} {N M:Nat} (hr:∀l∈r,pQ N l) (hq:∀l∈q,pQ M l) (hlast:pQ M last) (htop:pQ N top) (hb:N+2*M+20≤90000) (hq0:1≤q.length) (hlen:q.length≤r.length) (h1000:r.length≤1000) :
    zds (zgO q last r top lr) (Ex.exit 2,zbw q last r top lr r.length r.length (rsL q r last top r.length)):=by
  have ih:=rre_l1 (lr:=lr) hr hq hlast htop hb hlen h1000 (r.length-1) 1 (by omega) (by omega)
  have pr:=zbE hr (i:=0) (by omega)
  have s1:=za5 pr
  have s2:=za5 hlast
  have s3:=za5 htop
  have m1:pQ 100000 (aZ (vl (r.getD 0 [])*vl last)):=kZ (s1.mul s2) (by omega)
  by_cases hs:r.length-q.length≤0
  · have e2:Int.toNat (0-(r.length:Int)+(q.length:Int))=0-(r.length-q.length):=by omega
    have pq:=zbE hq (i:=0-(r.length-q.length)) (by omega)
    have s4:=za5 pq
    have m2:pQ 390000 (aZ (vl (aZ (vl (r.getD 0 [])*vl last))*vl last)):=by rw [cZ];exact kZ ((s1.mul s2).mul s2) (by omega)
    have m3:pQ 100000 (aZ (vl top*vl last)):=kZ (s3.mul s2) (by omega)
    have m4:pQ 390000 (aZ (vl (aZ (vl top*vl last))*vl (q.getD (0-(r.length-q.length)) []))):=by rw [cZ];exact kZ ((s3.mul s2).mul s4) (by omega)
    have hx:=znL (q:=q) (r:=r) (last:=last) (top:=top) (i:=0) hs
    have go:=@zpJ q last r top lr (by omega) ⟨pr.mono (by omega),hlast.mono (by omega)⟩ ⟨m1,hlast.mono (by omega)⟩ (by omega) (by omega) (by omega) (by omega) (by omega) ⟨htop.mono (by omega),hlast.mono (by omega)⟩
      (by rw [e2];exact ⟨m3,pq.mono (by omega)⟩) (by rw [e2];exact ⟨m2,m4⟩) (by simp) (by simp) (by simp) (by simp) (Ex.exit 2,zbw q last r top lr r.length r.length (rsL q r last top r.length))
    rw [e2] at go
    refine go ?_
    rw [show rsL q r last top 1=[rsF q r last top 0] from rfl,← hx] at ih
    exact ih
  · have hx:=znM (q:=q) (r:=r) (last:=last) (top:=top) (i:=0) hs
    have go:=@zpK q last r top lr (by omega) ⟨pr.mono (by omega),hlast.mono (by omega)⟩ ⟨m1,hlast.mono (by omega)⟩ (by omega) (by omega) (by omega) (by simp) (by simp) (by simp) (by simp) (Ex.exit 2,zbw q last r top lr r.length r.length (rsL q r last top r.length))
    refine go ?_
    rw [show rsL q r last top 1=[rsF q r last top 0] from rfl,← hx] at ih
    exact ih
theorem rre_l0s {q r:List (List Int)} {last top:List Int} {N M:Nat} (hr:∀l∈r,pQ N l) (hq:∀l∈q,pQ M l) (hlast:pQ M last) (htop:pQ N top) (hb:N+2*M+20≤90000) (hq0:1≤q.length) (hlen:q.length≤r.length) (h1000:r.length≤1000) :
    zcO (zft q last r.length top r) (Ex.exit 2,zbv q last r.length top r r.length r.length (rsL q r last top r.length)):=by
  have ih:=rre_l0 hr hq hlast htop hb hlen h1000 (r.length-1) 1 (by omega) (by omega)
  have pr:=zbE hr (i:=0) (by omega)
  have s1:=za5 pr
  have s2:=za5 hlast
  have s3:=za5 htop
  have m1:pQ 100000 (aZ (vl (r.getD 0 [])*vl last)):=kZ (s1.mul s2) (by omega)
  by_cases hs:r.length-q.length≤0
  · have e2:Int.toNat (0-(r.length:Int)+(q.length:Int))=0-(r.length-q.length):=by omega
    have pq:=zbE hq (i:=0-(r.length-q.length)) (by omega)
    have s4:=za5 pq
    have m2:pQ 390000 (aZ (vl (aZ (vl (r.getD 0 [])*vl last))*vl last)):=by rw [cZ];exact kZ ((s1.mul s2).mul s2) (by omega)
    have m3:pQ 100000 (aZ (vl top*vl last)):=kZ (s3.mul s2) (by omega)
    have m4:pQ 390000 (aZ (vl (aZ (vl top*vl last))*vl (q.getD (0-(r.length-q.length)) []))):=by rw [cZ];exact kZ ((s3.mul s2).mul s4) (by omega)
    have hx:=znL (q:=q) (r:=r) (last:=last) (top:=top) (i:=0) hs
    have go:=@zpE q last r.length top r (by omega) (by omega) ⟨pr.mono (by omega),hlast.mono (by omega)⟩ ⟨m1,hlast.mono (by omega)⟩ (by omega) (by omega) (by omega) (by omega) (by omega) ⟨htop.mono (by omega),hlast.mono (by omega)⟩
      (by rw [e2];exact ⟨m3,pq.mono (by omega)⟩) (by rw [e2];exact ⟨m2,m4⟩) (by simp) (by simp) (by simp) (by simp) (Ex.exit 2,zbv q last r.length top r r.length r.length (rsL q r last top r.length))
    rw [e2] at go
    refine go ?_
    rw [show rsL q r last top 1=[rsF q r last top 0] from rfl,← hx] at ih
    exact ih
  · have hx:=znM (q:=q) (r:=r) (last:=last) (top:=top) (i:=0) hs
    have go:=@zpF q last r.length top r (by omega) (by omega) ⟨pr.mono (by omega),hlast.mono (by omega)⟩ ⟨m1,hlast.mono (by omega)⟩ (by omega) (by omega) (by omega) (by simp) (by simp) (by simp) (by simp) (Ex.exit 2,zbv q last r.length top r r.length r.length (rsL q r last top r.length))
    refine go ?_
    rw [show rsL q r last top 1=[rsF q r last top 0] from rfl,← hx] at ih
    exact ih
def rsT (q:List (List Int)):Nat→List (List Int)→List (List Int)
  | 0,r=>r
  | k + 1,r=>if q.length≤r.length then
      rsT q k ((rsL q r (q.getD (q.length-1) []) (r.getD (r.length-1) []) r.length).take (cutN (vls (rsL q r (q.getD (q.length-1) []) (r.getD (r.length-1) []) r.length)) r.length))
    else r
theorem rsF_pQ {q r:List (List Int)} {last top:List Int} {N M:Nat} (hr:∀l∈r,pQ N l) (hq:∀l∈q,pQ M l) (hlast:pQ M last) (htop:pQ N top) {i:Nat} (hi:i<r.length) (hlen:q.length≤r.length):pQ (N+2*M+10) (rsF q r last top i):=by
  have s1:=za5 (zbE hr (i:=i) hi)
  have s2:=za5 hlast
  have s3:=za5 htop
  unfold rsF
  refine kZ (k:=N+2*M+10) ?_ (Nat.le_refl _)
  unfold agC
  rw [← zaY]
  split
  · rename_i hs
    have s4:=za5 (zbE hq (i:=i-(r.length-q.length)) (by omega))
    rw [← zaY]
    exact Sz.add (s1.mul (s2.mul s2)) (((s3.mul s2).mul s4).neg) (by omega) (by omega)
  · exact(s1.mul (s2.mul s2)).mono (by omega)
theorem rsL_pQ {q r:List (List Int)} {last top:List Int} {N M:Nat} (hr:∀l∈r,pQ N l) (hq:∀l∈q,pQ M l) (hlast:pQ M last) (htop:pQ N top) (hlen:q.length≤r.length):∀l∈rsL q r last top r.length,pQ (N+2*M+10) l:=by
  intro l hl
  unfold rsL at hl
  obtain ⟨i,hi,rfl⟩:=List.mem_map.1 hl
  exact rsF_pQ hr hq hlast htop (List.mem_range.1 hi) hlen
theorem rsTop {q r:List (List Int)} (hq0:1≤q.length) (hlen:q.length≤r.length):cutN (vls (rsL q r (q.getD (q.length-1) []) (r.getD (r.length-1) []) r.length)) r.length<r.length:=by
  obtain ⟨m,hm⟩:∃m,r.length=m+1:=⟨r.length-1,by omega⟩
  have h0:(vls (rsL q r (q.getD (q.length-1) []) (r.getD (r.length-1) []) r.length)).getD m 0=0:=by
    rw [← zaY]
    have e:(rsL q r (q.getD (q.length-1) []) (r.getD (r.length-1) []) r.length).getD m []=rsF q r (q.getD (q.length-1) []) (r.getD (r.length-1) []) m:=by
      unfold rsL
      rw [List.getD_eq_getElem?_getD,List.getElem?_map,List.getElem?_range (by omega)];rfl
    rw [e]
    unfold rsF agC
    rw [cZ,if_pos (by omega),← zaY,← zaY,show m-(r.length-q.length)=q.length-1 by omega,show r.length-1=m by omega]
    grind
  rw [hm]
  rw [hm] at h0
  exact Nat.lt_succ_of_le (znb h0)
theorem rre_l2 {q:List (List Int)} {M n6:Nat} {lr:List (List Int)} (hq0:1≤q.length) (hql:q.length≤1000) (hq:∀l∈q,pQ M l):∀(k:Nat) (r:List (List Int)) (N:Nat),r.length≤k→r.length≤1000→(∀l∈r,pQ N l)→N+k*(2*M+10)≤89000→M≤40000 →
    zfu (zfv q (q.getD (q.length-1) []) n6 lr r) (Ex.exit 0,zdW q (q.getD (q.length-1) []) n6 lr (rsT q k r))∧(∀l∈rsT q k r,pQ (N+k*(2*M+10)) l)∧(rsT q k r).length≤r.length∧(rsT q k r).length<q.length
  | k, r, N,hk,hm,hr,hs,hM=>by
    by_cases hc:q.length≤r.length
    · obtain ⟨k,rfl⟩:∃j,k=j+1:=⟨k-1,by omega⟩
      have hmul:(k+1)*(2*M+10)=k*(2*M+10)+(2*M+10):=Nat.succ_mul _ _
      have hlast:=zbE hq (i:=q.length-1) (by omega)
      have htop:=zbE hr (i:=r.length-1) (by omega)
      have L1:=rre_l1s (lr:=lr) hr hq hlast htop (by omega) hq0 hc hm
      have hP:=rsL_pQ hr hq hlast htop hc
      have hT:=rsTop hq0 hc
      have hl:=zdZ q r (q.getD (q.length-1) []) (r.getD (r.length-1) []) r.length
      have e1:Int.toNat ((r.length:Int)-1)=r.length-1:=by omega
      have e:rsT q (k+1) r=rsT q k ((rsL q r (q.getD (q.length-1) []) (r.getD (r.length-1) []) r.length).take (cutN (vls (rsL q r (q.getD (q.length-1) []) (r.getD (r.length-1) []) r.length)) r.length)):=by
        conv=>lhs;unfold rsT
        rw [if_pos hc]
      generalize hX:rsL q r (q.getD (q.length-1) []) (r.getD (r.length-1) []) r.length=X at *
      have hl2:(X.take (cutN (vls X) r.length)).length=cutN (vls X) r.length:=by rw [List.length_take];omega
      obtain ⟨i1,i2,i3,i4⟩:=rre_l2 (n6:=n6) (lr:=lr) hq0 hql hq k (X.take (cutN (vls X) r.length)) (N+2*M+10) (by omega) (by omega) (fun l h=>hP l (List.mem_of_mem_take h)) (by omega) hM
      have go:=@zpQ q (q.getD (q.length-1) []) n6 lr r r.length r.length X (by omega) (by omega) (by omega) (by omega) (by rw [e1];exact L1) (by omega)
        (by
          rw [List.take_of_length_le (by omega)]
          exact ⟨by omega,fun l h=>(hP l h).mono (by omega)⟩) (Ex.exit 0,zdW q (q.getD (q.length-1) []) n6 lr (rsT q (k+1) r))
      rw [show X.take r.length=X from List.take_of_length_le (by omega),show X.length=r.length from hl] at go
      rw [e] at go ⊢
      exact ⟨go i1,fun l h=>(i2 l h).mono (by omega),by omega,i4⟩
    · have e:rsT q k r=r:=by
        cases k with
        | zero=>rfl
        | succ k=>unfold rsT;rw [if_neg hc]
      rw [e]
      exact ⟨zpR q _ n6 lr r (by omega),fun l h=>(hr l h).mono (Nat.le_add_right _ _),Nat.le_refl _,by omega⟩
def pRe (p q:List (List Int)):Prop:=(∃N M:Nat,(∀l∈p,pQ N l)∧(∀l∈q,pQ M l)∧N+p.length*(2*M+10)≤89000∧M≤40000)∧p.length≤1000∧1≤q.length∧q.length≤1000
instance tRe {p q:List (List Int)}:Tst (pRe p q):=⟨false,fun h=>by cases h⟩
theorem rest_fc (p q:List (List Int)) (h:pRe p q):FC Tryz.prog 148 [.lst (.sl (.int .i64)) p,.lst (.sl (.int .i64)) q] (.lst (.sl (.int .i64)) (rsT q p.length p)):=by
  obtain ⟨⟨N,M,hp,hq,hs,hM⟩,hpl,hq0,hql⟩:=h
  have e1:Int.toNat ((q.length:Int)-1)=q.length-1:=by omega
  by_cases hc:q.length≤p.length
  · obtain ⟨k,hk⟩:∃j,p.length=j+1:=⟨p.length-1,by omega⟩
    have hmul:(k+1)*(2*M+10)=k*(2*M+10)+(2*M+10):=Nat.succ_mul _ _
    rw [hk,hmul] at hs
    have hlast:=zbE hq (i:=q.length-1) (by omega)
    have htop:=zbE hp (i:=p.length-1) (by omega)
    have L0:=rre_l0s hp hq hlast htop (by omega) hq0 hc hpl
    have hP:=rsL_pQ hp hq hlast htop hc
    have hT:=rsTop hq0 hc
    have hl:=zdZ q p (q.getD (q.length-1) []) (p.getD (p.length-1) []) p.length
    have e2:Int.toNat ((p.length:Int)-1)=p.length-1:=by omega
    have e:rsT q p.length p=rsT q k ((rsL q p (q.getD (q.length-1) []) (p.getD (p.length-1) []) p.length).take (cutN (vls (rsL q p (q.getD (q.length-1) []) (p.getD (p.length-1) []) p.length)) p.length)):=by
      conv=>lhs;rw [hk];unfold rsT
      rw [if_pos hc]
    generalize hX:rsL q p (q.getD (q.length-1) []) (p.getD (p.length-1) []) p.length=X at *
    have hl2:(X.take (cutN (vls X) p.length)).length=cutN (vls X) p.length:=by rw [List.length_take];omega
    obtain ⟨i1,_,_,_⟩:=rre_l2 (n6:=p.length) (lr:=p) hq0 hql hq k (X.take (cutN (vls X) p.length)) (N+2*M+10) (by omega) (by omega) (fun l h=>hP l (List.mem_of_mem_take h)) (by omega) hM
    have go:=@zpO q (q.getD (q.length-1) []) p.length p p.length p.length X (by omega) (by omega) (by omega) (by omega) (by omega) (by rw [e2];exact L0) (by omega)
      (by
        rw [List.take_of_length_le (by omega)]
        exact ⟨by omega,fun l h=>(hP l h).mono (by omega)⟩) (Ex.exit 0,zdW q (q.getD (q.length-1) []) p.length p (rsT q p.length p))
    rw [show X.take p.length=X from List.take_of_length_le (by omega),show X.length=p.length from hl] at go
    rw [e] at go ⊢
    have f:=go i1
    exact rre_1 p q _ (by omega) (by omega) (by omega) (by omega) (by omega) (by rw [e1,Nat.zero_add];exact f)
  · have e:rsT q p.length p=p:=by
      cases hk:p.length with
      | zero=>rfl
      | succ k=>unfold rsT;rw [if_neg hc]
    rw [e]
    have:=rre_0 p q (by omega) (by omega) (by omega) (by omega) (by omega) (by rw [e1,Nat.zero_add];exact zpP q _ p.length p (by omega)) (by simp)
    rw [Nat.zero_add,show List.take p.length (List.take 0 []++p)=p by simp] at this
    exact this
noncomputable def ctrH6:Ctr:=(148,cD2 (.sl (.sl (.int .i64))) (.sl (.sl (.int .i64))) pRe (fun p q=>.lst (.sl (.int .i64)) (rsT q p.length p))) :: ctrH5
theorem zkK:∀p∈ctrH6,lZ Tryz.prog p.1 p.2:=CAll.cons (zg7 rest_fc) zkJ
theorem zoG:(dZ Tryz.prog ctrH6 bw [] kdR).OK:=OZ zcM mixed zkK zcF
noncomputable section
abbrev ze3 (s:St) (r:Ex × St):Prop:=Loops 1 Tryz.prog (pZ Tryz.prog 163 0) s r
abbrev zgK (a:List (List Int)) (b c:List Int) (d:Int):St:=⟨sp 32 [(0,.lst (EK.sl (.int .i64)) a),(1,.sq b),(2,.sq c),(7,aN),(8,.own 0 0 1 1),(9,aI d)],[.ints [1] true],[]⟩
abbrev ze4 (a:List (List Int)) (b c:List Int) (d e f g:Int):St:=⟨sp 32 [(0,.lst (EK.sl (.int .i64)) a),(1,.sq b),(2,.sq c),(7,.ni e),(8,.ni f),(9,aI g)],[.ints [1] false],[]⟩
abbrev zlA (a:List (List Int)) (b c:List Int) (d:Int):St:=⟨sp 32 [(0,.lst (EK.sl (.int .i64)) a),(1,.sq b),(2,.sq c),(7,aN),(8,.own 0 0 1 1),(9,aI d)],[.ints [1] true],[]⟩
abbrev zdP (a:List (List Int)) (b c:List Int) (d e f g:Int):St:=⟨sp 32 [(0,.lst (EK.sl (.int .i64)) a),(1,.sq b),(2,.sq c),(7,.ni e),(8,.ni f),(9,aI g)],[.ints [1] false],[]⟩
theorem zoX (a:List (List Int)) (b d:List Int) (f:Int) (h1:f≥0) (h2:0≤f) (h3:f<(a.length:Int)) (h4:pMu [] b) (h5:1≤1) (h6:pMu (a.getD f.toNat (EK.dflt (EK.sl (.int .i64)))) (List.take 1 [1])) (h7:pAd (aZ (0*vl b)) (aZ (vl (a.getD f.toNat (EK.dflt (EK.sl (.int .i64))))*1))) (h8:pMu (List.take 1 [1]) d) (h9:r64 (f-1)) {r:Ex × St} (k:ze3 (ze4 a b d f (vl (aZ (0*vl b))+vl (aZ (vl (a.getD f.toNat (EK.dflt (EK.sl (.int .i64))))*1))) (1*vl d) (f-1)) r):ze3 (zgK a b d f) r:=Loops.go (LS.at zoG 60 [] [0,1,2,7,8,9] [] [1] (.t h1<|.t h2<|.t h3<|.c h4<|.c h5<|.c h6<|.c h7<|.c h8<|.i h9<|.e) [1,2,3,4,5,6,7,5,8,9]) k
theorem zoY (a:List (List Int)) (b c:List Int) (d:Int) (h1:¬(d≥0)):ze3 (zgK a b c d) (Ex.exit 0,(zlA a b c d)):=Loops.fin (LS.at zoG 60 [] [0,1,2,7,8,9] [] [0] (.f h1<|.e) [1]) (fun h=>nomatch h)
theorem zoZ (a:List (List Int)) (b d:List Int) (f g j l:Int) (h1:l≥0) (h2:0≤l) (h3:l<(a.length:Int)) (h4:pMu (aZ g) b) (h5:pMu (a.getD l.toNat (EK.dflt (EK.sl (.int .i64)))) (aZ j)) (h6:pAd (aZ (vl (aZ g)*vl b)) (aZ (vl (a.getD l.toNat (EK.dflt (EK.sl (.int .i64))))*vl (aZ j)))) (h7:pMu (aZ j) d) (h8:r64 (l-1)) {r:Ex × St} (k:ze3 (ze4 a b d f (vl (aZ (vl (aZ g)*vl b))+vl (aZ (vl (a.getD l.toNat (EK.dflt (EK.sl (.int .i64))))*vl (aZ j)))) (vl (aZ j)*vl d) (l-1)) r):ze3 (ze4 a b d f g j l) r:=Loops.go (LS.at zoG 60 [] [0,1,2,7,8,9] [] [1] (.t h1<|.t h2<|.t h3<|.c h4<|.c h5<|.c h6<|.c h7<|.i h8<|.e) [1,2,3,4,5,6,7,8]) k
theorem zo0 (a:List (List Int)) (b c:List Int) (d g i j:Int) (h1:¬(j≥0)):ze3 (ze4 a b c d g i j) (Ex.exit 0,(zdP a b c d g i j)):=Loops.fin (LS.at zoG 60 [] [0,1,2,7,8,9] [] [0] (.f h1<|.e) [1]) (fun h=>nomatch h)
theorem rat_0 (p:List (List Int)) (a b:List Int) (h1:r64 ((p.length:Int)-1)) (hL1:ze3 (zgK p a b ((p.length:Int)-1)) (Ex.exit 0,(zlA p a b ((p.length:Int)-1)))):FC Tryz.prog 163 [.lst (.sl (.int .i64)) p,.sq a,.sq b] (aN):=fZ zoG 60 [] (.i h1<|.v [0,1,2,7,8,9] [] hL1<|.e) [1,0,2]
theorem rat_1 (p:List (List Int)) (a b:List Int) (c d f:Int) (h1:r64 ((p.length:Int)-1)) (hL1:ze3 (zgK p a b ((p.length:Int)-1)) (Ex.exit 0,(zdP p a b ((p.length:Int)-1) c d f))):FC Tryz.prog 163 [.lst (.sl (.int .i64)) p,.sq a,.sq b] (.ni c):=fZ zoG 60 [] (.i h1<|.v [0,1,2,7,8,9] [] hL1<|.e) [1,0,2]
end
open Go.Kf
theorem sg_sz {K A:Nat} {a b:Int} (ha:Sz A a) (hb:Sz A b):∀(l:List Int),(∀c∈l,Sz K c)→Sz (1+l.length*(A+1)) (zlO a b l).2∧Sz (K+10+l.length*(A+10)) (zlO a b l).1
  | [],_=>⟨Sz.lit (z:=1) (by decide) (by simp),Sz.zero⟩
  | c :: l,h=>by
    obtain ⟨h1,h2⟩:=sg_sz ha hb l fun d hd=>h d (by simp [hd])
    have m1:(l.length+1)*(A+1)=l.length*(A+1)+(A+1):=Nat.succ_mul _ _
    have m2:(l.length+1)*(A+10)=l.length*(A+10)+(A+10):=Nat.succ_mul _ _
    have m3:l.length*(A+10)=l.length*(A+1)+l.length*9:=by rw [← Nat.mul_add]
    refine ⟨?_,?_⟩
    · show Sz (1+(l.length+1)*(A+1)) ((zlO a b l).2*b)
      exact(h1.mul hb).mono (by omega)
    · show Sz (K+10+(l.length+1)*(A+10)) ((zlO a b l).1*a+c*(zlO a b l).2)
      exact Sz.add (h2.mul ha) ((h c (by simp)).mul h1) (by omega) (by omega)
theorem zd2 (p:List (List Int)):(vls p).length=p.length:=by simp [vls]
theorem zn2 {p:List (List Int)} {i:Nat} (h:i<p.length):(vls p).drop i=vl (p.getD i []) :: (vls p).drop (i+1):=by
  rw [zfQ (by rw [zd2];exact h),zaY]
theorem vls_sz {p:List (List Int)} {K:Nat} (hp:∀l∈p,pQ K l):∀c∈vls p,Sz (K+3) c:=fun c hc=>by
  obtain ⟨l,hl,rfl⟩:=List.mem_map.1 hc
  exact za5 (hp l hl)
theorem znD {p:List (List Int)} {a b:List Int} {K A:Nat} {t9:Int} (hp:∀l∈p,pQ K l) (ha:pQ A a) (hb:pQ A b) (hl:p.length≤1000) (hs:K+30+p.length*(A+13)≤90000) :
    ∀(i:Nat),i≤p.length→ze3 (ze4 p a b t9 (zlO (vl a) (vl b) ((vls p).drop i)).1 (zlO (vl a) (vl b) ((vls p).drop i)).2 ((i:Int)-1)) (Ex.exit 0,zdP p a b t9 (zag (vls p) (vl a) (vl b)) (zlO (vl a) (vl b) (vls p)).2 (((0:Nat):Int)-1))
  | 0,_=>zo0 p a b t9 _ _ _ (by omega)
  | i + 1,hi=>by
    have ih:=znD (t9:=t9) hp ha hb hl hs i (by omega)
    have e1:Int.toNat (((i+1:Nat):Int)-1)=i:=by omega
    have e2:((i+1:Nat):Int)-1-1=(i:Int)-1:=by omega
    obtain ⟨s1,s2⟩:=sg_sz (za5 ha) (za5 hb) ((vls p).drop (i+1)) fun c hc=>vls_sz hp c (List.mem_of_mem_drop hc)
    have hdl:((vls p).drop (i+1)).length≤p.length:=by rw [List.length_drop,zd2];omega
    have q1:((vls p).drop (i+1)).length*(A+3+1)≤p.length*(A+13):=Nat.mul_le_mul hdl (by omega)
    have q2:((vls p).drop (i+1)).length*(A+3+10)≤p.length*(A+13):=Nat.mul_le_mul hdl (by omega)
    have hA:1*(A+13)≤p.length*(A+13):=Nat.mul_le_mul_right _ (by omega)
    have pp:=zbE hp (i:=i) (by omega)
    rw [zn2 (show i<p.length by omega)] at ih
    generalize hz:zlO (vl a) (vl b) ((vls p).drop (i+1))=z at *
    have w1:pQ 90000 (aZ z.2):=kZ s1 (by omega)
    have w2:pQ 90000 (aZ z.1):=kZ s2 (by omega)
    have go:=@zoZ p a b t9 z.1 z.2 (((i+1:Nat):Int)-1) (by omega) (by omega) (by omega) ⟨w2.mono (by omega),ha.mono (by omega)⟩ (by rw [e1];exact ⟨pp.mono (by omega),w1.mono (by omega)⟩)
      (by
        rw [e1,cZ,cZ]
        exact ⟨kZ (s2.mul (za5 ha)) (by omega),kZ ((za5 pp).mul s1) (by omega)⟩) ⟨w1.mono (by omega),hb.mono (by omega)⟩ (by omega) (Ex.exit 0,zdP p a b t9 (zag (vls p) (vl a) (vl b)) (zlO (vl a) (vl b) (vls p)).2 (((0:Nat):Int)-1))
    simp only [cZ,e1,e2] at go
    refine go ?_
    have e3:zlO (vl a) (vl b) (vl (p.getD i []) :: (vls p).drop (i+1))=(z.1*vl a+vl (p.getD i [])*z.2,z.2*vl b):=by rw [← hz];rfl
    rw [e3] at ih
    exact ih
def pAt (p:List (List Int)) (a b:List Int):Prop:=∃K A:Nat,(∀l∈p,pQ K l)∧pQ A a∧pQ A b∧p.length≤1000∧K+30+p.length*(A+13)≤80000
instance tAt {p:List (List Int)} {a b:List Int}:Tst (pAt p a b):=⟨false,fun h=>by cases h⟩
theorem at_fc (p:List (List Int)) (a b:List Int) (h:pAt p a b):FC Tryz.prog 163 [.lst (.sl (.int .i64)) p,.sq a,.sq b] (.ni (zag (vls p) (vl a) (vl b))):=by
  obtain ⟨K,A,hp,ha,hb,hl,hs⟩:=h
  by_cases h0:p=[]
  · subst h0
    have:=rat_0 [] a b ⟨by decide,by decide⟩ (zoY [] a b _ (by simp))
    exact this.res fun E v hv=>hv.toNi (l:=[]) rfl rfl
  · have hpos:0<p.length:=List.length_pos_iff.2 h0
    obtain ⟨m,hm⟩:∃m,p.length=m+1:=⟨p.length-1,by omega⟩
    have e0:(p.length:Int)-1=(m:Int):=by omega
    have L:=znD (t9:=(p.length:Int)-1) hp ha hb hl (by omega) m (by omega)
    have hA:1*(A+13)≤p.length*(A+13):=Nat.mul_le_mul_right _ (by omega)
    have pp:=zbE hp (i:=m) (by omega)
    have e1:Int.toNat ((p.length:Int)-1)=m:=by omega
    have p1:pQ 100000 (List.take 1 [(1:Int)]):=⟨by simp,fun d hd=>by simp at hd;subst hd;unfold bZ;omega⟩
    have go:=@zoX p a b ((p.length:Int)-1) (by omega) (by omega) (by omega) ⟨⟨by simp,fun d hd=>by cases hd⟩,ha.mono (by omega)⟩ (by omega) (by rw [e1];exact ⟨pp.mono (by omega),p1⟩)
      (by
        rw [e1]
        refine ⟨?_,kZ (k:=K+3) (by rw [Int.mul_one];exact za5 pp) (by omega)⟩
        rw [Int.zero_mul];exact kZ (k:=1) Sz.zero (by omega)) ⟨p1,hb.mono (by omega)⟩ (by omega) (Ex.exit 0,zdP p a b ((p.length:Int)-1) (zag (vls p) (vl a) (vl b)) (zlO (vl a) (vl b) (vls p)).2 (((0:Nat):Int)-1))
    simp only [cZ,e1] at go
    have e3:zlO (vl a) (vl b) ((vls p).drop m)=(0*vl a+vl (p.getD m [])*1,1*vl b):=by
      rw [zn2 (show m<p.length by omega),List.drop_of_length_le (by rw [zd2];omega)];rfl
    rw [e3,show(m:Int)-1=(p.length:Int)-1-1 by omega] at L
    exact rat_1 p a b _ _ _ (by omega) (go L)
def cRat (args:List AV):M AV:=match args with
  | [x,y,z]=>do
    let p ← asK (.sl (.sl (.int .i64))) x
    let a ← asK (.sl (.int .i64)) y
    let b ← asK (.sl (.int .i64)) z
    tellD (pAt p a b) (Tst.b (pAt p a b))
    gives (.ni (zag (vls p) (vl a) (vl b)))
  | _=>fail 300
noncomputable def ctrH7:Ctr:=(163,cRat) :: ctrH6
theorem cRat_ok:lZ Tryz.prog 163 cRat:=by
  intro args _
  unfold cRat
  split
  · exact Spec.bind (asK_spec.mono fun p hp=>Spec.bind (asK_spec.mono fun a ha=>Spec.bind (asK_spec.mono fun b hb=>Spec.bind (Spec.tellD Tst.ok fun h=>Spec.gives ((at_fc p a b h).le (.cons hp (.cons ha (.cons hb .nil))) (Le.refl _))))))
  · exact Spec.fail
theorem zhd:∀p∈ctrH7,lZ Tryz.prog p.1 p.2:=CAll.cons cRat_ok zkK
theorem zoH:(dZ Tryz.prog ctrH7 bw [] kdR).OK:=OZ zcM mixed zhd zcF
noncomputable section
abbrev zcp (s:St) (r:Ex × St):Prop:=Loops 0 Tryz.prog (pZ Tryz.prog 149 0) s r
abbrev zat (a:List (List (List Int))) (b c:List Int) (d e f:Int):St:=⟨sp 38 [(0,.lst (EK.sl (EK.sl (.int .i64))) a),(1,.sq b),(2,.sq c),(7,aI d),(8,aI e),(9,aI f)],[],[]⟩
abbrev zb7 (a:List (List (List Int))) (b c:List Int) (d e f:Int):St:=⟨sp 38 [(0,.lst (EK.sl (EK.sl (.int .i64))) a),(1,.sq b),(2,.sq c),(7,aI d),(8,aI e),(9,aI f)],[],[]⟩
theorem zo1 (a:List (List (List Int))) (b d:List Int) (f g j:Int) (h1:j<(a.length:Int)) (h2:0≤j) (h3:pAt (a.getD j.toNat (EK.dflt (EK.sl (EK.sl (.int .i64))))) b d) (h4:pX (aZ (zag (vls (a.getD j.toNat (EK.dflt (EK.sl (EK.sl (.int .i64)))))) (vl b) (vl d)))) (h5:(vl (aZ (zag (vls (a.getD j.toNat (EK.dflt (EK.sl (EK.sl (.int .i64)))))) (vl b) (vl d)))).sign≠0) (h6:g≠0) (h7:(vl (aZ (zag (vls (a.getD j.toNat (EK.dflt (EK.sl (EK.sl (.int .i64)))))) (vl b) (vl d)))).sign≠g) (h8:r64 (f+1)) (h9:r64 (j+1)) {r:Ex × St} (k:zcp (zat a b d (f+1) (vl (aZ (zag (vls (a.getD j.toNat (EK.dflt (EK.sl (EK.sl (.int .i64)))))) (vl b) (vl d)))).sign (j+1)) r):zcp (zat a b d f g j) r:=Loops.go (LS.at zoH 60 [] [0,1,2,7,8,9] [] [1,1,1,1] (.t h1<|.t h2<|.c h3<|.c h4<|.c (bne_iff_ne.2 h5)<|.c (bne_iff_ne.2 h6)<|.c (bne_iff_ne.2 h7)<|.i h8<|.i h9<|.e) [1,2,1,3,4,5,6,7,8,9]) k
theorem zo2 (a:List (List (List Int))) (b d:List Int) (f g j:Int) (h1:j<(a.length:Int)) (h2:0≤j) (h3:pAt (a.getD j.toNat (EK.dflt (EK.sl (EK.sl (.int .i64))))) b d) (h4:pX (aZ (zag (vls (a.getD j.toNat (EK.dflt (EK.sl (EK.sl (.int .i64)))))) (vl b) (vl d)))) (h5:(vl (aZ (zag (vls (a.getD j.toNat (EK.dflt (EK.sl (EK.sl (.int .i64)))))) (vl b) (vl d)))).sign≠0) (h6:g≠0) (h7:(vl (aZ (zag (vls (a.getD j.toNat (EK.dflt (EK.sl (EK.sl (.int .i64)))))) (vl b) (vl d)))).sign=g) (h8:r64 (j+1)) {r:Ex × St} (k:zcp (zat a b d f (vl (aZ (zag (vls (a.getD j.toNat (EK.dflt (EK.sl (EK.sl (.int .i64)))))) (vl b) (vl d)))).sign (j+1)) r):zcp (zat a b d f g j) r:=Loops.go (LS.at zoH 60 [] [0,1,2,7,8,9] [] [1,1,1,0] (.t h1<|.t h2<|.c h3<|.c h4<|.c (bne_iff_ne.2 h5)<|.c (bne_iff_ne.2 h6)<|.c (bne_eq_false_iff_eq.2 h7)<|.i h8<|.e) [1,2,1,3,4,5,6,7,8]) k
theorem zo3 (a:List (List (List Int))) (b d:List Int) (f g j:Int) (h1:j<(a.length:Int)) (h2:0≤j) (h3:pAt (a.getD j.toNat (EK.dflt (EK.sl (EK.sl (.int .i64))))) b d) (h4:pX (aZ (zag (vls (a.getD j.toNat (EK.dflt (EK.sl (EK.sl (.int .i64)))))) (vl b) (vl d)))) (h5:(vl (aZ (zag (vls (a.getD j.toNat (EK.dflt (EK.sl (EK.sl (.int .i64)))))) (vl b) (vl d)))).sign≠0) (h6:g=0) (h7:r64 (j+1)) {r:Ex × St} (k:zcp (zat a b d f (vl (aZ (zag (vls (a.getD j.toNat (EK.dflt (EK.sl (EK.sl (.int .i64)))))) (vl b) (vl d)))).sign (j+1)) r):zcp (zat a b d f g j) r:=Loops.go (LS.at zoH 60 [] [0,1,2,7,8,9] [] [1,1,0] (.t h1<|.t h2<|.c h3<|.c h4<|.c (bne_iff_ne.2 h5)<|.c (bne_eq_false_iff_eq.2 h6)<|.i h7<|.e) [1,2,1,3,4,5,6,7]) k
theorem zo4 (a:List (List (List Int))) (b d:List Int) (f g j:Int) (h1:j<(a.length:Int)) (h2:0≤j) (h3:pAt (a.getD j.toNat (EK.dflt (EK.sl (EK.sl (.int .i64))))) b d) (h4:pX (aZ (zag (vls (a.getD j.toNat (EK.dflt (EK.sl (EK.sl (.int .i64)))))) (vl b) (vl d)))) (h5:(vl (aZ (zag (vls (a.getD j.toNat (EK.dflt (EK.sl (EK.sl (.int .i64)))))) (vl b) (vl d)))).sign=0) (h6:r64 (j+1)) {r:Ex × St} (k:zcp (zat a b d f g (j+1)) r):zcp (zat a b d f g j) r:=Loops.go (LS.at zoH 60 [] [0,1,2,7,8,9] [] [1,0] (.t h1<|.t h2<|.c h3<|.c h4<|.c (bne_eq_false_iff_eq.2 h5)<|.i h6<|.e) [1,2,1,3,4,5,6]) k
theorem zo5 (a:List (List (List Int))) (b c:List Int) (d g i:Int) (h1:¬(i<(a.length:Int))):zcp (zat a b c d g i) (Ex.exit 0,(zb7 a b c d g i)):=Loops.fin (LS.at zoH 60 [] [0,1,2,7,8,9] [] [0] (.f h1<|.e) [1]) (fun h=>nomatch h)
theorem rch_0 (p:List (List (List Int))) (a b:List Int) (c d f:Int) (hL1:zcp (zat p a b (0) (0) (0)) (Ex.exit 0,(zb7 p a b c d f))):FC Tryz.prog 149 [.lst (.sl (.sl (.int .i64))) p,.sq a,.sq b] (aI c):=fZ zoH 60 [] (.v [0,1,2,7,8,9] [] hL1<|.e) [0,1]
end
theorem pAt_sz {p:List (List Int)} {a b:List Int} (h:pAt p a b):Sz 90000 (zag (vls p) (vl a) (vl b)):=by
  obtain ⟨K,A,hp,ha,hb,hl,hs⟩:=h
  have h1:=(sg_sz (za5 ha) (za5 hb) (vls p) (vls_sz hp)).2
  rw [zd2] at h1
  exact h1.mono (by
    have:p.length*(A+3+10)=p.length*(A+13):=by rw [Nat.add_assoc]
    omega)
def zbb:List Int→Int→Int→Int × Int
  | [],n,l=>(n,l)
  | v :: vs,n,l=>if v.sign=0 then zbb vs n l else if l≠0∧v.sign≠l then zbb vs (n+1) v.sign else zbb vs n v.sign
def svs (L:List (List (List Int))) (a b:Int):List Int:=L.map fun p=>zag (vls p) a b
theorem ze5 {L:List (List (List Int))} {a b:List Int} (hL:∀p∈L,pAt p a b) (hl:L.length≤1000):∀(m i:Nat) (n l:Int),i+m=L.length→0≤n→n≤i →
    zcp (zat L a b n l i) (Ex.exit 0,zb7 L a b (zbb ((svs L (vl a) (vl b)).drop i) n l).1 (zbb ((svs L (vl a) (vl b)).drop i) n l).2 L.length)
  | 0,i,n,l,hi,h0,h1=>by
    obtain rfl:i=L.length:=by omega
    rw [List.drop_of_length_le (by simp [svs])]
    exact zo5 L a b n l _ (by omega)
  | m + 1, i,n,l,hi,h0,h1=>by
    have hlt:i<L.length:=by omega
    have e1:Int.toNat (i:Int)=i:=rfl
    have hg:L.getD i []=L[i]:=by simp [List.getD,hlt]
    have hp:pAt (L.getD i []) a b:=by rw [hg];exact hL _ (List.getElem_mem hlt)
    have hx:pX (aZ (zag (vls (L.getD i [])) (vl a) (vl b))):=kZ (pAt_sz hp) (by decide)
    have hd:(svs L (vl a) (vl b)).drop i=zag (vls (L.getD i [])) (vl a) (vl b) :: (svs L (vl a) (vl b)).drop (i+1):=by
      rw [List.drop_eq_getElem_cons (by simpa [svs] using hlt),hg];simp [svs]
    rw [hd]
    have nv:=cZ (zag (vls (L.getD i [])) (vl a) (vl b))
    by_cases hz:(zag (vls (L.getD i [])) (vl a) (vl b)).sign=0
    · have ih:=ze5 hL hl m (i+1) n l (by omega) h0 (by omega)
      have go:=@zo4 L a b n l i (by omega) (by omega) hp hx (by rw [e1];show Int.sign (vl (aZ (zag (vls (L.getD i [])) (vl a) (vl b))))=0;rw [nv];exact hz) (by omega) (Ex.exit 0,zb7 L a b (zbb ((svs L (vl a) (vl b)).drop (i+1)) n l).1 (zbb ((svs L (vl a) (vl b)).drop (i+1)) n l).2 L.length)
      unfold zbb
      rw [if_pos hz]
      exact go ih
    · have hz':Int.sign (vl (aZ (zag (vls (L.getD i [])) (vl a) (vl b))))≠0:=by rw [nv];exact hz
      unfold zbb
      rw [if_neg hz]
      by_cases hl0:l=0
      · rw [if_neg (fun h=>h.1 hl0)]
        have ih:=ze5 hL hl m (i+1) n (zag (vls (L.getD i [])) (vl a) (vl b)).sign (by omega) h0 (by omega)
        have go:=@zo3 L a b n l i (by omega) (by omega) hp hx hz' hl0 (by omega) (Ex.exit 0,zb7 L a b (zbb ((svs L (vl a) (vl b)).drop (i+1)) n (zag (vls (L.getD i [])) (vl a) (vl b)).sign).1 (zbb ((svs L (vl a) (vl b)).drop (i+1)) n (zag (vls (L.getD i [])) (vl a) (vl b)).sign).2 L.length)
        refine go ?_
        show zcp (zat L a b n (Int.sign (vl (aZ (zag (vls (L.getD i [])) (vl a) (vl b))))) ((i:Int)+1)) _
        rw [nv];exact ih
      · by_cases hne:(zag (vls (L.getD i [])) (vl a) (vl b)).sign=l
        · rw [if_neg (fun h=>h.2 hne)]
          have ih:=ze5 hL hl m (i+1) n (zag (vls (L.getD i [])) (vl a) (vl b)).sign (by omega) h0 (by omega)
          have go:=@zo2 L a b n l i (by omega) (by omega) hp hx hz' hl0 (by rw [e1];show Int.sign (vl (aZ (zag (vls (L.getD i [])) (vl a) (vl b))))=l;rw [nv];exact hne) (by omega) (Ex.exit 0,zb7 L a b (zbb ((svs L (vl a) (vl b)).drop (i+1)) n (zag (vls (L.getD i [])) (vl a) (vl b)).sign).1 (zbb ((svs L (vl a) (vl b)).drop (i+1)) n (zag (vls (L.getD i [])) (vl a) (vl b)).sign).2 L.length)
          refine go ?_
          show zcp (zat L a b n (Int.sign (vl (aZ (zag (vls (L.getD i [])) (vl a) (vl b))))) ((i:Int)+1)) _
          rw [nv];exact ih
        · rw [if_pos ⟨hl0,hne⟩]
          have ih:=ze5 hL hl m (i+1) (n+1) (zag (vls (L.getD i [])) (vl a) (vl b)).sign (by omega) (by omega) (by omega)
          have go:=@zo1 L a b n l i (by omega) (by omega) hp hx hz' hl0 (by rw [e1];show Int.sign (vl (aZ (zag (vls (L.getD i [])) (vl a) (vl b))))≠l;rw [nv];exact hne) (by omega) (by omega) (Ex.exit 0,zb7 L a b (zbb ((svs L (vl a) (vl b)).drop (i+1)) (n+1) (zag (vls (L.getD i [])) (vl a) (vl b)).sign).1 (zbb ((svs L (vl a) (vl b)).drop (i+1)) (n+1) (zag (vls (L.getD i [])) (vl a) (vl b)).sign).2 L.length)
          refine go ?_
          show zcp (zat L a b (n+1) (Int.sign (vl (aZ (zag (vls (L.getD i [])) (vl a) (vl b))))) ((i:Int)+1)) _
          rw [nv];exact ih
def pCh (L:List (List (List Int))) (a b:List Int):Prop:=(∀p∈L,pAt p a b)∧L.length≤1000
instance tCh {L:List (List (List Int))} {a b:List Int}:Tst (pCh L a b):=⟨false,fun h=>by cases h⟩
theorem zoh (L:List (List (List Int))) (a b:List Int) (h:pCh L a b):FC Tryz.prog 149 [.lst (.sl (.sl (.int .i64))) L,.sq a,.sq b] (.lit (.int .i64 (zbb (svs L (vl a) (vl b)) 0 0).1)):=by
  have:=ze5 h.1 h.2 L.length 0 0 0 (by omega) (by omega) (by omega)
  exact rch_0 L a b _ _ _ this
noncomputable section
end
open Go.Kf
theorem zez:∀l:List Int,hZ .whole l=yZ .W l
  | []=>rfl
  | z :: l=>by
    show EK.cells .whole z++hZ .whole l=zf6 .W z++yZ .W l
    rw [zez l];rfl
theorem Le.lst_zlW (l:List Int):Le (.lst .whole l) (.zl .W l):=fun E v h=>by
  cases h with
  | lst h=>exact .zl (by rw [← zez];exact h)
theorem zi0 (l:List Int) (a b:Int) (h:zdc l a b):FC Tryz.prog 153 [.lst .whole l,W a,W b] (.lit (.int .i64 (zag l a b).sign)):=
  (zhY l a b h).le (.cons (Le.lst_zlW l) (LeL.refl _)) (Le.refl _)
theorem agC_map (q r:List (List Int)) (last top:List Int) (i:Nat):vl (rsF q r last top i)=agC (vls q) (vl last*vl last) (vl top*vl last) (r.length-q.length) i ((vls r).getD i 0):=by
  unfold rsF;rw [cZ]
theorem ziH {r r':List Int}:∀n,(∀i,i<n→r.getD i 0=r'.getD i 0)→cutN r n=cutN r' n
  | 0,_=>rfl
  | n+1,h=>by
    unfold cutN
    rw [h n (by omega),ziH n fun i hi=>h i (by omega)]
theorem zos {l:List (List Int)} {c i:Nat} (h:i<c):(l.take c).getD i []=l.getD i []:=by
  simp only [List.getD_eq_getElem?_getD,List.getElem?_take,h,if_true]
theorem rsT_agN {q:List (List Int)} (hq0:1≤q.length):∀(k n:Nat) (r:List (List Int)) (R:List Int),r.length=n→n≤R.length→(∀i,i<n→(vls r).getD i 0=R.getD i 0) →
    (rsT q k r).length=(agN (vls q) k n R).1∧(agN (vls q) k n R).1≤(agN (vls q) k n R).2.length∧∀i,i<(agN (vls q) k n R).1→(vls (rsT q k r)).getD i 0=(agN (vls q) k n R).2.getD i 0
  | 0,n,r,R,hn,hR,h=>⟨hn,hR,h⟩
  | k + 1, n,r,R,hn,hR,h=>by
    unfold rsT agN
    rw [zd2,hn]
    by_cases hc:q.length≤n
    · rw [if_pos hc,if_pos hc]
      have hlast:vl (q.getD (q.length-1) [])=(vls q).getD (q.length-1) 0:=zaY _ _
      have htop:vl (r.getD (n-1) [])=R.getD (n-1) 0:=by rw [zaY,h _ (by omega)]
      have hl:=zdZ q r (q.getD (q.length-1) []) (r.getD (n-1) []) n
      have hcell:∀i,i<n→(vls (rsL q r (q.getD (q.length-1) []) (r.getD (n-1) []) n)).getD i 0=(agR (vls q) ((vls q).getD (q.length-1) 0*(vls q).getD (q.length-1) 0) (R.getD (n-1) 0*(vls q).getD (q.length-1) 0) (n-q.length) R n).getD i 0:=fun i hi=>by
        rw [← zaY,zg2 _ _ _ _ _ _ _ hR,if_pos hi]
        have e:(rsL q r (q.getD (q.length-1) []) (r.getD (n-1) []) n).getD i []=rsF q r (q.getD (q.length-1) []) (r.getD (n-1) []) i:=by
          unfold rsL
          rw [List.getD_eq_getElem?_getD,List.getElem?_map,List.getElem?_range hi];rfl
        rw [e,agC_map,hlast,htop,hn,h i hi]
      simp only
      rw [ziH n hcell]
      have hcl:=zhg (agR (vls q) ((vls q).getD (q.length-1) 0*(vls q).getD (q.length-1) 0) (R.getD (n-1) 0*(vls q).getD (q.length-1) 0) (n-q.length) R n) n
      have hal:=zg3 (vls q) ((vls q).getD (q.length-1) 0*(vls q).getD (q.length-1) 0) (R.getD (n-1) 0*(vls q).getD (q.length-1) 0) (n-q.length) R n
      refine rsT_agN hq0 k _ _ _ (by rw [List.length_take,hl];omega) (by omega) fun i hi=>?_
      rw [← hcell i (by omega),← zaY (List.take _ _) i,zos hi]
      exact zaY _ _
    · rw [if_neg hc,if_neg hc]
      exact ⟨hn,hR,h⟩
noncomputable section
end
open Go.Kf
def chn:Nat→List Int→List Int→List (List Int)
  | 0,_,_=>[]
  | k+1,a,b=>if agst a b=[] then [] else agst a b :: chn k b (agst a b)
def nxR (a b:List (List Int)):List (List Int):=(rsT b a.length a).map fun l=>aZ (-(vl l))
def chR:Nat→List (List Int)→List (List Int)→List (List (List Int))
  | 0,_,_=>[]
  | k+1,a,b=>if rsT b a.length a=[] then [] else nxR a b :: chR k b (nxR a b)
theorem nxR_vls (a b:List (List Int)) (hb:1≤b.length):vls (nxR a b)=agst (vls a) (vls b)∧(rsT b a.length a).length=(agst (vls a) (vls b)).length:=by
  obtain ⟨h1,h2,h3⟩:=rsT_agN (q:=b) hb a.length a.length a (vls a) rfl (by rw [zd2];exact Nat.le_refl _) (fun i _=>rfl)
  have hl:(agst (vls a) (vls b)).length=(rsT b a.length a).length:=by
    unfold agst
    rw [zd2,List.length_take,zfU,h1];omega
  refine ⟨?_,hl.symm⟩
  apply List.ext_getElem
  · unfold nxR vls;simp only [List.length_map];unfold vls at hl;exact hl.symm
  · intro i g1 g2
    have hi:i<(rsT b a.length a).length:=by rw [← hl];exact g2
    have e1:(vls (nxR a b))[i] = -((vls (rsT b a.length a)).getD i 0):=by
      simp only [vls,nxR,List.getElem_map,cZ]
      rw [List.getD_eq_getElem?_getD,List.getElem?_map,List.getElem?_eq_getElem hi];rfl
    rw [e1,h3 i (by omega)]
    have e2:(agst (vls a) (vls b))[i]=(agst (vls a) (vls b)).getD i 0:=by rw [List.getD_eq_getElem?_getD,List.getElem?_eq_getElem g2];rfl
    rw [e2]
    unfold agst
    rw [zd2]
    have e3:∀(n:Nat) (L:List Int),i<n→(L.take n).getD i 0=L.getD i 0:=fun n L h=>by simp [List.getD,List.getElem?_take,h]
    rw [e3 _ _ (by omega),zjL _ _ _ h2,if_pos (by omega)]
theorem chR_vls:∀(k:Nat) (a b:List (List Int)),1≤b.length→(chR k a b).map vls=chn k (vls a) (vls b)
  | 0,_,_,_=>rfl
  | k + 1,a,b,hb=>by
    obtain ⟨h1,h2⟩:=nxR_vls a b hb
    unfold chR chn
    by_cases h:rsT b a.length a=[]
    · rw [if_pos h,if_pos (List.length_eq_zero_iff.1 (by rw [← h2,h];rfl))];rfl
    · have hne:agst (vls a) (vls b)≠[]:=fun e=>h (List.length_eq_zero_iff.1 (by rw [h2,e];rfl))
      rw [if_neg h,if_neg hne,List.map_cons,h1,chR_vls k b (nxR a b) (by unfold nxR;rw [List.length_map];exact List.length_pos_iff.2 h),h1]
def cLWW (p:List Int→Int→Int→Prop) [∀l a b,Tst (p l a b)] (r:List Int→Int→Int→AV) (args:List AV):M AV:=match args with
  | [x,y,z]=>do
    let l ← asK (.sl .whole) x
    let a ← asW y
    let b ← asW z
    tellD (p l a b) (Tst.b (p l a b))
    gives (r l a b)
  | _=>fail 302
abbrev fieldK:EK:=.pr (.sl (.int .i64)) (.pr (.int .i64) (.pr (.int .i64) (.int .i64)))
def pPo (f:fieldK.ty):Prop:=zdd f.1
instance tPo {f:fieldK.ty}:Tst (pPo f):=⟨false,fun h=>by cases h⟩
noncomputable def ctrP1:Ctr:=(153,cLWW zdc (fun l a b=>.lit (.int .i64 (zag l a b).sign))) :: (105,cD1 fieldK pPo (fun f=>.lst .whole f.1)) :: (192,cD1 (.sl .whole) zdd (fun p=>.lst .whole (der p))) :: ctrH7
abbrev kdP:List (TypeId × EK):=[(100,.whole),(124,.sl .whole)]
theorem cLWW_ok {P:Program} {f:FuncId} {p:List Int→Int→Int→Prop} [∀l a b,Tst (p l a b)] {r:List Int→Int→Int→AV} (h:∀l a b,p l a b→FC P f [.lst .whole l,W a,W b] (r l a b)):lZ P f (cLWW p r):=by
  intro args _
  unfold cLWW
  split
  · exact Spec.bind (asK_spec.mono fun l hl=>Spec.bind (asW_spec.mono fun a ha=>Spec.bind (asW_spec.mono fun b hb=>Spec.bind (Spec.tellD Tst.ok fun hp=>Spec.gives ((h l a b hp).le (.cons hl (.cons ha (.cons hb .nil))) (Le.refl _))))))
  · exact Spec.fail
theorem zkL:∀p∈ctrP1,lZ Tryz.prog p.1 p.2:=CAll.cons (cLWW_ok zi0)<|CAll.cons (ziD fun f h=>zhD f.1 f.2.1 f.2.2.1 f.2.2.2 h)<|CAll.cons (ziD zom) zhd
theorem okP1:(dZ Tryz.prog ctrP1 bw [] kdP).OK:=OZ zcM mixed zkL zcF
noncomputable section
abbrev zjV (s:St) (r:Ex × St):Prop:=Loops 0 Tryz.prog (pZ Tryz.prog 194 0) s r
abbrev zdg (a b:Int) (c:List (List Int)) (d e f g:Int):St:=⟨sp 33 [(0,aI a),(2,.pd [aI b] 0),(5,aI e),(6,aI f),(10,.lst (EK.sl EK.whole) c),(11,aI d),(12,aI g)],[],[]⟩
abbrev zjW (a b:Int) (c:List (List Int)) (d e f g:Int):St:=⟨sp 33 [(0,aI a),(2,.pd [aI b] 0),(5,aI e),(6,aI f),(10,.lst (EK.sl EK.whole) c),(11,aI d),(12,aI g)],[],[]⟩
theorem rc_L0_0_0 (a b:Int) (d:List (List Int)) (f g j l:Int) (h1:l<f) (h2:0≤l) (h3:l<(d.length:Int)) (h4:bZ a) (h5:bZ b) (h6:zdc (d.getD l.toNat (EK.dflt (EK.sl EK.whole))) a b) (h7:r64 ((zag (d.getD l.toNat (EK.dflt (EK.sl EK.whole))) a b).sign*j)) (h8:(zag (d.getD l.toNat (EK.dflt (EK.sl EK.whole))) a b).sign*j<0) (h9:r64 (g+1)) (h10:(zag (d.getD l.toNat (EK.dflt (EK.sl EK.whole))) a b).sign≠0) (h11:r64 (l+1)) {r:Ex × St} (k:zjV (zdg a b d f (g+1) (zag (d.getD l.toNat (EK.dflt (EK.sl EK.whole))) a b).sign (l+1)) r):zjV (zdg a b d f g j l) r:=Loops.go (LS.at okP1 60 [] [0,2,5,6,10,11,12] [] [1,1,1] (.t h1<|.t h2<|.t h3<|.c h4<|.c h5<|.c h6<|.i h7<|.t h8<|.i h9<|.c (bne_iff_ne.2 h10)<|.i h11<|.e) [1,2,3,4,5,0,0,6,7,8,9,10,11]) k
theorem rc_L0_0_2 (a b:Int) (d:List (List Int)) (g j l m:Int) (h1:m<g) (h2:0≤m) (h3:m<(d.length:Int)) (h4:bZ a) (h5:bZ b) (h6:zdc (d.getD m.toNat (EK.dflt (EK.sl EK.whole))) a b) (h7:r64 ((zag (d.getD m.toNat (EK.dflt (EK.sl EK.whole))) a b).sign*l)) (h8:¬((zag (d.getD m.toNat (EK.dflt (EK.sl EK.whole))) a b).sign*l<0)) (h9:(zag (d.getD m.toNat (EK.dflt (EK.sl EK.whole))) a b).sign≠0) (h10:r64 (m+1)) {r:Ex × St} (k:zjV (zdg a b d g j (zag (d.getD m.toNat (EK.dflt (EK.sl EK.whole))) a b).sign (m+1)) r):zjV (zdg a b d g j l m) r:=Loops.go (LS.at okP1 60 [] [0,2,5,6,10,11,12] [] [1,0,1] (.t h1<|.t h2<|.t h3<|.c h4<|.c h5<|.c h6<|.i h7<|.f h8<|.c (bne_iff_ne.2 h9)<|.i h10<|.e) [1,2,3,4,5,0,0,6,7,8,9,10]) k
theorem rc_L0_0_3 (a b:Int) (d:List (List Int)) (g j l m:Int) (h1:m<g) (h2:0≤m) (h3:m<(d.length:Int)) (h4:bZ a) (h5:bZ b) (h6:zdc (d.getD m.toNat (EK.dflt (EK.sl EK.whole))) a b) (h7:r64 ((zag (d.getD m.toNat (EK.dflt (EK.sl EK.whole))) a b).sign*l)) (h8:¬((zag (d.getD m.toNat (EK.dflt (EK.sl EK.whole))) a b).sign*l<0)) (h9:(zag (d.getD m.toNat (EK.dflt (EK.sl EK.whole))) a b).sign=0) (h10:r64 (m+1)) {r:Ex × St} (k:zjV (zdg a b d g j l (m+1)) r):zjV (zdg a b d g j l m) r:=Loops.go (LS.at okP1 60 [] [0,2,5,6,10,11,12] [] [1,0,0] (.t h1<|.t h2<|.t h3<|.c h4<|.c h5<|.c h6<|.i h7<|.f h8<|.c (bne_eq_false_iff_eq.2 h9)<|.i h10<|.e) [1,2,3,4,5,0,0,6,7,8,9,10]) k
theorem rc_L0_0_4 (a b:Int) (c:List (List Int)) (d g i j:Int) (h1:¬(j<d)):zjV (zdg a b c d g i j) (Ex.exit 0,(zjW a b c d g i j)):=Loops.fin (LS.at okP1 60 [] [0,2,5,6,10,11,12] [] [0] (.f h1<|.e) [1]) (fun h=>nomatch h)
theorem rc_0 (a:Int) (L:List (List Int)) (d b c f:Int) (hL1:zjV (zdg a d L ((L.length:Int)) (0) (0) (0)) (Ex.exit 0,(zjW a d L ((L.length:Int)) b c f))):FC Tryz.prog 194 [.lit (.int .i64 a),.pd [.lst (.sl .whole) L] 0,.pd [.lit (.int .i64 d)] 0] (aI b):=fZ okP1 60 [] (.v [0,2,5,6,10,11,12] [] hL1<|.e) [0,1]
end
open Go.Kf
def svZ (L:List (List Int)) (a b:Int):List Int:=L.map fun p=>zag p a b
theorem sgn3 (z:Int):z.sign = -1∨z.sign=0∨z.sign=1:=by
  rcases Int.lt_trichotomy z 0 with h | h | h
  · exact .inl (Int.sign_eq_neg_one_of_neg h)
  · exact .inr (.inl (by rw [h];rfl))
  · exact .inr (.inr (Int.sign_eq_one_of_pos h))
theorem zjX {L:List (List Int)} {a d:Int} (ha:a.natAbs≤1000000) (hd:d.natAbs≤1000000) (hL:∀p∈L,zdc p a d) (hl:L.length≤1000):∀(m i:Nat) (n l:Int),i+m=L.length→0≤n→n≤i→(l = -1∨l=0∨l=1) →
    ∃x y z,zjV (zdg a d L L.length n l i) (Ex.exit 0,zjW a d L L.length x y z)∧x=(zbb ((svZ L a d).drop i) n l).1
  | 0,i,n,l,hi,h0,h1,_=>by
    obtain rfl:i=L.length:=by omega
    refine ⟨n,l,L.length,rc_L0_0_4 a d L L.length n l _ (by omega),?_⟩
    rw [List.drop_of_length_le (by simp [svZ])];rfl
  | m + 1, i,n,l,hi,h0,h1,h3=>by
    have hlt:i<L.length:=by omega
    have hg:L.getD i []=L[i]:=by simp [List.getD,hlt]
    have hp:zdc (L.getD i []) a d:=by rw [hg];exact hL _ (List.getElem_mem hlt)
    have hx:(svZ L a d).drop i=zag (L.getD i []) a d :: (svZ L a d).drop (i+1):=by
      rw [List.drop_eq_getElem_cons (by simpa [svZ] using hlt),hg];simp [svZ]
    have f1:bZ a:=by unfold bZ;omega
    have f2:bZ d:=by unfold bZ;omega
    rw [hx]
    unfold zbb
    generalize hv:zag (L.getD i []) a d=v at *
    have hs:=sgn3 v
    have ev:zag (L.getD (Int.toNat (i:Int)) (EK.dflt (EK.sl EK.whole))) a d=v:=hv
    by_cases hz:v.sign=0
    · rw [if_pos hz]
      obtain ⟨x,y,z,ih,e⟩:=zjX ha hd hL hl m (i+1) n l (by omega) h0 (by omega) h3
      refine ⟨x,y,z,?_,e⟩
      exact rc_L0_0_3 a d L L.length n l i (by omega) (by omega) (by omega) f1 f2 hp (by rw [ev,hz];omega) (by rw [ev,hz];omega) (by rw [ev];exact hz) (by omega) ih
    · rw [if_neg hz]
      have hr:-9223372036854775808≤v.sign*l∧v.sign*l≤9223372036854775807:=by rcases hs with e | e | e<;>rcases h3 with f | f | f<;>rw [e,f]<;>decide
      by_cases hc:l≠0∧v.sign≠l
      · rw [if_pos hc]
        have hneg:v.sign*l<0:=by
          obtain ⟨c1,c2⟩:=hc
          rcases hs with e | e | e<;>rcases h3 with f | f | f<;>first | exact absurd e hz | exact absurd f c1 | exact absurd (e.trans f.symm) c2 | (rw [e,f];decide)
        obtain ⟨x,y,z,ih,e⟩:=zjX ha hd hL hl m (i+1) (n+1) v.sign (by omega) (by omega) (by omega) hs
        refine ⟨x,y,z,?_,e⟩
        refine rc_L0_0_0 a d L L.length n l i (by omega) (by omega) (by omega) f1 f2 hp (by rw [ev];exact hr) (by rw [ev];exact hneg) (by omega) (by rw [ev];exact hz) (by omega) ?_
        rw [ev];exact ih
      · rw [if_neg hc]
        have hneg:¬v.sign*l<0:=by
          rcases hs with e | e | e<;>rcases h3 with f | f | f<;>first | (rw [e,f];decide) | (exfalso;exact hc ⟨by rw [f];decide,by rw [e,f];decide⟩)
        obtain ⟨x,y,z,ih,e⟩:=zjX ha hd hL hl m (i+1) n v.sign (by omega) h0 (by omega) hs
        refine ⟨x,y,z,?_,e⟩
        refine rc_L0_0_2 a d L L.length n l i (by omega) (by omega) (by omega) f1 f2 hp (by rw [ev];exact hr) (by rw [ev];exact hneg) (by rw [ev];exact hz) (by omega) ?_
        rw [ev];exact ih
def pRc (L:List (List Int)) (a d:Int):Prop:=a.natAbs≤1000000∧d.natAbs≤1000000∧(∀p∈L,zdc p a d)∧L.length≤1000
theorem roots1_fc (L:List (List Int)) (a d:Int) (h:pRc L a d):FC Tryz.prog 194 [.lit (.int .i64 a),.pd [.lst (.sl .whole) L] 0,.pd [.lit (.int .i64 d)] 0] (.lit (.int .i64 (zbb (svZ L a d) 0 0).1)):=by
  obtain ⟨x,y,z,k,e⟩:=zjX h.1 h.2.1 h.2.2.1 h.2.2.2 L.length 0 0 0 (by omega) (by omega) (by omega) (.inr (.inl rfl))
  have:=rc_0 a L d x y z k
  rw [e] at this
  exact this
def cRcl (args:List AV):M AV:=match args with
  | [.lit (.int .i64 a),.pd [x] 0,.pd [.lit (.int .i64 d)] 0]=>do
    let L ← asK (.sl (.sl .whole)) x
    tell (pRc L a d)
    M.pure (.lit (.int .i64 (zbb (svZ L a d) 0 0).1))
  | _=>fail 303
noncomputable def ctrP2:Ctr:=(194,cRcl) :: ctrP1
theorem cRcl_ok:lZ Tryz.prog 194 cRcl:=by
  intro args _
  unfold cRcl
  split
  · exact Spec.bind (asK_spec.mono fun L hL=>Spec.bind (Spec.tell fun h=>Spec.pure' ((roots1_fc L _ _ h).le (.cons (Le.refl _) (.cons (Le.pd (.cons hL .nil)) (LeL.refl _))) (Le.refl _))))
  · exact Spec.fail
theorem zkM:∀p∈ctrP2,lZ Tryz.prog p.1 p.2:=CAll.cons cRcl_ok zkL
theorem okP2:(dZ Tryz.prog ctrP2 bw [] kdP).OK:=OZ zcM mixed zkM zcF
noncomputable section
abbrev zj7 (s:St) (r:Ex × St):Prop:=Loops 3 Tryz.prog (pZ Tryz.prog 159 0) s r
abbrev zj8 (a b c:Int) (d:List (List Int)):St:=⟨sp 44 [(1,aI a),(2,aI b),(7,.ref 0 0),(9,.ref 2 0)],[.flat [aI c] true,.lst (EK.sl EK.whole) d true,.flat [.own 1 0 2 1] true],[2,1]⟩
abbrev zhU (a b c:Int) (d:List (List Int)) (e:Nat) (f:List (List Int)):St:=⟨sp 44 [(1,aI a),(2,aI b),(7,.ref 0 0),(9,.ref 2 0)],[.flat [aI c] true,.dead,.flat [.own 3 0 e 1] true,.lst (EK.sl EK.whole) f true],[2,1]⟩
abbrev znJ (a b c:Int) (d:List (List Int)):St:=⟨sp 44 [(1,aI a),(2,aI b),(7,.ref 0 0),(9,.ref 2 0)],[.flat [aI c] true,.lst (EK.sl EK.whole) d true,.flat [.own 1 0 2 1] true],[2,1]⟩
abbrev zgN (a b c:Int) (d:List (List Int)) (e:Nat) (f:List (List Int)):St:=⟨sp 44 [(1,aI a),(2,aI b),(7,.ref 0 0),(9,.ref 2 0)],[.flat [aI c] true,.dead,.flat [.own 3 0 e 1] true,.lst (EK.sl EK.whole) f true],[2,1]⟩
theorem ro_L0_0_0 (a b d:Int) (f:List (List Int)) (h1:0<f.length) (h2:1<f.length) (h3:pAg (f.getD 0 (EK.dflt (EK.sl EK.whole))) (f.getD 1 (EK.dflt (EK.sl EK.whole)))) (h4:(↑((Kf.agst (f.getD 0 (EK.dflt (EK.sl EK.whole))) (f.getD 1 (EK.dflt (EK.sl EK.whole)))).length):Int)=0):zj7 (zj8 a b d f) (Ex.exit 0,(znJ a b d f)):=Loops.fin (LS.at okP2 60 [] [1,2,7,9] [2,1] [1] (.t h1<|.t h2<|.c h3<|.c (beq_iff_eq.2 h4)<|.e) [0,0,0,1,0,0,0,2,3,4]) (fun h=>nomatch h)
theorem ro_L0_0_1 (a b d:Int) (f:List (List Int)) (h1:0<f.length) (h2:1<f.length) (h3:pAg (f.getD 0 (EK.dflt (EK.sl EK.whole))) (f.getD 1 (EK.dflt (EK.sl EK.whole)))) (h4:(↑((Kf.agst (f.getD 0 (EK.dflt (EK.sl EK.whole))) (f.getD 1 (EK.dflt (EK.sl EK.whole)))).length):Int)≠0) (h5:1≤List.length [Kf.agst (f.getD 0 (EK.dflt (EK.sl EK.whole))) (f.getD 1 (EK.dflt (EK.sl EK.whole)))]) (h6:(2+(List.take 1 [Kf.agst (f.getD 0 (EK.dflt (EK.sl EK.whole))) (f.getD 1 (EK.dflt (EK.sl EK.whole)))]).length)*24≤140737488355328) (h7:2+(List.take 1 [Kf.agst (f.getD 0 (EK.dflt (EK.sl EK.whole))) (f.getD 1 (EK.dflt (EK.sl EK.whole)))]).length≤4611686018427387904) (h8:2≤f.length) {r:Ex × St} (k:zj7 (zhU a b d f (3) (f.take 2++List.take 1 [Kf.agst (f.getD 0 (EK.dflt (EK.sl EK.whole))) (f.getD 1 (EK.dflt (EK.sl EK.whole)))])) r):zj7 (zj8 a b d f) r:=Loops.go (LS.at okP2 60 [4] [1,2,7,9] [2,1] [0] (.t h1<|.t h2<|.c h3<|.c (beq_false_of_ne h4)<|.c h5<|.t h6<|.t h7<|.t h8<|.e) [0,0,0,1,0,0,0,2,3,4,5,6,7,8]) k
theorem ro_L0_1_0 (a b d:Int) (f:List (List Int)) (g:Nat) (j:List (List Int)) (h1:r64 ((g:Int)-2)) (h2:0≤(g:Int)-2) (h3:(g:Int)-2<(g:Int)) (h4:((g:Int)-2).toNat<j.length) (h5:r64 ((g:Int)-1)) (h6:0≤(g:Int)-1) (h7:(g:Int)-1<(g:Int)) (h8:((g:Int)-1).toNat<j.length) (h9:pAg (j.getD ((g:Int)-2).toNat (EK.dflt (EK.sl EK.whole))) (j.getD ((g:Int)-1).toNat (EK.dflt (EK.sl EK.whole)))) (h10:(↑((Kf.agst (j.getD ((g:Int)-2).toNat (EK.dflt (EK.sl EK.whole))) (j.getD ((g:Int)-1).toNat (EK.dflt (EK.sl EK.whole)))).length):Int)=0):zj7 (zhU a b d f g j) (Ex.exit 0,(zgN a b d f g j)):=Loops.fin (LS.at okP2 60 [3] [1,2,7,9] [2,1] [1] (.i h1<|.t h2<|.t h3<|.t h4<|.i h5<|.t h6<|.t h7<|.t h8<|.c h9<|.c (beq_iff_eq.2 h10)<|.e) [1,2,3,4,5,6,7,8,9,10]) (fun h=>nomatch h)
theorem ro_L0_1_1 (a b d:Int) (f:List (List Int)) (g:Nat) (j:List (List Int)) (h1:r64 ((g:Int)-2)) (h2:0≤(g:Int)-2) (h3:(g:Int)-2<(g:Int)) (h4:((g:Int)-2).toNat<j.length) (h5:r64 ((g:Int)-1)) (h6:0≤(g:Int)-1) (h7:(g:Int)-1<(g:Int)) (h8:((g:Int)-1).toNat<j.length) (h9:pAg (j.getD ((g:Int)-2).toNat (EK.dflt (EK.sl EK.whole))) (j.getD ((g:Int)-1).toNat (EK.dflt (EK.sl EK.whole)))) (h10:(↑((Kf.agst (j.getD ((g:Int)-2).toNat (EK.dflt (EK.sl EK.whole))) (j.getD ((g:Int)-1).toNat (EK.dflt (EK.sl EK.whole)))).length):Int)≠0) (h11:1≤List.length [Kf.agst (j.getD ((g:Int)-2).toNat (EK.dflt (EK.sl EK.whole))) (j.getD ((g:Int)-1).toNat (EK.dflt (EK.sl EK.whole)))]) (h12:(g+(List.take 1 [Kf.agst (j.getD ((g:Int)-2).toNat (EK.dflt (EK.sl EK.whole))) (j.getD ((g:Int)-1).toNat (EK.dflt (EK.sl EK.whole)))]).length)*24≤140737488355328) (h13:g+(List.take 1 [Kf.agst (j.getD ((g:Int)-2).toNat (EK.dflt (EK.sl EK.whole))) (j.getD ((g:Int)-1).toNat (EK.dflt (EK.sl EK.whole)))]).length≤4611686018427387904) (h14:g≤j.length) {r:Ex × St} (k:zj7 (zhU a b d f (g+(List.take 1 [Kf.agst (j.getD ((g:Int)-2).toNat (EK.dflt (EK.sl EK.whole))) (j.getD ((g:Int)-1).toNat (EK.dflt (EK.sl EK.whole)))]).length) (j.take g++List.take 1 [Kf.agst (j.getD ((g:Int)-2).toNat (EK.dflt (EK.sl EK.whole))) (j.getD ((g:Int)-1).toNat (EK.dflt (EK.sl EK.whole)))])) r):zj7 (zhU a b d f g j) r:=Loops.go (LS.at okP2 60 [5] [1,2,7,9] [2,1] [0] (.i h1<|.t h2<|.t h3<|.t h4<|.i h5<|.t h6<|.t h7<|.t h8<|.c h9<|.c (beq_false_of_ne h10)<|.c h11<|.t h12<|.t h13<|.t h14<|.e) [1,2,3,4,5,6,7,8,9,10,11,12,13,14]) k
theorem ro_0 (p:List Int) (a b d:Int) (h1:zdd p) (hL1:zj7 (zj8 a b d ([p,der p])) (Ex.exit 0,(znJ a b d ([p,der p])))) (h3:2≤List.length [p,der p]) (h4:pRc (List.take 2 [p,der p]) a d) (h5:pRc (List.take 2 [p,der p]) b d) (h6:r64 ((zbb (svZ (List.take 2 [p,der p]) a d) 0 0).fst-(zbb (svZ (List.take 2 [p,der p]) b d) 0 0).fst)):FC Tryz.prog 159 [.lst .whole p,.lit (.int .i64 a),.lit (.int .i64 b),.lit (.int .i64 d)] (aI ((zbb (svZ (List.take 2 [p,der p]) a d) 0 0).fst-(zbb (svZ (List.take 2 [p,der p]) b d) 0 0).fst)):=fZ okP2 60 [] (.c h1<|.v [1,2,7,9] [2,1] hL1<|.c h3<|.c h4<|.c h5<|.i h6<|.e) [1,0,2,3,4,3,5,6]
theorem ro_1 (p:List Int) (a b d:Int) (f:Nat) (g:List (List Int)) (h1:zdd p) (hL1:zj7 (zj8 a b d ([p,der p])) (Ex.exit 0,(zgN a b d ([p,der p]) f g))) (h3:f≤g.length) (h4:pRc (g.take f) a d) (h5:pRc (g.take f) b d) (h6:r64 ((zbb (svZ (g.take f) a d) 0 0).fst-(zbb (svZ (g.take f) b d) 0 0).fst)):FC Tryz.prog 159 [.lst .whole p,.lit (.int .i64 a),.lit (.int .i64 b),.lit (.int .i64 d)] (aI ((zbb (svZ (g.take f) a d) 0 0).fst-(zbb (svZ (g.take f) b d) 0 0).fst)):=fZ okP2 60 [] (.c h1<|.v [1,2,7,9] [2,1] hL1<|.c h3<|.c h4<|.c h5<|.i h6<|.e) [1,0,2,3,4,3,5,6]
end
open Go.Kf
def bz:Nat→Nat
  | 0=>1
  | 1=>1
  | 2=>16
  | 3=>133
  | _=>817
structure PInv (i:Nat) (a b:List Int):Prop where
  i3:i≤3
  la:a.length≤5-i
  lb:b.length≤4-i
  b1:1≤b.length
  a0:a≠[]
  sa:∀j,Sz (bz i) (a.getD j 0)
  sb:∀j,Sz (bz (i+1)) (b.getD j 0)
theorem zn9 {p q:List Int} {a d:Nat} (hp:∀j,Sz a (p.getD j 0)) (hq:∀j,Sz d (q.getD j 0)) (h1:a+p.length*(2*d+1)≤300000) (h2:d≤50000) (hpl:p.length≤1000) (hq0:1≤q.length) :
    (agst p q).length<q.length∧∀j,Sz (a+p.length*(2*d+1)) ((agst p q).getD j 0):=by
  obtain ⟨_,i2,i3,i4,i5,i6⟩:=ag_l2 hq0 hq p.length p.length p a (Nat.le_refl _) (Nat.le_refl _) hpl hp h1 h2
  refine ⟨?_,fun j=>?_⟩
  · unfold agst
    rw [List.length_take,zfU]
    by_cases h:q.length≤p.length
    · have:=i5 h;omega
    · omega
  · unfold agst
    by_cases h:j<(agN q p.length p.length p).1
    · have e3:∀(n:Nat) (L:List Int),j<n→(L.take n).getD j 0=L.getD j 0:=fun n L h=>by simp [List.getD,List.getElem?_take,h]
      rw [e3 _ _ h,zjL _ _ _ i2,if_pos h]
      exact(i6 j).neg
    · have:(List.take (agN q p.length p.length p).1 (ngR (agN q p.length p.length p).2 (agN q p.length p.length p).1)).getD j 0=0:=by
        simp [List.getD,List.getElem?_take,h]
      rw [this];exact Sz.zero
theorem PInv.ag {i:Nat} {a b:List Int} (h:PInv i a b):pAg a b:=by
  obtain ⟨i3,la,lb,b1,a0,sa,sb⟩:=h
  have hi:i=0∨i=1∨i=2∨i=3:=by omega
  refine ⟨⟨bz i,bz (i+1),sa,sb,?_,?_⟩,a0,by omega,b1,by omega⟩
  · have:a.length*(2*bz (i+1)+1)≤(5-i)*(2*bz (i+1)+1):=Nat.mul_le_mul_right _ la
    refine Nat.le_trans (Nat.add_le_add_left this _) ?_
    rcases hi with rfl | rfl | rfl | rfl<;>decide
  · rcases hi with rfl | rfl | rfl | rfl<;>decide
theorem PInv.step {i:Nat} {a b:List Int} (h:PInv i a b) (hne:agst a b≠[]):i≤2∧PInv (i+1) b (agst a b):=by
  obtain ⟨i3,la,lb,b1,a0,sa,sb⟩:=h
  have hi:i=0∨i=1∨i=2∨i=3:=by omega
  have hm:bz i+a.length*(2*bz (i+1)+1)≤bz i+(5-i)*(2*bz (i+1)+1):=Nat.add_le_add_left (Nat.mul_le_mul_right _ la) _
  obtain ⟨f1,f2⟩:=zn9 sa sb (Nat.le_trans hm (by rcases hi with rfl | rfl | rfl | rfl<;>decide)) (by rcases hi with rfl | rfl | rfl | rfl<;>decide) (by omega) b1
  have hp:1≤(agst a b).length:=List.length_pos_iff.2 hne
  have i2:i≤2:=by omega
  refine ⟨i2,⟨by omega,by omega,by omega,hp,fun e=>by rw [e] at b1;simp at b1,sb,fun j=>(f2 j).mono (Nat.le_trans hm ?_)⟩⟩
  have hi:i=0∨i=1∨i=2:=by omega
  rcases hi with rfl | rfl | rfl<;>decide
theorem chn_ok:∀(k i:Nat) (a b:List Int),PInv i a b→(chn k a b).length≤k∧∀q∈chn k a b,q.length≤5∧∀j,Sz 817 (q.getD j 0)
  | 0,_,_,_,_=>⟨Nat.le_refl _,fun _ h=>by cases h⟩
  | k + 1,i,a,b,h=>by
    unfold chn
    by_cases hne:agst a b=[]
    · rw [if_pos hne];exact ⟨Nat.zero_le _,fun _ h=>by cases h⟩
    · rw [if_neg hne]
      obtain ⟨i2,hs⟩:=h.step hne
      obtain ⟨c1,c2⟩:=chn_ok k (i+1) b (agst a b) hs
      refine ⟨by simp only [List.length_cons];omega,fun q hq=>?_⟩
      rcases List.mem_cons.1 hq with rfl | hq
      · refine ⟨by have:=hs.lb;omega,fun j=>(hs.sb j).mono ?_⟩
        have hi:i=0∨i=1∨i=2:=by omega
        rcases hi with rfl | rfl | rfl<;>decide
      · exact c2 q hq
theorem zor {L:List (List Int)} {i:Nat} (h:L.length=i+2) (x:List Int):(L++[x]).getD (i+1) []=L.getD (i+1) []∧(L++[x]).getD (i+2) []=x:=by
  constructor
  · simp only [List.getD_eq_getElem?_getD];rw [List.getElem?_append_left (by omega)]
  · simp only [List.getD_eq_getElem?_getD];rw [List.getElem?_append_right (by omega)];simp [h]
theorem ro_loop {t1 t2 d:Int} {lr1:List (List Int)}:∀(k i:Nat) (L:List (List Int)) (a b:List Int),i+k=4→L.length=i+2→L.getD i []=a→L.getD (i+1) []=b→PInv i a b →
    zj7 (zhU t1 t2 d lr1 L.length L) (Ex.exit 0,zgN t1 t2 d lr1 (L++chn k a b).length (L++chn k a b))
  | 0,i,L,a,b,hk,hL,ha,hb,h=>by have:=h.i3;omega
  | k + 1,i,L,a,b,hk,hL,ha,hb,h=>by
    have e1:Int.toNat ((L.length:Int)-2)=i:=by omega
    have e2:Int.toNat ((L.length:Int)-1)=i+1:=by omega
    have g1:L.getD (Int.toNat ((L.length:Int)-2)) (EK.dflt (EK.sl EK.whole))=a:=by rw [e1];exact ha
    have g2:L.getD (Int.toNat ((L.length:Int)-1)) (EK.dflt (EK.sl EK.whole))=b:=by rw [e2];exact hb
    have hag:=h.ag
    unfold chn
    by_cases hne:agst a b=[]
    · rw [if_pos hne,List.append_nil]
      exact ro_L0_1_0 t1 t2 d lr1 L.length L (by omega) (by omega) (by omega) (by omega) (by omega) (by omega) (by omega) (by omega) (by rw [g1,g2];exact hag) (by rw [g1,g2,hne];rfl)
    · rw [if_neg hne]
      obtain ⟨i2,hs⟩:=h.step hne
      obtain ⟨l1,l2⟩:=zor hL (agst a b)
      have ih:=ro_loop (t1:=t1) (t2:=t2) (d:=d) (lr1:=lr1) k (i+1) (L++[agst a b]) b (agst a b) (by omega) (by rw [List.length_append];simp;omega) (by rw [l1];exact hb) l2 hs
      have go:=@ro_L0_1_1 t1 t2 d lr1 L.length L (by omega) (by omega) (by omega) (by omega) (by omega) (by omega) (by omega) (by omega) (by rw [g1,g2];exact hag)
        (by rw [g1,g2];have:=List.length_pos_iff.2 hne;omega) (by simp) (by simp;omega) (by simp;omega) (Nat.le_refl _) (Ex.exit 0,zgN t1 t2 d lr1 (L++agst a b :: chn k b (agst a b)).length (L++agst a b :: chn k b (agst a b)))
      rw [g1,g2,List.take_length] at go
      refine go ?_
      have e3:L.length+(List.take 1 [agst a b]).length=(L++[agst a b]).length:=by rw [List.length_append];rfl
      have e4:L++agst a b :: chn k b (agst a b)=(L++[agst a b])++chn k b (agst a b):=by rw [List.append_assoc];rfl
      rw [e3,e4]
      exact ih
def chZ (p:List Int):List (List Int):=p :: der p :: chn 4 p (der p)
def zdr (p:List Int) (a b d:Int):Int:=(zbb (svZ (chZ p) a d) 0 0).1-(zbb (svZ (chZ p) b d) 0 0).1
theorem zgT {l:List Int} {k:Nat} (h:∀c∈l,Sz k c) (j:Nat):Sz k (l.getD j 0):=by
  rw [List.getD_eq_getElem?_getD]
  by_cases hi:j<l.length
  · rw [List.getElem?_eq_getElem hi];exact h _ (List.getElem_mem hi)
  · rw [List.getElem?_eq_none (by omega)];exact Sz.zero
theorem szL_of {k:Nat}:∀ {l:List Int},(∀j,Sz k (l.getD j 0))→SzL k l
  | [],_=>trivial
  | z :: l,h=>⟨h 0,szL_of fun j=>h (j+1)⟩
theorem pinv0 {p:List Int} (h:zdd p):PInv 0 p (der p):=by
  obtain ⟨h2,h5,ha⟩:=h
  refine ⟨by omega,by omega,by rw [zeB];omega,by rw [zeB];omega,fun e=>by rw [e] at h2;simp at h2,zgT fun c hc=>?_,zgT fun c hc=>?_⟩
  · have:=ha c hc;exact Sz.lit (by omega) (by decide)
  · unfold der at hc
    obtain ⟨i,hi,rfl⟩:=List.mem_map.1 hc
    have hi:=List.mem_range.1 hi
    have g:=zeT ha (i+1)
    have m:=zla (a:=p.getD (i+1) 0) (b:=((i+1:Nat):Int)) (A:=1000) (B:=5) g (by omega)
    exact Sz.lit (by omega) (by decide)
theorem zha:∀(l:List Int) (n x:Int),n≤(zbb l n x).1∧(zbb l n x).1≤n+l.length
  | [],n,x=>by simp [zbb]
  | v :: l,n,x=>by
    unfold zbb
    have a:=zha l n x
    have b:=zha l (n+1) v.sign
    have c:=zha l n v.sign
    simp only [List.length_cons]
    split
    · omega
    · split
      · omega
      · omega
theorem chZ_ok {p:List Int} (h:zdd p):(chZ p).length≤6∧∀q∈chZ p,q.length≤5∧∀j,Sz 817 (q.getD j 0):=by
  have hi:=pinv0 h
  obtain ⟨c1,c2⟩:=chn_ok 4 0 p (der p) hi
  refine ⟨by unfold chZ;simp only [List.length_cons];omega,fun q hq=>?_⟩
  unfold chZ at hq
  rcases List.mem_cons.1 hq with rfl | hq
  · exact ⟨hi.la,fun j=>(hi.sa j).mono (by decide)⟩
  rcases List.mem_cons.1 hq with rfl | hq
  · exact ⟨by have:=hi.lb;omega,fun j=>(hi.sb j).mono (by decide)⟩
  · exact c2 q hq
theorem chZ_pRc {p:List Int} (h:zdd p) {a d:Int} (ha:a.natAbs≤1000000) (hd:d.natAbs≤1000000):pRc (chZ p) a d:=by
  obtain ⟨c1,c2⟩:=chZ_ok h
  refine ⟨ha,hd,fun q hq=>?_,by omega⟩
  obtain ⟨d1,d2⟩:=c2 q hq
  exact ⟨Nat.ble_eq_true_of_le d1,szL_of fun j=>(d2 j).mono (by decide),Sz.lit (by omega) (by decide),Sz.lit (by omega) (by decide)⟩
theorem svZ_len (L:List (List Int)) (a b:Int):(svZ L a b).length=L.length:=by simp [svZ]
theorem zlJ {p:List Int} (h:zdd p) (a b d:Int):(zdr p a b d).natAbs≤6:=by
  have c:=(chZ_ok h).1
  have x:=zha (svZ (chZ p) a d) 0 0
  have y:=zha (svZ (chZ p) b d) 0 0
  rw [svZ_len] at x y
  unfold zdr
  omega
def zgj (p:List Int) (a b d:Int):Prop:=zdd p∧a.natAbs≤1000000∧b.natAbs≤1000000∧d.natAbs≤1000000
theorem roots_fc (p:List Int) (a b d:Int) (h:zgj p a b d):FC Tryz.prog 159 [.lst .whole p,.lit (.int .i64 a),.lit (.int .i64 b),.lit (.int .i64 d)] (.lit (.int .i64 (zdr p a b d))):=by
  obtain ⟨hp,ha,hb,hd⟩:=h
  have hi:=pinv0 hp
  have hle:=zlJ hp a b d
  have ra:=chZ_pRc hp ha hd
  have rb:=chZ_pRc hp hb hd
  by_cases hne:agst p (der p)=[]
  · have e:chZ p=[p,der p]:=by unfold chZ chn;rw [if_pos hne]
    unfold zdr at hle ⊢
    rw [e] at hle ra rb ⊢
    exact ro_0 p a b d hp (ro_L0_0_0 a b d [p,der p] (by simp) (by simp) hi.ag (by show((agst p (der p)).length:Int)=0;rw [hne];rfl)) (by simp) ra rb (by show -9223372036854775808≤(zbb (svZ [p,der p] a d) 0 0).1-(zbb (svZ [p,der p] b d) 0 0).1∧(zbb (svZ [p,der p] a d) 0 0).1-(zbb (svZ [p,der p] b d) 0 0).1≤9223372036854775807;omega)
  · obtain ⟨i2,hs⟩:=hi.step hne
    have e:chZ p=[p,der p,agst p (der p)]++chn 3 (der p) (agst p (der p)):=by
      unfold chZ
      conv=>lhs;unfold chn
      rw [if_neg hne];rfl
    have L:=ro_loop (t1:=a) (t2:=b) (d:=d) (lr1:=[p,der p]) 3 1 [p,der p,agst p (der p)] (der p) (agst p (der p)) rfl rfl rfl rfl hs
    rw [← e] at L
    have go:=@ro_L0_0_1 a b d [p,der p] (by simp) (by simp) hi.ag (by have:=List.length_pos_iff.2 hne;show((agst p (der p)).length:Int)≠0;omega) (by simp) (by simp) (by simp) (by simp) _ L
    have:=ro_1 p a b d (chZ p).length (chZ p) hp go (Nat.le_refl _) (by rw [List.take_length];exact ra) (by rw [List.take_length];exact rb) (by rw [List.take_length];unfold zdr at hle;omega)
    rw [List.take_length] at this
    exact this
def cRoots (args:List AV):M AV:=match args with
  | [x,.lit (.int .i64 a),.lit (.int .i64 b),.lit (.int .i64 d)]=>do
    let p ← asK (.sl .whole) x
    tell (zgj p a b d)
    M.pure (.lit (.int .i64 (zdr p a b d)))
  | _=>fail 304
noncomputable def ctrP3:Ctr:=(159,cRoots) :: ctrP2
theorem cRoots_ok:lZ Tryz.prog 159 cRoots:=by
  intro args _
  unfold cRoots
  split
  · exact Spec.bind (asK_spec.mono fun L hL=>Spec.bind (Spec.tell fun h=>Spec.pure' ((roots_fc L _ _ _ h).le (.cons hL (LeL.refl _)) (Le.refl _))))
  · exact Spec.fail
theorem zkN:∀p∈ctrP3,lZ Tryz.prog p.1 p.2:=CAll.cons cRoots_ok zkM
theorem okP3:(dZ Tryz.prog ctrP3 bw [] kdP).OK:=OZ zcM mixed zkN zcF
noncomputable section
theorem on_0 (p:List Int) (a b d:Int) (h1:(p.length:Int)=2) (h2:0<(p.length:Int)) (h3:0<p.length) (h4:r64 (0-p.getD 0 0)) (h5:r64 ((0-p.getD 0 0)*d)) (h6:(0-p.getD 0 0)*d≥a):FC Tryz.prog 115 [.agg [.sq p,.lit (.int .i64 a),.lit (.int .i64 b),.lit (.int .i64 d)]] (.lit (.bool (decide ((0-p.getD 0 0)*d≤b)))):=fZ okP3 60 [1,1] (.c (beq_iff_eq.2 h1)<|.t h2<|.t h3<|.i h4<|.i h5<|.t h6<|.e) [1,0,2,3,4,5,6]
theorem on_1 (p:List Int) (a b d:Int) (h1:(p.length:Int)=2) (h2:0<(p.length:Int)) (h3:0<p.length) (h4:r64 (0-p.getD 0 0)) (h5:r64 ((0-p.getD 0 0)*d)) (h6:¬((0-p.getD 0 0)*d≥a)):FC Tryz.prog 115 [.agg [.sq p,.lit (.int .i64 a),.lit (.int .i64 b),.lit (.int .i64 d)]] (.ff):=fZ okP3 60 [1,0] (.c (beq_iff_eq.2 h1)<|.t h2<|.t h3<|.i h4<|.i h5<|.f h6<|.e) [1,0,2,3,4,5,6]
theorem on_2 (p:List Int) (a b d:Int) (h1:(p.length:Int)≠2) (h2:pPo (p,a,b,d)) (h3:zgj (p,a,b,d).fst a b d):FC Tryz.prog 115 [.agg [.sq p,.lit (.int .i64 a),.lit (.int .i64 b),.lit (.int .i64 d)]] (.lit (.bool (zdr (p,a,b,d).fst a b d==1))):=fZ okP3 60 [0] (.c (beq_false_of_ne h1)<|.c h2<|.c h3<|.e) [1,2,3]
abbrev zjk (s:St) (r:Ex × St):Prop:=Loops 0 Tryz.prog (pZ Tryz.prog 154 0) s r
abbrev zcX (a:List Int) (b c:Int):St:=⟨sp 19 [(0,.sq a),(1,.fn 113 []),(7,aI b),(8,aI c)],[],[]⟩
abbrev zgx (a:List Int) (b c:Int):St:=⟨sp 19 [(4,aI c)],[],[]⟩
abbrev zjl (a:List Int) (b c:Int):St:=⟨sp 19 [(0,.sq a),(1,.fn 113 []),(7,aI b),(8,aI c)],[],[]⟩
theorem cx_L0_0_0 (a:List Int) (b c:Int) (h1:c<b) (h2:0≤c) (h3:c<(a.length:Int)) (h4:c.toNat<a.length) (h5:a.getD c.toNat 0≥-1000) (h6:¬(a.getD c.toNat 0≤1000)):zjk (zcX a b c) (Ex.ret,(zgx a b c)):=Loops.fin (LS.at okP3 60 [] [4] [] [1,1,1] (.t h1<|.t h2<|.t h3<|.t h4<|.t h5<|.y h6<|.e) [1,2,3,4,5,6]) (fun h=>nomatch h)
theorem cx_L0_0_1 (a:List Int) (b c:Int) (h1:c<b) (h2:0≤c) (h3:c<(a.length:Int)) (h4:c.toNat<a.length) (h5:a.getD c.toNat 0≥-1000) (h6:a.getD c.toNat 0≤1000) (h7:r64 (c+1)) {r:Ex × St} (k:zjk (zcX a b (c+1)) r):zjk (zcX a b c) r:=Loops.go (LS.at okP3 60 [] [0,1,7,8] [] [1,1,0] (.t h1<|.t h2<|.t h3<|.t h4<|.t h5<|.x h6<|.i h7<|.e) [1,2,3,4,5,6,7]) k
theorem cx_L0_0_2 (a:List Int) (b c:Int) (h1:c<b) (h2:0≤c) (h3:c<(a.length:Int)) (h4:c.toNat<a.length) (h5:¬(a.getD c.toNat 0≥-1000)):zjk (zcX a b c) (Ex.ret,(zgx a b c)):=Loops.fin (LS.at okP3 60 [] [4] [] [1,0] (.t h1<|.t h2<|.t h3<|.t h4<|.f h5<|.e) [1,2,3,4,5]) (fun h=>nomatch h)
theorem cx_L0_0_3 (a:List Int) (b c:Int) (h1:¬(c<b)):zjk (zcX a b c) (Ex.exit 0,(zjl a b c)):=Loops.fin (LS.at okP3 60 [] [0,1,7,8] [] [0] (.f h1<|.e) [1]) (fun h=>nomatch h)
theorem cx_0 (p:List Int) (a:Int) (hL1:zjk (zcX p ((p.length:Int)) (0)) (Ex.ret,(zgx p ((p.length:Int)) a))):FC Tryz.prog 112 [.sq p,.fn 113 []] (.lit (.bool (decide (a≥0)))):=fZ okP3 60 [] (.v [0,1,7,8] [] hL1<|.e) [0,1]
theorem cx_1 (p:List Int) (a:Int) (hL1:zjk (zcX p ((p.length:Int)) (0)) (Ex.exit 0,(zjl p ((p.length:Int)) a))):FC Tryz.prog 112 [.sq p,.fn 113 []] (aF):=fZ okP3 60 [] (.v [0,1,7,8] [] hL1<|.e) [0,1]
end
open Go.Kf
def zl1 (p:List Int) (a b d:Int):Bool:=if p.length=2 then decide (a≤-(p.getD 0 0)*d)&&decide (-(p.getD 0 0)*d≤b) else zdr p a b d==1
theorem one_fc (p:List Int) (a b d:Int) (h:zgj p a b d):FC Tryz.prog 115 [.agg [.sq p,.lit (.int .i64 a),.lit (.int .i64 b),.lit (.int .i64 d)]] (.lit (.bool (zl1 p a b d))):=by
  have h':=h
  obtain ⟨hp,ha,hb,hd⟩:=h'
  have g0:=zeT hp.2.2 0
  have m:=zla (a:=0-p.getD 0 0) (b:=d) (A:=1000) (B:=1000000) (by omega) hd
  have hl:=hp.1
  by_cases h2:p.length=2
  · have e:0-p.getD 0 0 = -(p.getD 0 0):=by omega
    by_cases h3:a≤-(p.getD 0 0)*d
    · have:=on_0 p a b d (by omega) (by omega) (by omega) (by omega) (by omega) (by rw [e];exact h3)
      rw [e] at this
      have e2:zl1 p a b d=decide (-(p.getD 0 0)*d≤b):=by unfold zl1;rw [if_pos h2,decide_eq_true h3,Bool.true_and]
      rw [e2];exact this
    · exact ffF (on_1 p a b d (by omega) (by omega) (by omega) (by omega) (by omega) (by rw [e];exact h3)) (by unfold zl1;rw [if_pos h2,decide_eq_false h3,Bool.false_and])
  · have e2:zl1 p a b d=(zdr p a b d==1):=by unfold zl1;rw [if_neg h2]
    rw [e2]
    exact on_2 p a b d (by omega) hp h
def zew (p:List Int):Bool:=p.any fun c=>decide (c < -1000)||decide (1000<c)
theorem bigc_f {p:List Int} (h:zew p=false):∀c∈p,c.natAbs≤1000:=by
  unfold zew at h
  intro c hc
  have:=List.any_eq_false.1 h c hc
  simp only [Bool.or_eq_true,decide_eq_true_eq,not_or] at this
  omega
theorem zku {p:List Int} {i:Nat} (h:i<p.length):zew (p.drop i)=((decide (p.getD i 0 < -1000)||decide (1000<p.getD i 0))||zew (p.drop (i+1))):=by
  rw [zfQ h];rfl
theorem cx_loop {p:List Int} (hl:p.length≤1000):∀(m i:Nat),i+m=p.length →
    (zew (p.drop i)=true∧∃t,0≤t∧zjk (zcX p p.length i) (Ex.ret,zgx p p.length t))∨(zew (p.drop i)=false∧∃t,zjk (zcX p p.length i) (Ex.exit 0,zjl p p.length t))
  | 0,i,hi=>by
    obtain rfl:i=p.length:=by omega
    exact .inr ⟨by rw [List.drop_length];rfl,p.length,cx_L0_0_3 p p.length p.length (by omega)⟩
  | m + 1,i,hi=>by
    have hlt:i<p.length:=by omega
    have e1:Int.toNat (i:Int)=i:=rfl
    rw [zku hlt]
    by_cases h1:p.getD i 0≥-1000
    · by_cases h2:p.getD i 0≤1000
      · have go:=fun r=>@cx_L0_0_1 p p.length i (by omega) (by omega) (by omega) (by omega) h1 h2 (by omega) r
        rw [decide_eq_false (show ¬p.getD i 0 < -1000 by omega),decide_eq_false (show ¬1000<p.getD i 0 by omega),Bool.false_or,Bool.false_or]
        rcases cx_loop hl m (i+1) (by omega) with ⟨a,t,ht,k⟩ | ⟨a,t,k⟩
        · exact .inl ⟨a,t,ht,go _ k⟩
        · exact .inr ⟨a,t,go _ k⟩
      · exact .inl ⟨by rw [decide_eq_true (show 1000<p.getD i 0 by omega)];simp,i,by omega,cx_L0_0_0 p p.length i (by omega) (by omega) (by omega) (by omega) h1 h2⟩
    · exact .inl ⟨by rw [decide_eq_true (show p.getD i 0 < -1000 by omega)];simp,i,by omega,cx_L0_0_2 p p.length i (by omega) (by omega) (by omega) (by omega) h1⟩
theorem zme (p:List Int) (hl:p.length≤1000):FC Tryz.prog 112 [.sq p,.fn 113 []] (.lit (.bool (zew p))):=by
  rcases cx_loop hl p.length 0 (by omega) with ⟨a,t,ht,k⟩ | ⟨a,t,k⟩
  · rw [List.drop_zero] at a
    rw [a]
    have:=cx_0 p t k
    rw [decide_eq_true (show t≥0 from ht)] at this
    exact this
  · rw [List.drop_zero] at a
    rw [a]
    exact cx_1 p t k
def pOne (f:fieldK.ty):Prop:=zgj f.1 f.2.1 f.2.2.1 f.2.2.2
instance tOne {f:fieldK.ty}:Tst (pOne f):=⟨false,fun h=>by cases h⟩
def cCo (args:List AV):M AV:=match args with
  | [x,.fn f []]=>if f=113 then do
      let l ← ofOpt 212 (ints? x)
      tell (l.length≤1000)
      M.pure (.lit (.bool (zew l)))
    else fail 305
  | _=>fail 305
noncomputable def ctrP4:Ctr:=(112,cCo) :: (115,cD1 fieldK pOne (fun f=>.lit (.bool (zl1 f.1 f.2.1 f.2.2.1 f.2.2.2)))) :: ctrP3
theorem cCo_ok:lZ Tryz.prog 112 cCo:=by
  intro args _
  unfold cCo
  split
  · split
    · rename_i hf
      subst hf
      exact Spec.bind (Spec.ofOpt fun l hl=>Spec.bind (Spec.tell fun hp=>Spec.pure' ((zme l hp).arg2 (fun E v hv=>hv.toSq hl) (fun E v hv=>hv))))
    · exact Spec.fail
  · exact Spec.fail
theorem zkO:∀p∈ctrP4,lZ Tryz.prog p.1 p.2:=CAll.cons cCo_ok<|CAll.cons (ziD fun f h=>one_fc f.1 f.2.1 f.2.2.1 f.2.2.2 h) zkN
theorem zmA:(dZ Tryz.prog ctrP4 bw [] kdP).OK:=OZ zcM mixed zkO zcF
noncomputable section
theorem ck_0 (p:List Int) (a b d:Int) (h1:(p.length:Int)≥2) (h2:¬((p.length:Int)≤5)):FC Tryz.prog 36 [.agg [.sq p,.lit (.int .i64 a),.lit (.int .i64 b),.lit (.int .i64 d)]] (aI 10):=fZ zmA 60 [1,1] (.t h1<|.y h2<|.e) [1,2]
theorem ck_1 (p:List Int) (a b d:Int) (h1:(p.length:Int)≥2) (h2:(p.length:Int)≤5) (h3:p.length≤1000) (h4:zew p=true):FC Tryz.prog 36 [.agg [.sq p,.lit (.int .i64 a),.lit (.int .i64 b),.lit (.int .i64 d)]] (aI 2):=fZ zmA 60 [1,0,1] (.t h1<|.x h2<|.c h3<|.c h4<|.e) [1,2,3,4]
theorem ck_2 (p:List Int) (a b d:Int) (h1:(p.length:Int)≥2) (h2:(p.length:Int)≤5) (h3:p.length≤1000) (h4:zew p=false) (h5:d≥1) (h6:¬(d≤1000000)):FC Tryz.prog 36 [.agg [.sq p,.lit (.int .i64 a),.lit (.int .i64 b),.lit (.int .i64 d)]] (aI 2):=fZ zmA 60 [1,0,0,1,1] (.t h1<|.x h2<|.c h3<|.c h4<|.t h5<|.y h6<|.e) [1,2,3,4,5,6]
theorem ck_3 (p:List Int) (a b d:Int) (h1:(p.length:Int)≥2) (h2:(p.length:Int)≤5) (h3:p.length≤1000) (h4:zew p=false) (h5:d≥1) (h6:d≤1000000) (h7:a≥-1000000) (h8:¬(a≤1000000)):FC Tryz.prog 36 [.agg [.sq p,.lit (.int .i64 a),.lit (.int .i64 b),.lit (.int .i64 d)]] (aI 2):=fZ zmA 60 [1,0,0,1,0,1,1] (.t h1<|.x h2<|.c h3<|.c h4<|.t h5<|.x h6<|.t h7<|.y h8<|.e) [1,2,3,4,5,6,7,8]
theorem ck_4 (p:List Int) (a b d:Int) (h1:(p.length:Int)≥2) (h2:(p.length:Int)≤5) (h3:p.length≤1000) (h4:zew p=false) (h5:d≥1) (h6:d≤1000000) (h7:a≥-1000000) (h8:a≤1000000) (h9:b≥-1000000) (h10:¬(b≤1000000)):FC Tryz.prog 36 [.agg [.sq p,.lit (.int .i64 a),.lit (.int .i64 b),.lit (.int .i64 d)]] (aI 2):=fZ zmA 60 [1,0,0,1,0,1,0,1,1] (.t h1<|.x h2<|.c h3<|.c h4<|.t h5<|.x h6<|.t h7<|.x h8<|.t h9<|.y h10<|.e) [1,2,3,4,5,6,7,8,9,10]
theorem ck_5 (p:List Int) (a b d:Int) (h1:(p.length:Int)≥2) (h2:(p.length:Int)≤5) (h3:p.length≤1000) (h4:zew p=false) (h5:d≥1) (h6:d≤1000000) (h7:a≥-1000000) (h8:a≤1000000) (h9:b≥-1000000) (h10:b≤1000000) (h11:r64 ((p.length:Int)-1)) (h12:0≤(p.length:Int)-1) (h13:(p.length:Int)-1<(p.length:Int)) (h14:((p.length:Int)-1).toNat<p.length) (h15:p.getD ((p.length:Int)-1).toNat 0≠1):FC Tryz.prog 36 [.agg [.sq p,.lit (.int .i64 a),.lit (.int .i64 b),.lit (.int .i64 d)]] (aI 3):=fZ zmA 60 [1,0,0,1,0,1,0,1,0,1] (.t h1<|.x h2<|.c h3<|.c h4<|.t h5<|.x h6<|.t h7<|.x h8<|.t h9<|.x h10<|.i h11<|.t h12<|.t h13<|.t h14<|.c (bne_iff_ne.2 h15)<|.e) [1,2,3,4,5,6,7,8,9,10,11,12,13,14,15]
theorem ck_6 (p:List Int) (a b d:Int) (h1:(p.length:Int)≥2) (h2:(p.length:Int)≤5) (h3:p.length≤1000) (h4:zew p=false) (h5:d≥1) (h6:d≤1000000) (h7:a≥-1000000) (h8:a≤1000000) (h9:b≥-1000000) (h10:b≤1000000) (h11:r64 ((p.length:Int)-1)) (h12:0≤(p.length:Int)-1) (h13:(p.length:Int)-1<(p.length:Int)) (h14:((p.length:Int)-1).toNat<p.length) (h15:p.getD ((p.length:Int)-1).toNat 0=1) (h16:zdd p) (h17:red p=true):FC Tryz.prog 36 [.agg [.sq p,.lit (.int .i64 a),.lit (.int .i64 b),.lit (.int .i64 d)]] (aI 3):=fZ zmA 60 [1,0,0,1,0,1,0,1,0,0,1] (.t h1<|.x h2<|.c h3<|.c h4<|.t h5<|.x h6<|.t h7<|.x h8<|.t h9<|.x h10<|.i h11<|.t h12<|.t h13<|.t h14<|.c (bne_eq_false_iff_eq.2 h15)<|.c h16<|.c h17<|.e) [1,2,3,4,5,6,7,8,9,10,11,12,13,14,15,16,17]
theorem ck_7 (p:List Int) (a b d:Int) (h1:(p.length:Int)≥2) (h2:(p.length:Int)≤5) (h3:p.length≤1000) (h4:zew p=false) (h5:d≥1) (h6:d≤1000000) (h7:a≥-1000000) (h8:a≤1000000) (h9:b≥-1000000) (h10:b≤1000000) (h11:r64 ((p.length:Int)-1)) (h12:0≤(p.length:Int)-1) (h13:(p.length:Int)-1<(p.length:Int)) (h14:((p.length:Int)-1).toNat<p.length) (h15:p.getD ((p.length:Int)-1).toNat 0=1) (h16:zdd p) (h17:red p=false) (h18:a > b):FC Tryz.prog 36 [.agg [.sq p,.lit (.int .i64 a),.lit (.int .i64 b),.lit (.int .i64 d)]] (aI 9):=fZ zmA 60 [1,0,0,1,0,1,0,1,0,0,0,1] (.t h1<|.x h2<|.c h3<|.c h4<|.t h5<|.x h6<|.t h7<|.x h8<|.t h9<|.x h10<|.i h11<|.t h12<|.t h13<|.t h14<|.c (bne_eq_false_iff_eq.2 h15)<|.c h16<|.c h17<|.t h18<|.e) [1,2,3,4,5,6,7,8,9,10,11,12,13,14,15,16,17,18]
theorem ck_8 (p:List Int) (a b d:Int) (h1:(p.length:Int)≥2) (h2:(p.length:Int)≤5) (h3:p.length≤1000) (h4:zew p=false) (h5:d≥1) (h6:d≤1000000) (h7:a≥-1000000) (h8:a≤1000000) (h9:b≥-1000000) (h10:b≤1000000) (h11:r64 ((p.length:Int)-1)) (h12:0≤(p.length:Int)-1) (h13:(p.length:Int)-1<(p.length:Int)) (h14:((p.length:Int)-1).toNat<p.length) (h15:p.getD ((p.length:Int)-1).toNat 0=1) (h16:zdd p) (h17:red p=false) (h18:¬(a > b)) (h19:pOne (p,a,b,d)) (h20:zl1 (p,a,b,d).fst (p,a,b,d).snd.fst (p,a,b,d).snd.snd.fst (p,a,b,d).snd.snd.snd=false):FC Tryz.prog 36 [.agg [.sq p,.lit (.int .i64 a),.lit (.int .i64 b),.lit (.int .i64 d)]] (aI 11):=fZ zmA 60 [1,0,0,1,0,1,0,1,0,0,0,0,1] (.t h1<|.x h2<|.c h3<|.c h4<|.t h5<|.x h6<|.t h7<|.x h8<|.t h9<|.x h10<|.i h11<|.t h12<|.t h13<|.t h14<|.c (bne_eq_false_iff_eq.2 h15)<|.c h16<|.c h17<|.f h18<|.c h19<|.c (congrArg Bool.not h20)<|.e) [1,2,3,4,5,6,7,8,9,10,11,12,13,14,15,16,17,18,19,20]
theorem ck_9 (p:List Int) (a b d:Int) (h1:(p.length:Int)≥2) (h2:(p.length:Int)≤5) (h3:p.length≤1000) (h4:zew p=false) (h5:d≥1) (h6:d≤1000000) (h7:a≥-1000000) (h8:a≤1000000) (h9:b≥-1000000) (h10:b≤1000000) (h11:r64 ((p.length:Int)-1)) (h12:0≤(p.length:Int)-1) (h13:(p.length:Int)-1<(p.length:Int)) (h14:((p.length:Int)-1).toNat<p.length) (h15:p.getD ((p.length:Int)-1).toNat 0=1) (h16:zdd p) (h17:red p=false) (h18:¬(a > b)) (h19:pOne (p,a,b,d)) (h20:zl1 (p,a,b,d).fst (p,a,b,d).snd.fst (p,a,b,d).snd.snd.fst (p,a,b,d).snd.snd.snd=true):FC Tryz.prog 36 [.agg [.sq p,.lit (.int .i64 a),.lit (.int .i64 b),.lit (.int .i64 d)]] (aI 0):=fZ zmA 60 [1,0,0,1,0,1,0,1,0,0,0,0,0] (.t h1<|.x h2<|.c h3<|.c h4<|.t h5<|.x h6<|.t h7<|.x h8<|.t h9<|.x h10<|.i h11<|.t h12<|.t h13<|.t h14<|.c (bne_eq_false_iff_eq.2 h15)<|.c h16<|.c h17<|.f h18<|.c h19<|.c (congrArg Bool.not h20)<|.e) [1,2,3,4,5,6,7,8,9,10,11,12,13,14,15,16,17,18,19,20]
theorem ck_10 (p:List Int) (a b d:Int) (h1:(p.length:Int)≥2) (h2:(p.length:Int)≤5) (h3:p.length≤1000) (h4:zew p=false) (h5:d≥1) (h6:d≤1000000) (h7:a≥-1000000) (h8:a≤1000000) (h9:¬(b≥-1000000)):FC Tryz.prog 36 [.agg [.sq p,.lit (.int .i64 a),.lit (.int .i64 b),.lit (.int .i64 d)]] (aI 2):=fZ zmA 60 [1,0,0,1,0,1,0,0] (.t h1<|.x h2<|.c h3<|.c h4<|.t h5<|.x h6<|.t h7<|.x h8<|.f h9<|.e) [1,2,3,4,5,6,7,8,9]
theorem ck_11 (p:List Int) (a b d:Int) (h1:(p.length:Int)≥2) (h2:(p.length:Int)≤5) (h3:p.length≤1000) (h4:zew p=false) (h5:d≥1) (h6:d≤1000000) (h7:¬(a≥-1000000)):FC Tryz.prog 36 [.agg [.sq p,.lit (.int .i64 a),.lit (.int .i64 b),.lit (.int .i64 d)]] (aI 2):=fZ zmA 60 [1,0,0,1,0,0] (.t h1<|.x h2<|.c h3<|.c h4<|.t h5<|.x h6<|.f h7<|.e) [1,2,3,4,5,6,7]
theorem ck_12 (p:List Int) (a b d:Int) (h1:(p.length:Int)≥2) (h2:(p.length:Int)≤5) (h3:p.length≤1000) (h4:zew p=false) (h5:¬(d≥1)):FC Tryz.prog 36 [.agg [.sq p,.lit (.int .i64 a),.lit (.int .i64 b),.lit (.int .i64 d)]] (aI 2):=fZ zmA 60 [1,0,0,0] (.t h1<|.x h2<|.c h3<|.c h4<|.f h5<|.e) [1,2,3,4,5]
theorem ck_13 (p:List Int) (a b d:Int) (h1:¬((p.length:Int)≥2)):FC Tryz.prog 36 [.agg [.sq p,.lit (.int .i64 a),.lit (.int .i64 b),.lit (.int .i64 d)]] (aI 10):=fZ zmA 60 [0] (.f h1<|.e) [1]
end
open Go.Kf
noncomputable def zcb (p:List Int) (a b d:Int):Int:=
  if p.length<2∨5<p.length then 10
  else if zew p=true then 2
  else if d<1∨1000000<d∨a < -1000000∨1000000<a∨b < -1000000∨1000000<b then 2
  else if p.getD (p.length-1) 0≠1∨red p=true then 3
  else if b<a then 9
  else if zl1 p a b d=false then 11 else 0
theorem zmb {p:List Int} {a b d:Int} (h:p.length<2∨5<p.length):zcb p a b d=10:=if_pos h
theorem zma {p:List Int} {a b d:Int} (h:2≤p.length∧p.length≤5) (h2:zew p=true):zcb p a b d=2:=by
  unfold zcb;rw [if_neg (by omega),if_pos h2]
theorem zmc {p:List Int} {a b d:Int} (h:2≤p.length∧p.length≤5) (h3:d<1∨1000000<d∨a < -1000000∨1000000<a∨b < -1000000∨1000000<b):zcb p a b d=2:=by
  unfold zcb;rw [if_neg (by omega)]
  by_cases h2:zew p=true
  · rw [if_pos h2]
  · rw [if_neg h2,if_pos h3]
structure ChkR (p:List Int) (a b d:Int):Prop where
  l2:2≤p.length
  l5:p.length≤5
  bg:zew p=false
  d1:1≤d
  d2:d≤1000000
  a1:-1000000≤a
  a2:a≤1000000
  b1:-1000000≤b
  b2:b≤1000000
theorem ChkR.eq {p:List Int} {a b d:Int} (h:ChkR p a b d):zcb p a b d=if p.getD (p.length-1) 0≠1∨red p=true then 3 else if b<a then 9 else if zl1 p a b d=false then 11 else 0:=by
  obtain ⟨l2,l5,bg,d1,d2,a1,a2,b1,b2⟩:=h
  conv=>lhs;unfold zcb
  rw [if_neg (by omega),if_neg (by rw [bg];decide),if_neg (by omega)]
theorem ChkR.rd {p:List Int} {a b d:Int} (h:ChkR p a b d):zdd p:=⟨h.l2,h.l5,bigc_f h.bg⟩
theorem ChkR.ro {p:List Int} {a b d:Int} (h:ChkR p a b d):zgj p a b d:=⟨h.rd,by have:=h.a1;have:=h.a2;omega,by have:=h.b1;have:=h.b2;omega,by have:=h.d1;have:=h.d2;omega⟩
theorem zhb (p:List Int) (a b d:Int):ChkR p a b d∨(p.length<2∨5<p.length)∨(2≤p.length∧p.length≤5∧zew p=true)∨(2≤p.length∧p.length≤5∧zew p=false∧(d<1∨1000000<d∨a < -1000000∨1000000<a∨b < -1000000∨1000000<b)):=by
  by_cases h:p.length<2∨5<p.length
  · exact .inr (.inl h)
  cases h2:zew p with
  | true=>exact .inr (.inr (.inl ⟨by omega,by omega,rfl⟩))
  | false=>
    by_cases h3:d<1∨1000000<d∨a < -1000000∨1000000<a∨b < -1000000∨1000000<b
    · exact .inr (.inr (.inr ⟨by omega,by omega,rfl,h3⟩))
    · exact .inl ⟨by omega,by omega,h2,by omega,by omega,by omega,by omega,by omega,by omega⟩
theorem check_fc (p:List Int) (a b d:Int):FC Tryz.prog 36 [.agg [.sq p,.lit (.int .i64 a),.lit (.int .i64 b),.lit (.int .i64 d)]] (.lit (.int .i64 (zcb p a b d))):=by
  rcases zhb p a b d with h | h | ⟨l2,l5,bg⟩ | ⟨l2,l5,bg,h⟩
  · have hrd:=h.rd
    have hro:=h.ro
    rw [h.eq]
    obtain ⟨l2,l5,bg,d1,d2,a1,a2,b1,b2⟩:=h
    have e1:Int.toNat ((p.length:Int)-1)=p.length-1:=by omega
    by_cases c1:p.getD (p.length-1) 0=1
    · cases c2:red p with
      | true=>
        rw [if_pos (.inr rfl)]
        exact ck_6 p a b d (by omega) (by omega) (by omega) bg (by omega) (by omega) (by omega) (by omega) (by omega) (by omega) (by omega) (by omega) (by omega) (by omega) (by rw [e1];exact c1) hrd c2
      | false=>
        rw [if_neg (by simp only [c1,ne_eq,not_true_eq_false,false_or,Bool.false_eq_true,not_false_eq_true])]
        by_cases c3:b<a
        · rw [if_pos c3]
          exact ck_7 p a b d (by omega) (by omega) (by omega) bg (by omega) (by omega) (by omega) (by omega) (by omega) (by omega) (by omega) (by omega) (by omega) (by omega) (by rw [e1];exact c1) hrd c2 c3
        · rw [if_neg c3]
          cases c4:zl1 p a b d with
          | false=>
            rw [if_pos rfl]
            exact ck_8 p a b d (by omega) (by omega) (by omega) bg (by omega) (by omega) (by omega) (by omega) (by omega) (by omega) (by omega) (by omega) (by omega) (by omega) (by rw [e1];exact c1) hrd c2 c3 hro c4
          | true=>
            rw [if_neg (by decide)]
            exact ck_9 p a b d (by omega) (by omega) (by omega) bg (by omega) (by omega) (by omega) (by omega) (by omega) (by omega) (by omega) (by omega) (by omega) (by omega) (by rw [e1];exact c1) hrd c2 c3 hro c4
    · rw [if_pos (.inl c1)]
      exact ck_5 p a b d (by omega) (by omega) (by omega) bg (by omega) (by omega) (by omega) (by omega) (by omega) (by omega) (by omega) (by omega) (by omega) (by omega) (by rw [e1];exact c1)
  · rw [zmb h]
    by_cases l2:p.length<2
    · exact ck_13 p a b d (by omega)
    · exact ck_0 p a b d (by omega) (by omega)
  · rw [zma ⟨l2,l5⟩ bg]
    exact ck_1 p a b d (by omega) (by omega) (by omega) bg
  · rw [zmc ⟨l2,l5⟩ h]
    by_cases d1:1≤d
    · by_cases d2:d≤1000000
      · by_cases a1:-1000000≤a
        · by_cases a2:a≤1000000
          · by_cases b1:-1000000≤b
            · exact ck_4 p a b d (by omega) (by omega) (by omega) bg d1 d2 a1 a2 b1 (by omega)
            · exact ck_10 p a b d (by omega) (by omega) (by omega) bg d1 d2 a1 a2 b1
          · exact ck_3 p a b d (by omega) (by omega) (by omega) bg d1 d2 a1 a2
        · exact ck_11 p a b d (by omega) (by omega) (by omega) bg d1 d2 a1
      · exact ck_2 p a b d (by omega) (by omega) (by omega) bg d1 d2
    · exact ck_12 p a b d (by omega) (by omega) (by omega) bg d1
def cFd (p:List Int→Int→Int→Int→Prop) [∀l a b d,Tst (p l a b d)] (r:List Int→Int→Int→Int→AV) (args:List AV):M AV:=match args with
  | [x]=>do
    let f ← asK fieldK x
    match f with
    | (l,a,b,d)=>do
      tellD (p l a b d) (Tst.b (p l a b d))
      gives (r l a b d)
  | _=>fail 306
theorem ziE {P:Program} {f:FuncId} {p:List Int→Int→Int→Int→Prop} [∀l a b d,Tst (p l a b d)] {r:List Int→Int→Int→Int→AV} (h:∀l a b d,p l a b d→FC P f [.agg [.sq l,.lit (.int .i64 a),.lit (.int .i64 b),.lit (.int .i64 d)]] (r l a b d)):lZ P f (cFd p r):=by
  intro args _
  unfold cFd
  split
  · refine Spec.bind (asK_spec.mono fun f hf=>?_)
    obtain ⟨l,a,b,d⟩:=f
    exact Spec.bind (Spec.tellD Tst.ok fun hp=>Spec.gives ((h l a b d hp).le (.cons hf .nil) (Le.refl _)))
  · exact Spec.fail
noncomputable section
theorem cli_0 (p:List Int) (h1:p≠[]) (h2:(0+p.length)*8≤140737488355328) (h3:0+p.length≤4611686018427387904) (h4:0+p.length≤(List.take 0 []++p).length):FC Tryz.prog 104 [.sq p] (.sq ((List.take 0 []++p).take (0+p.length))):=fZ zmA 60 [] (.c (congrArg Bool.not (zbo h1))<|.t h2<|.t h3<|.c (show decide (p.length=p.length)=true from decide_eq_true rfl)<|.c h4<|.e) [1,2,3,0,4,5]
end
def pCl (p:List Int):Prop:=p≠[]∧p.length≤100000
instance tCl {p:List Int}:Tst (pCl p):=⟨match p with | []=>false | _ :: _=>Nat.ble p.length 100000,fun h=>by
  cases p with
  | nil=>cases h
  | cons x l=>exact ⟨by simp,Nat.le_of_ble_eq_true h⟩⟩
theorem clone_fc (p:List Int) (h:pCl p):FC Tryz.prog 104 [.sq p] (.sq p):=by
  have:=cli_0 p h.1 (by have:=h.2;omega) (by have:=h.2;omega) (by simp)
  rw [show List.take (0+p.length) (List.take 0 []++p)=p by simp] at this
  exact this
theorem Le.lst_slW (l:List Int):Le (.lst .whole l) (.sl (yZ .W l) l.length):=fun E v h=>by
  cases h with
  | lst h=>rw [← zez];exact h
def pRdT (p:List Int) (_ _ _:Int):Prop:=zdd p
instance tRdT {p:List Int} {a b d:Int}:Tst (pRdT p a b d):=⟨false,fun h=>by cases h⟩
noncomputable def ctrP5:Ctr:=(153,cPWW zdc (fun l a b=>.lit (.int .i64 (zag l a b).sign))) :: (105,cFd pRdT (fun l _ _ _=>.sl (yZ .W l) l.length)) :: (104,cL pCl (fun p=>.sq p)) ::
  (36,cFd (fun _ _ _ _=>True) (fun l a b d=>.lit (.int .i64 (zcb l a b d)))) :: ctrP4
theorem zhe:∀p∈ctrP5,lZ Tryz.prog p.1 p.2:=CAll.cons (cPWW_ok zhY)<|CAll.cons (ziE fun l a b d h=>(zhD l a b d h).le (LeL.refl _) (Le.lst_slW l))<|CAll.cons (zjf clone_fc)<|CAll.cons (ziE fun l a b d _=>check_fc l a b d) zkO
theorem okP5:(dZ Tryz.prog ctrP5 bw).OK:=QZ zhe
noncomputable def ctrP7:Ctr:=(153,cLWW zdc (fun l a b=>.lit (.int .i64 (zag l a b).sign))) :: (105,cFd pRdT (fun l _ _ _=>.lst .whole l)) :: ctrP5
theorem ctrP7_all:∀p∈ctrP7,lZ Tryz.prog p.1 p.2:=CAll.cons (cLWW_ok zi0)<|CAll.cons (ziE fun l a b d h=>zhD l a b d h) zhe
theorem zqr:(dZ Tryz.prog ctrP7 bw [] kdP).OK:=OZ zcM mixed ctrP7_all zcF
noncomputable section
abbrev zjN (s:St) (r:Ex × St):Prop:=Loops 3 Tryz.prog (pZ Tryz.prog 35 0) s r
abbrev zjO (a:Int) (b:List Int) (c d e:Int) (f:List Int):St:=⟨sp 103 [(5,.ref 1 0),(6,aI a),(7,aI 1)],[.flat [.sq b,aI c,aI d,aI e] true,.flat [.sq b,aI c,aI d,aI e,.lst EK.whole b,.own 2 0 1 2,aD c,.wd c,aD d,.wd d,aD e,.wd e] true,.lst EK.whole f true],[1,0,2]⟩
abbrev zhz (a:Int) (b:List Int) (c d e:Int) (f:List Int) (g:Int) (i:Nat) (j:List Int):St:=⟨sp 103 [(5,.ref 1 0),(6,aI a),(7,aI g)],[.flat [.sq b,aI c,aI d,aI e] true,.flat [.sq b,aI c,aI d,aI e,.lst EK.whole b,.own 3 0 i 2,aD c,.wd c,aD d,.wd d,aD e,.wd e] true,.dead,.lst EK.whole j true],[1,0,2]⟩
abbrev znv (a:Int) (b:List Int) (c d e:Int) (f:List Int):St:=⟨sp 103 [(5,.ref 1 0),(6,aI a),(7,aI 1)],[.flat [.sq b,aI c,aI d,aI e] true,.flat [.sq b,aI c,aI d,aI e,.lst EK.whole b,.own 2 0 1 2,aD c,.wd c,aD d,.wd d,aD e,.wd e] true,.lst EK.whole f true],[1,0,2]⟩
abbrev zeZ (a:Int) (b:List Int) (c d e:Int) (f:List Int) (g:Int) (i:Nat) (j:List Int):St:=⟨sp 103 [(5,.ref 1 0),(6,aI a),(7,aI g)],[.flat [.sq b,aI c,aI d,aI e] true,.flat [.sq b,aI c,aI d,aI e,.lst EK.whole b,.own 3 0 i 2,aD c,.wd c,aD d,.wd d,aD e,.wd e] true,.dead,.lst EK.whole j true],[1,0,2]⟩
abbrev op_L1 (s:St) (r:Ex × St):Prop:=Loops 4 Tryz.prog (pZ Tryz.prog 35 1) s r
abbrev op_L1_0 (a:Int) (b:List Int) (c d e:Int) (f:List Int) (g:Int):St:=⟨sp 103 [(5,.ref 1 0),(6,aI a),(7,aI 1),(8,.ref 3 0),(9,aI 1)],[.flat [.sq b,aI c,aI d,aI e] true,.flat [.sq b,aI c,aI d,aI e,.lst EK.whole b,.own 2 0 1 2,aD c,.wd c,aD d,.wd d,aD e,.wd e] true,.lst EK.whole f true,.flat [aD g,.wd g] true],[0,1,2]⟩
abbrev znu (a:Int) (b:List Int) (c d e:Int) (f:List Int) (g:Int):St:=⟨sp 103 [(5,.ref 1 0),(6,aI a),(7,aI 1),(8,.ref 3 0),(9,aI 1)],[.flat [.sq b,aI c,aI d,aI e] true,.flat [.sq b,aI c,aI d,aI e,.lst EK.whole b,.own 2 0 1 2,aD c,.wd c,aD d,.wd d,aD e,.wd e] true,.lst EK.whole f true,.flat [aD g,.wd g] true],[0,1,2]⟩
theorem op_L1_0_0 (a:Int) (b:List Int) (c d f:Int) (g:List Int) (i:Int):op_L1 (op_L1_0 a b c d f g i) (Ex.exit 2,(znu a b c d f g i)):=Loops.fin (LS.at zqr 60 [] [5,6,7,8,9] [0,1,2] [] (.e) []) (fun h=>nomatch h)
abbrev zgf (a:Int) (b:List Int):Row:=.flat [.lit (.bool (decide (b.getD (a-1).toNat (EK.dflt EK.whole)*1<0))),.wd (b.getD (a-1).toNat (EK.dflt EK.whole)*1)] true
abbrev zgg (a:Int) (b:List Int):AV:=.agg [.lit (.bool (decide (b.getD (a-1).toNat (EK.dflt EK.whole)*1<0))),.wd (b.getD (a-1).toNat (EK.dflt EK.whole)*1)]
abbrev zlg (a:Int) (b:List Int) (c d e:Int) (f:List Int):St:=⟨sp 103 [(5,.ref 1 0),(6,aI a),(7,aI 1),(8,.ref 3 0),(41,aI 1),(42,aI a),(43,.lit (.bool (decide (1<a)))),(46,.ref 1 0),(47,.ref 1 0),(48,.ref 1 4),(49,.lst EK.whole b),(50,aI a),(51,aI 1),(52,aI (a-1)),(53,.pd [.lit (.bool (decide (b.getD (a-1).toNat (EK.dflt EK.whole)<OfNat.ofNat 0))),.wd (b.getD (a-1).toNat (EK.dflt EK.whole))] 0),(54,.agg [.lit (.bool (decide (b.getD (a-1).toNat (EK.dflt EK.whole)<OfNat.ofNat 0))),.wd (b.getD (a-1).toNat (EK.dflt EK.whole))]),(55,aI 1),(56,.agg [aF,.wd 1]),(57,(zgg a b))],[.flat [.sq b,aI c,aI d,aI e] true,.flat [.sq b,aI c,aI d,aI e,.lst EK.whole b,.own 2 0 1 2,aD c,.wd c,aD d,.wd d,aD e,.wd e] true,.lst EK.whole f true,(zgf a b)],[0,1,2]⟩
abbrev zlh (a:Int) (b:List Int) (c d e:Int) (f:List Int):St:=⟨sp 103 [(5,.ref 1 0),(6,aI a),(7,aI 1),(8,.ref 3 0),(9,aI 1),(84,.ref 1 0),(85,.ref 1 0),(86,.ref 1 0),(87,.ref 1 5),(88,.own 2 0 1 2),(89,(zgg a b)),(90,.agg [.lit (.bool (decide (-(b.getD (a-1).toNat (EK.dflt EK.whole)*1)<0))),.wd (-(b.getD (a-1).toNat (EK.dflt EK.whole)*1))]),(91,.own 4 0 1 2),(92,.own 5 0 2 2),(93,.ref 1 0),(94,.ref 1 5)],[.flat [.sq b,aI c,aI d,aI e] true,.flat [.sq b,aI c,aI d,aI e,.lst EK.whole b,.own 5 0 2 2,aD c,.wd c,aD d,.wd d,aD e,.wd e] true,.dead,(zgf a b),.lst EK.whole [-(b.getD (a-1).toNat (EK.dflt EK.whole)*1)] false,.lst EK.whole (f.take 1++List.take 1 [-(b.getD (a-1).toNat (EK.dflt EK.whole)*1)]) true],[0,1,2]⟩
theorem op_L4_0_0 (a:Int) (b:List Int) (d f g:Int) (j:List Int) (h1:1<a) (h2:r64 (a-1)) (h3:0≤a-1) (h4:a-1<(b.length:Int)) (h5:bZ 1) (h6:decide (b.getD (a-1).toNat (EK.dflt EK.whole)<OfNat.ofNat 0)=decide (b.getD (a-1).toNat (EK.dflt EK.whole)<0)) (h7:pDD (b.getD (a-1).toNat (EK.dflt EK.whole)) 1) (hL1:op_L1 (op_L1_0 a b d f g j (b.getD (a-1).toNat (EK.dflt EK.whole)*1)) (Ex.exit 2,(znu a b d f g j (b.getD (a-1).toNat (EK.dflt EK.whole)*1)))) (h9:1≤List.length [-(b.getD (a-1).toNat (EK.dflt EK.whole)*1)]) (h10:(1+(List.take 1 [-(b.getD (a-1).toNat (EK.dflt EK.whole)*1)]).length)*32≤140737488355328) (h11:1+(List.take 1 [-(b.getD (a-1).toNat (EK.dflt EK.whole)*1)]).length≤4611686018427387904) (h12:1≤j.length) {r:Ex × St} (k:zjN (zhz a b d f g j (2) (2) (j.take 1++List.take 1 [-(b.getD (a-1).toNat (EK.dflt EK.whole)*1)])) r):zjN (zjO a b d f g j) r:=Loops.go (LS.at zqr 60 [5] [5,6,7] [1,0,2] [1] (.t h1<|.i h2<|.t h3<|.t h4<|.c h5<|.c h6<|.c h7<|.s (zlg a b d f g j)<|.v [5,6,7,8,9] [0,1,2] hL1<|.c h9<|.t h10<|.t h11<|.t h12<|.s (zlh a b d f g j)<|.e) [1,2,3,4,5,6,0,7,6,0,7,8,5,6,0,7,8,0,9,0,0,0,10,11,12,13,0,0,0,10,11,12,13,0,10,11,12,13,14,14,0]) k
theorem op_L4_0_1 (a:Int) (b:List Int) (c d g:Int) (i:List Int) (h1:¬(1<a)):zjN (zjO a b c d g i) (Ex.exit 0,(znv a b c d g i)):=Loops.fin (LS.at zqr 60 [] [5,6,7] [1,0,2] [0] (.f h1<|.e) [1]) (fun h=>nomatch h)
abbrev op_L3 (s:St) (r:Ex × St):Prop:=Loops 5 Tryz.prog (pZ Tryz.prog 35 1) s r
abbrev zhy (a b:Int) (c:List Int) (d e f:Int) (g:Nat) (i:List Int) (j l:Int):St:=⟨sp 103 [(5,.ref 1 0),(6,aI a),(7,aI b),(8,.ref 4 0),(9,aI j)],[.flat [.sq c,aI d,aI e,aI f] true,.flat [.sq c,aI d,aI e,aI f,.lst EK.whole c,.own 3 0 g 2,aD d,.wd d,aD e,.wd e,aD f,.wd f] true,.dead,.lst EK.whole i true,.flat [aD l,.wd l] true],[0,1,2,4]⟩
abbrev zgI (a b:Int) (c:List Int) (d e f:Int) (g:Nat) (i:List Int) (j l:Int):St:=⟨sp 103 [(5,.ref 1 0),(6,aI a),(7,aI b),(8,.ref 4 0),(9,aI j)],[.flat [.sq c,aI d,aI e,aI f] true,.flat [.sq c,aI d,aI e,aI f,.lst EK.whole c,.own 3 0 g 2,aD d,.wd d,aD e,.wd e,aD f,.wd f] true,.dead,.lst EK.whole i true,.flat [aD l,.wd l] true],[0,1,2,4]⟩
abbrev zlf (a b:Int) (c:List Int) (d e f:Int) (g:Nat) (i:List Int) (j l:Int):St:=⟨sp 103 [(5,.ref 1 0),(6,aI a),(7,aI b),(8,.ref 4 0),(9,aI j),(58,aI j),(59,aI b),(60,.lit (.bool (decide (j<b)))),(63,.agg [aD l,.wd l]),(64,.ref 1 0),(65,.ref 1 0),(66,.ref 1 4),(67,.lst EK.whole c),(68,aI a),(69,aI j),(70,aI (a-j)),(71,.pd [.lit (.bool (decide (c.getD (a-j).toNat (EK.dflt EK.whole)<OfNat.ofNat 0))),.wd (c.getD (a-j).toNat (EK.dflt EK.whole))] 0),(72,.agg [.lit (.bool (decide (c.getD (a-j).toNat (EK.dflt EK.whole)<OfNat.ofNat 0))),.wd (c.getD (a-j).toNat (EK.dflt EK.whole))]),(73,.ref 1 0),(74,.ref 1 0),(75,.ref 1 5),(76,.own 3 0 g 2),(77,aI b),(78,aI j),(79,aI (b-j)),(80,.rel 3 (b-j).toNat 2 0),(81,.agg [.lit (.bool (decide (i.getD (b-j).toNat (EK.dflt EK.whole)<OfNat.ofNat 0))),.wd (i.getD (b-j).toNat (EK.dflt EK.whole))]),(82,.agg [.lit (.bool (decide (c.getD (a-j).toNat (EK.dflt EK.whole)*i.getD (b-j).toNat (EK.dflt EK.whole)<0))),.wd (c.getD (a-j).toNat (EK.dflt EK.whole)*i.getD (b-j).toNat (EK.dflt EK.whole))]),(83,.agg [.lit (.bool (decide (l+c.getD (a-j).toNat (EK.dflt EK.whole)*i.getD (b-j).toNat (EK.dflt EK.whole)<0))),.wd (l+c.getD (a-j).toNat (EK.dflt EK.whole)*i.getD (b-j).toNat (EK.dflt EK.whole))])],[.flat [.sq c,aI d,aI e,aI f] true,.flat [.sq c,aI d,aI e,aI f,.lst EK.whole c,.own 3 0 g 2,aD d,.wd d,aD e,.wd e,aD f,.wd f] true,.dead,.lst EK.whole i true,.flat [.lit (.bool (decide (l+c.getD (a-j).toNat (EK.dflt EK.whole)*i.getD (b-j).toNat (EK.dflt EK.whole)<0))),.wd (l+c.getD (a-j).toNat (EK.dflt EK.whole)*i.getD (b-j).toNat (EK.dflt EK.whole))] true],[4,0,1,2,4]⟩
theorem op_L3_0_0 (a b:Int) (d:List Int) (f g j:Int) (l:Nat) (m:List Int) (n o:Int) (h1:n<b) (h2:r64 (a-n)) (h3:0≤a-n) (h4:a-n<(d.length:Int)) (h5:r64 (b-n)) (h6:0≤b-n) (h7:b-n<(l:Int)) (h8:(b-n).toNat<m.length) (h9:decide (d.getD (a-n).toNat (EK.dflt EK.whole)<OfNat.ofNat 0)=decide (d.getD (a-n).toNat (EK.dflt EK.whole)<0)) (h10:decide (m.getD (b-n).toNat (EK.dflt EK.whole)<OfNat.ofNat 0)=decide (m.getD (b-n).toNat (EK.dflt EK.whole)<0)) (h11:pDD (d.getD (a-n).toNat (EK.dflt EK.whole)) (m.getD (b-n).toNat (EK.dflt EK.whole))) (h12:pDD o (d.getD (a-n).toNat (EK.dflt EK.whole)*m.getD (b-n).toNat (EK.dflt EK.whole))) (h13:r64 (n+1)) {r:Ex × St} (k:op_L3 (zhy a b d f g j l m (n+1) (o+d.getD (a-n).toNat (EK.dflt EK.whole)*m.getD (b-n).toNat (EK.dflt EK.whole))) r):op_L3 (zhy a b d f g j l m n o) r:=Loops.go (LS.at zqr 60 [] [5,6,7,8,9] [0,1,2,4] [1] (.t h1<|.i h2<|.t h3<|.t h4<|.i h5<|.t h6<|.t h7<|.t h8<|.c h9<|.c h10<|.c h11<|.c h12<|.s (zlf a b d f g j l m n o)<|.i h13<|.e) [1,2,3,4,5,6,7,8,9,10,11,0,0,12,9,10,11,0,0,12,13,14]) k
theorem op_L3_0_1 (a b:Int) (c:List Int) (d g i:Int) (j:Nat) (l:List Int) (m n:Int) (h1:¬(m<b)):op_L3 (zhy a b c d g i j l m n) (Ex.exit 2,(zgI a b c d g i j l m n)):=Loops.fin (LS.at zqr 60 [] [5,6,7,8,9] [0,1,2,4] [0] (.f h1<|.e) [1]) (fun h=>nomatch h)
abbrev zli (a:Int) (b:List Int) (c d e:Int) (f:List Int) (g:Int) (i:Nat) (j:List Int) (l m:Int):St:=⟨sp 103 [(5,.ref 1 0),(6,aI a),(7,aI g),(8,.ref 4 0),(41,aI g),(42,aI a),(43,.lit (.bool (decide (g<a)))),(46,.ref 1 0),(47,.ref 1 0),(48,.ref 1 4),(49,.lst EK.whole b),(50,aI a),(51,aI g),(52,aI (a-g)),(53,.pd [.lit (.bool (decide (b.getD (a-g).toNat (EK.dflt EK.whole)<OfNat.ofNat 0))),.wd (b.getD (a-g).toNat (EK.dflt EK.whole))] 0),(54,.agg [.lit (.bool (decide (b.getD (a-g).toNat (EK.dflt EK.whole)<OfNat.ofNat 0))),.wd (b.getD (a-g).toNat (EK.dflt EK.whole))]),(55,aI g),(56,.agg [aD g,.wd g]),(57,.agg [.lit (.bool (decide (b.getD (a-g).toNat (EK.dflt EK.whole)*g<0))),.wd (b.getD (a-g).toNat (EK.dflt EK.whole)*g)])],[.flat [.sq b,aI c,aI d,aI e] true,.flat [.sq b,aI c,aI d,aI e,.lst EK.whole b,.own 3 0 i 2,aD c,.wd c,aD d,.wd d,aD e,.wd e] true,.dead,.lst EK.whole j true,.flat [.lit (.bool (decide (b.getD (a-g).toNat (EK.dflt EK.whole)*g<0))),.wd (b.getD (a-g).toNat (EK.dflt EK.whole)*g)] true],[0,1,2]⟩
abbrev zlj (a:Int) (b:List Int) (c d e:Int) (f:List Int) (g:Int) (i:Nat) (j:List Int) (l m:Int):St:=⟨sp 103 [(5,.ref 1 0),(6,aI a),(7,aI g),(8,.ref 4 0),(9,aI l),(84,.ref 1 0),(85,.ref 1 0),(86,.ref 1 0),(87,.ref 1 5),(88,.own 3 0 i 2),(89,.agg [aD m,.wd m]),(90,.agg [.lit (.bool (decide (-m<0))),.wd (-m)]),(91,.own 5 0 1 2),(92,.own 6 0 (i+(List.take 1 [-m]).length) 2),(93,.ref 1 0),(94,.ref 1 5)],[.flat [.sq b,aI c,aI d,aI e] true,.flat [.sq b,aI c,aI d,aI e,.lst EK.whole b,.own 6 0 (i+(List.take 1 [-m]).length) 2,aD c,.wd c,aD d,.wd d,aD e,.wd e] true,.dead,.dead,.flat [aD m,.wd m] true,.lst EK.whole [-m] false,.lst EK.whole (j.take i++List.take 1 [-m]) true],[0,1,2,3,4]⟩
theorem op_L4_1_0 (a:Int) (b:List Int) (d f g:Int) (j:List Int) (l:Int) (m:Nat) (n:List Int) (o p:Int) (h1:l<a) (h2:r64 (a-l)) (h3:0≤a-l) (h4:a-l<(b.length:Int)) (h5:bZ l) (h6:decide (b.getD (a-l).toNat (EK.dflt EK.whole)<OfNat.ofNat 0)=decide (b.getD (a-l).toNat (EK.dflt EK.whole)<0)) (h7:pDD (b.getD (a-l).toNat (EK.dflt EK.whole)) l) (hL1:op_L3 (zhy a l b d f g m n (1) (b.getD (a-l).toNat (EK.dflt EK.whole)*l)) (Ex.exit 2,(zgI a l b d f g m n o p))) (h9:1≤List.length [-p]) (h10:(m+(List.take 1 [-p]).length)*32≤140737488355328) (h11:m+(List.take 1 [-p]).length≤4611686018427387904) (h12:m≤n.length) (h13:r64 (l+1)) {r:Ex × St} (k:zjN (zhz a b d f g j (l+1) (m+(List.take 1 [-p]).length) (n.take m++List.take 1 [-p])) r):zjN (zhz a b d f g j l m n) r:=Loops.go (LS.at zqr 60 [6] [5,6,7] [1,0,2] [1] (.t h1<|.i h2<|.t h3<|.t h4<|.c h5<|.c h6<|.c h7<|.s (zli a b d f g j l m n o p)<|.v [5,6,7,8,9] [0,1,2,4] hL1<|.c h9<|.t h10<|.t h11<|.t h12<|.s (zlj a b d f g j l m n o p)<|.i h13<|.e) [1,2,3,4,5,6,0,7,6,0,7,8,5,6,0,7,8,0,9,0,0,0,10,11,12,13,0,0,0,10,11,12,13,0,10,11,12,13,14,14,15]) k
theorem op_L4_1_1 (a:Int) (b:List Int) (c d g:Int) (i:List Int) (j:Int) (l:Nat) (m:List Int) (h1:¬(j<a)):zjN (zhz a b c d g i j l m) (Ex.exit 0,(zeZ a b c d g i j l m)):=Loops.fin (LS.at zqr 60 [3] [5,6,7] [1,0,2] [0] (.f h1<|.e) [1]) (fun h=>nomatch h)
theorem op_2 (p:List Int) (a b d:Int) (h1:zcb p a b d=0) (h2:pCl p) (h3:pRdT p a b d) (h4:bZ a) (h5:bZ b) (h6:bZ d) (h7:r64 ((p.length:Int)-1)) (h8:bZ ((p.length:Int)-1)) (hL1:zjN (zjO ((p.length:Int)-1) p a b d ([(p.length:Int)-1])) (Ex.exit 0,(znv ((p.length:Int)-1) p a b d ([(p.length:Int)-1])))) (h10:¬((p.length:Int)-1 > 1)) (h11:1≤List.length [(p.length:Int)-1]):FC Tryz.prog 35 [.agg [.sq p,.lit (.int .i64 a),.lit (.int .i64 b),.lit (.int .i64 d)]] (.tup [.pd [.sq p,aI a,aI b,aI d,.lst EK.whole p,.lst EK.whole [(p.length:Int)-1],aD a,.wd a,aD b,.wd b,aD d,.wd d] 0,aI 0]):=fZ zqr 60 [0,0] (.c (bne_eq_false_iff_eq.2 h1)<|.c h2<|.c h3<|.c h4<|.c h5<|.c h6<|.i h7<|.c h8<|.v [5,6,7] [1,0,2] hL1<|.f h10<|.c h11<|.e) [0,1,2,3,4,5,6,7,8,0,0,9,10,11]
abbrev zmB (s:St) (r:Ex × St):Prop:=Loops 4 Tryz.prog (pZ Tryz.prog 35 2) s r
abbrev zeD (a:List Int) (b c d:Int) (e:Nat) (f:List Int) (g i j l:Int):St:=⟨sp 103 [(5,.ref 1 0),(97,aI g)],[.flat [.sq a,aI b,aI c,aI d] true,.flat [.sq a,aI b,aI c,aI d,.lst EK.whole a,.own 3 0 e 2,aD i,.wd i,aD j,.wd j,aD l,.wd l] true,.dead,.lst EK.whole f true],[1,0,2]⟩
abbrev zjP (a:List Int) (b c d:Int) (e:Nat) (f:List Int) (g i j l:Int):St:=⟨sp 103 [(5,.ref 1 0),(97,aI g)],[.flat [.sq a,aI b,aI c,aI d] true,.flat [.sq a,aI b,aI c,aI d,.lst EK.whole a,.own 3 0 e 2,aD i,.wd i,aD j,.wd j,aD l,.wd l] true,.dead,.lst EK.whole f true],[1,0,2]⟩
abbrev za0 (i:Int) (j:Int):AV:=.agg [.lit (.bool (decide (i+j<0))),.wd (i+j)]
abbrev zdL (a:List Int) (b:Int) (c:Int) (d:Int) (e:Nat) (i:Int) (j:Int) (l:Int):Row:=.flat [.sq a,aI b,aI c,aI d,.lst EK.whole a,.own 3 0 e 2,aD i,.wd i,aD j,.wd j,aD l,.wd l] true
abbrev zbs (l:Int):AV:=.agg [.lit (.bool (decide (l+l<0))),.wd (l+l)]
abbrev zcl (i:Int) (j:Int):Row:=.flat [.lit (.bool (decide (i+j<0))),.wd (i+j)] true
abbrev zcm (l:Int):Row:=.flat [.lit (.bool (decide (l+l<0))),.wd (l+l)] true
abbrev zlk (a:List Int) (b c d:Int) (e:Nat) (f:List Int) (g i j l:Int):St:=⟨sp 80 [(0,.ref 1 0),(2,.ref 4 0),(3,.ref 5 0),(4,.ref 1 0),(5,.ref 1 0),(6,.ref 1 6),(7,.agg [aD i,.wd i]),(8,.ref 1 0),(9,.ref 1 0),(10,.ref 1 8),(11,.agg [aD j,.wd j]),(12,(za0 i j)),(13,.ref 1 0),(14,.ref 1 0),(15,.ref 1 10),(16,.agg [aD l,.wd l]),(17,.ref 1 0),(18,.ref 1 0),(19,.ref 1 10),(20,.agg [aD l,.wd l]),(21,(zbs l))],[.flat [.sq a,aI b,aI c,aI d] true,(zdL a b c d e i j l),.dead,.lst EK.whole f true,(zcl i j),(zcm l)],[0,1,2]⟩
abbrev zll (a:List Int) (b c d:Int) (e:Nat) (f:List Int) (g i j l:Int):St:=⟨sp 80 [(0,.ref 1 0),(2,.ref 4 0),(3,.ref 5 0),(4,.ref 1 0),(5,.ref 1 0),(6,.ref 1 6),(7,.agg [aD i,.wd i]),(8,.ref 1 0),(9,.ref 1 0),(10,.ref 1 8),(11,.agg [aD j,.wd j]),(12,(za0 i j)),(13,.ref 1 0),(14,.ref 1 0),(15,.ref 1 10),(16,.agg [aD l,.wd l]),(17,.ref 1 0),(18,.ref 1 0),(19,.ref 1 10),(20,.agg [aD l,.wd l]),(21,(zbs l))],[.flat [.sq a,aI b,aI c,aI d] true,(zdL a b c d e i j l),.dead,.lst EK.whole f true,(zcl i j),(zcm l)],[0,1,2,4]⟩
abbrev zlm (a:List Int) (b c d:Int) (e:Nat) (f:List Int) (g i j l:Int):St:=⟨sp 80 [(0,.ref 1 0),(2,.ref 5 0),(3,.ref 4 0),(4,.ref 1 0),(5,.ref 1 0),(6,.ref 1 6),(7,.agg [aD i,.wd i]),(8,.ref 1 0),(9,.ref 1 0),(10,.ref 1 8),(11,.agg [aD j,.wd j]),(12,(za0 i j)),(13,.ref 1 0),(14,.ref 1 0),(15,.ref 1 10),(16,.agg [aD l,.wd l]),(17,.ref 1 0),(18,.ref 1 0),(19,.ref 1 10),(20,.agg [aD l,.wd l]),(21,(zbs l))],[.flat [.sq a,aI b,aI c,aI d] true,(zdL a b c d e i j l),.dead,.lst EK.whole f true,(zcm l),(zcl i j)],[0,1,2,4]⟩
abbrev zln (a:List Int) (b c d:Int) (e:Nat) (f:List Int) (g i j l:Int):St:=⟨sp 80 [(0,.ref 1 0),(2,.ref 4 0),(3,.ref 5 0),(4,.ref 1 0),(5,.ref 1 0),(6,.ref 1 6),(7,.agg [aD i,.wd i]),(8,.ref 1 0),(9,.ref 1 0),(10,.ref 1 8),(11,.agg [aD j,.wd j]),(12,(za0 i j)),(13,.ref 1 0),(14,.ref 1 0),(15,.ref 1 10),(16,.agg [aD l,.wd l]),(17,.ref 1 0),(18,.ref 1 0),(19,.ref 1 10),(20,.agg [aD l,.wd l]),(21,(zbs l)),(22,.ref 1 0),(23,.ref 1 0),(24,.ref 1 4),(25,.lst EK.whole a),(26,.ref 1 0),(27,.ref 1 0),(28,.ref 1 6),(29,.agg [aD i,.wd i]),(30,.ref 1 0),(31,.ref 1 0),(32,.ref 1 10),(33,.agg [aD l,.wd l]),(34,aI (zag a i l).sign),(35,.ref 1 0),(36,.ref 1 0),(37,.ref 1 4),(38,.lst EK.whole a),(39,(za0 i j)),(40,(zbs l)),(41,aI (zag a (i+j) (l+l)).sign),(42,aI ((zag a i l).sign*(zag a (i+j) (l+l)).sign)),(43,.lit (.bool (decide ((zag a i l).sign*(zag a (i+j) (l+l)).sign<0)))),(44,.ref 1 0),(45,.ref 1 0),(46,.ref 1 0),(47,.ref 1 0),(48,.ref 1 6),(49,.agg [aD i,.wd i]),(50,.ref 1 0),(51,.ref 1 0),(52,.ref 1 6),(53,.agg [aD i,.wd i]),(54,.agg [.lit (.bool (decide (i+i<0))),.wd (i+i)]),(55,(za0 i j)),(56,.ref 1 0),(57,.ref 1 6),(58,.ref 1 0),(59,.ref 1 8)],[.flat [.sq a,aI b,aI c,aI d] true,.flat [.sq a,aI b,aI c,aI d,.lst EK.whole a,.own 3 0 e 2,.lit (.bool (decide (i+i<0))),.wd (i+i),.lit (.bool (decide (i+j<0))),.wd (i+j),aD l,.wd l] true,.dead,.lst EK.whole f true,(zcl i j),(zcm l)],[1,1,0,1,2]⟩
theorem op_L6_0_0 (a:List Int) (b d f:Int) (g:Nat) (j:List Int) (l m n o:Int) (h1:l<64) (h2:pDD m n) (h3:pDD o o) (h4:zdc a m o) (h5:zdc a (m+n) (o+o)) (h6:r64 ((zag a m o).sign*(zag a (m+n) (o+o)).sign)) (h7:(zag a m o).sign*(zag a (m+n) (o+o)).sign<0) (h8:pDD m m) (h9:r64 (l+1)) {r:Ex × St} (k:zmB (zeD a b d f g j (l+1) (m+m) (m+n) (o+o)) r):zmB (zeD a b d f g j l m n o) r:=Loops.go (LS.at zqr 60 [] [5,97] [1,0,2] [1,1] (.t h1<|.c h2<|.c h3<|.s (zlk a b d f g j l m n o)<|.s (zll a b d f g j l m n o)<|.s (zlm a b d f g j l m n o)<|.c h4<|.c h5<|.i h6<|.t h7<|.c h8<|.s (zln a b d f g j l m n o)<|.i h9<|.e) [1,0,0,2,0,0,3,4,0,0,3,0,0,3,5,0,0,3,0,0,3,6,4,4,0,0,2,0,0,3,0,0,3,5,0,0,2,0,0,3,5,0,0,2,0,0,3,0,0,3,6,0,0,2,0,0,3,6,4,4,0,0,7,0,0,8,9,10,0,0,11,0,0,11,12,13]) k
abbrev za1 (i:Int) (j:Int):AV:=.agg [.lit (.bool (decide (i+j<0))),.wd (i+j)]
abbrev zdM (a:List Int) (b:Int) (c:Int) (d:Int) (e:Nat) (i:Int) (j:Int) (l:Int):Row:=.flat [.sq a,aI b,aI c,aI d,.lst EK.whole a,.own 3 0 e 2,aD i,.wd i,aD j,.wd j,aD l,.wd l] true
abbrev zbt (l:Int):AV:=.agg [.lit (.bool (decide (l+l<0))),.wd (l+l)]
abbrev zcn (i:Int) (j:Int):Row:=.flat [.lit (.bool (decide (i+j<0))),.wd (i+j)] true
abbrev zco (l:Int):Row:=.flat [.lit (.bool (decide (l+l<0))),.wd (l+l)] true
abbrev zlo (a:List Int) (b c d:Int) (e:Nat) (f:List Int) (g i j l:Int):St:=⟨sp 80 [(0,.ref 1 0),(2,.ref 4 0),(3,.ref 5 0),(4,.ref 1 0),(5,.ref 1 0),(6,.ref 1 6),(7,.agg [aD i,.wd i]),(8,.ref 1 0),(9,.ref 1 0),(10,.ref 1 8),(11,.agg [aD j,.wd j]),(12,(za1 i j)),(13,.ref 1 0),(14,.ref 1 0),(15,.ref 1 10),(16,.agg [aD l,.wd l]),(17,.ref 1 0),(18,.ref 1 0),(19,.ref 1 10),(20,.agg [aD l,.wd l]),(21,(zbt l))],[.flat [.sq a,aI b,aI c,aI d] true,(zdM a b c d e i j l),.dead,.lst EK.whole f true,(zcn i j),(zco l)],[0,1,2]⟩
abbrev zlp (a:List Int) (b c d:Int) (e:Nat) (f:List Int) (g i j l:Int):St:=⟨sp 80 [(0,.ref 1 0),(2,.ref 4 0),(3,.ref 5 0),(4,.ref 1 0),(5,.ref 1 0),(6,.ref 1 6),(7,.agg [aD i,.wd i]),(8,.ref 1 0),(9,.ref 1 0),(10,.ref 1 8),(11,.agg [aD j,.wd j]),(12,(za1 i j)),(13,.ref 1 0),(14,.ref 1 0),(15,.ref 1 10),(16,.agg [aD l,.wd l]),(17,.ref 1 0),(18,.ref 1 0),(19,.ref 1 10),(20,.agg [aD l,.wd l]),(21,(zbt l))],[.flat [.sq a,aI b,aI c,aI d] true,(zdM a b c d e i j l),.dead,.lst EK.whole f true,(zcn i j),(zco l)],[0,1,2,4]⟩
abbrev zlq (a:List Int) (b c d:Int) (e:Nat) (f:List Int) (g i j l:Int):St:=⟨sp 80 [(0,.ref 1 0),(2,.ref 5 0),(3,.ref 4 0),(4,.ref 1 0),(5,.ref 1 0),(6,.ref 1 6),(7,.agg [aD i,.wd i]),(8,.ref 1 0),(9,.ref 1 0),(10,.ref 1 8),(11,.agg [aD j,.wd j]),(12,(za1 i j)),(13,.ref 1 0),(14,.ref 1 0),(15,.ref 1 10),(16,.agg [aD l,.wd l]),(17,.ref 1 0),(18,.ref 1 0),(19,.ref 1 10),(20,.agg [aD l,.wd l]),(21,(zbt l))],[.flat [.sq a,aI b,aI c,aI d] true,(zdM a b c d e i j l),.dead,.lst EK.whole f true,(zco l),(zcn i j)],[0,1,2,4]⟩
abbrev zlr (a:List Int) (b c d:Int) (e:Nat) (f:List Int) (g i j l:Int):St:=⟨sp 80 [(0,.ref 1 0),(2,.ref 4 0),(3,.ref 5 0),(4,.ref 1 0),(5,.ref 1 0),(6,.ref 1 6),(7,.agg [aD i,.wd i]),(8,.ref 1 0),(9,.ref 1 0),(10,.ref 1 8),(11,.agg [aD j,.wd j]),(12,(za1 i j)),(13,.ref 1 0),(14,.ref 1 0),(15,.ref 1 10),(16,.agg [aD l,.wd l]),(17,.ref 1 0),(18,.ref 1 0),(19,.ref 1 10),(20,.agg [aD l,.wd l]),(21,(zbt l)),(22,.ref 1 0),(23,.ref 1 0),(24,.ref 1 4),(25,.lst EK.whole a),(26,.ref 1 0),(27,.ref 1 0),(28,.ref 1 6),(29,.agg [aD i,.wd i]),(30,.ref 1 0),(31,.ref 1 0),(32,.ref 1 10),(33,.agg [aD l,.wd l]),(34,aI (zag a i l).sign),(35,.ref 1 0),(36,.ref 1 0),(37,.ref 1 4),(38,.lst EK.whole a),(39,(za1 i j)),(40,(zbt l)),(41,aI (zag a (i+j) (l+l)).sign),(42,aI ((zag a i l).sign*(zag a (i+j) (l+l)).sign)),(43,.lit (.bool (decide ((zag a i l).sign*(zag a (i+j) (l+l)).sign<0)))),(60,.ref 1 0),(61,.ref 1 0),(62,(za1 i j)),(63,.ref 1 0),(64,.ref 1 0),(65,.ref 1 8),(66,.agg [aD j,.wd j]),(67,.ref 1 0),(68,.ref 1 0),(69,.ref 1 8),(70,.agg [aD j,.wd j]),(71,.agg [.lit (.bool (decide (j+j<0))),.wd (j+j)]),(72,.ref 1 0),(73,.ref 1 6),(74,.ref 1 0),(75,.ref 1 8)],[.flat [.sq a,aI b,aI c,aI d] true,.flat [.sq a,aI b,aI c,aI d,.lst EK.whole a,.own 3 0 e 2,.lit (.bool (decide (i+j<0))),.wd (i+j),.lit (.bool (decide (j+j<0))),.wd (j+j),aD l,.wd l] true,.dead,.lst EK.whole f true,(zcn i j),(zco l)],[1,1,0,1,2]⟩
theorem op_L6_0_1 (a:List Int) (b d g:Int) (j:Nat) (l:List Int) (m n o p:Int) (h1:m<64) (h2:pDD n o) (h3:pDD p p) (h4:zdc a n p) (h5:zdc a (n+o) (p+p)) (h6:r64 ((zag a n p).sign*(zag a (n+o) (p+p)).sign)) (h7:¬((zag a n p).sign*(zag a (n+o) (p+p)).sign<0)) (h8:pDD o o) (h9:r64 (m+1)) {r:Ex × St} (k:zmB (zeD a b d g j l (m+1) (n+o) (o+o) (p+p)) r):zmB (zeD a b d g j l m n o p) r:=Loops.go (LS.at zqr 60 [] [5,97] [1,0,2] [1,0] (.t h1<|.c h2<|.c h3<|.s (zlo a b d g j l m n o p)<|.s (zlp a b d g j l m n o p)<|.s (zlq a b d g j l m n o p)<|.c h4<|.c h5<|.i h6<|.f h7<|.c h8<|.s (zlr a b d g j l m n o p)<|.i h9<|.e) [1,0,0,2,0,0,3,4,0,0,3,0,0,3,5,0,0,3,0,0,3,6,4,4,0,0,2,0,0,3,0,0,3,5,0,0,2,0,0,3,5,0,0,2,0,0,3,0,0,3,6,0,0,2,0,0,3,6,4,4,0,0,7,0,0,8,9,10,0,0,11,0,0,11,12,13]) k
theorem op_L6_0_2 (a:List Int) (b c d:Int) (g:Nat) (i:List Int) (j l m n:Int) (h1:¬(j<64)):zmB (zeD a b c d g i j l m n) (Ex.exit 4,(zjP a b c d g i j l m n)):=Loops.fin (LS.at zqr 60 [] [5,97] [1,0,2] [0] (.f h1<|.e) [1]) (fun h=>nomatch h)
theorem op_3 (p:List Int) (a b d f:Int) (g:Nat) (j:List Int) (l m n o:Int) (h1:zcb p a b d=0) (h2:pCl p) (h3:pRdT p a b d) (h4:bZ a) (h5:bZ b) (h6:bZ d) (h7:r64 ((p.length:Int)-1)) (h8:bZ ((p.length:Int)-1)) (hL1:zjN (zjO ((p.length:Int)-1) p a b d ([(p.length:Int)-1])) (Ex.exit 0,(zeZ ((p.length:Int)-1) p a b d ([(p.length:Int)-1]) f g j))) (h10:(p.length:Int)-1 > 1) (hL2:zmB (zeD p a b d g j (0) a b d) (Ex.exit 4,(zjP p a b d g j l m n o))) (h12:g≤j.length):FC Tryz.prog 35 [.agg [.sq p,.lit (.int .i64 a),.lit (.int .i64 b),.lit (.int .i64 d)]] (.tup [.pd [.sq p,aI a,aI b,aI d,.lst EK.whole p,.lst EK.whole (j.take g),aD m,.wd m,aD n,.wd n,aD o,.wd o] 0,aI 0]):=fZ zqr 60 [0,1] (.c (bne_eq_false_iff_eq.2 h1)<|.c h2<|.c h3<|.c h4<|.c h5<|.c h6<|.i h7<|.c h8<|.v [5,6,7] [1,0,2] hL1<|.t h10<|.v [5,97] [1,0,2] hL2<|.c h12<|.e) [0,1,2,3,4,5,6,7,8,0,0,9,10,0,11,12]
end
open Go.Kf
def hvG (p:List Int):Nat→Int→Int→Int→Int × Int × Int
  | 0,lo,hi,d=>(lo,hi,d)
  | k+1,lo,hi,d=>if(zag p lo d).sign*(zag p (lo+hi) (d+d)).sign<0 then hvG p k (lo+lo) (lo+hi) (d+d) else hvG p k (lo+hi) (hi+hi) (d+d)
def trI (p tr:List Int) (n k:Nat):Nat→Int
  | 0=>p.getD (n-k) 0*(k:Int)
  | j+1=>trI p tr n k j+p.getD (n-(j+1)) 0*tr.getD (k-(j+1)) 0
def trL (p:List Int) (n:Nat):Nat→List Int
  | 0=>[(n:Int)]
  | j+1=>trL p n j++[-(trI p (trL p n j) n (j+1) j)]
def trZ (p:List Int):List Int:=trL p (p.length-1) (p.length-2)
theorem zki (p:List Int) (n:Nat):∀j,(trL p n j).length=j+1
  | 0=>rfl
  | j+1=>by unfold trL;rw [List.length_append,zki p n j];rfl
theorem trI_sz {p tr:List Int} {n k A:Nat} (hp:∀j,Sz 1 (p.getD j 0)) (ht:∀j,Sz A (tr.getD j 0)) (hk:k≤100):∀j,Sz (A+3+j) (trI p tr n k j)
  | 0=>by
    unfold trI
    exact((hp _).mul (Sz.lit (z:=(k:Int)) (k:=1) (by omega) (by decide))).mono (by omega)
  | j+1=>by
    unfold trI
    exact Sz.add (trI_sz hp ht hk j) ((hp _).mul (ht _)) (by omega) (by omega)
theorem trL_sz {p:List Int} {n:Nat} (hp:∀j,Sz 1 (p.getD j 0)) (hn:n≤100):∀j,j≤90→∀i,Sz (1+100*j) ((trL p n j).getD i 0)
  | 0,_,i=>by
    unfold trL
    cases i with
    | zero=>exact Sz.lit (z:=(n:Int)) (by omega) (by decide)
    | succ i=>exact Sz.zero
  | j + 1,hj,i=>by
    have ih:=trL_sz hp hn j (by omega)
    have hl:=zki p n j
    unfold trL
    rw [List.getD_eq_getElem?_getD]
    by_cases h:i<j+1
    · rw [List.getElem?_append_left (by omega),← List.getD_eq_getElem?_getD];exact(ih i).mono (by omega)
    · rw [List.getElem?_append_right (by omega),hl]
      by_cases h2:i=j+1
      · subst h2
        simp only [Nat.sub_self,List.getElem?_cons_zero,Option.getD_some]
        exact(trI_sz hp ih (by omega) j).neg.mono (by omega)
      · rw [List.getElem?_eq_none (by simp;omega)];exact Sz.zero
def hvC (p:List Int):Nat:=if p.length=2 then 0 else 64
def oA (p:List Int) (a b d lo hi den:Int):AV:=.pd [.sq p,.lit (.int .i64 a),.lit (.int .i64 b),.lit (.int .i64 d),.lst .whole p,.lst .whole (trZ p),.lit (.bool (decide (lo<0))),.wd lo,.lit (.bool (decide (hi<0))),.wd hi,.lit (.bool (decide (den<0))),.wd den] 0
def openA (p:List Int) (a b d:Int):AV:=oA p a b d (hvG p (hvC p) a b d).1 (hvG p (hvC p) a b d).2.1 (hvG p (hvC p) a b d).2.2
theorem sgn_r64 (x y:Int):r64 (x.sign*y.sign):=by
  rcases sgn3 x with e | e | e<;>rcases sgn3 y with f | f | f<;>rw [e,f]<;>decide
theorem zoI {x y:Int} {m:Nat} (h1:Sz m x) (h2:Sz m y) (hm:m≤1048576):pDD x y:=⟨vZ h1 hm,vZ h2 hm⟩
theorem chk_ok {p:List Int} {a b d:Int} (h:zcb p a b d=0):ChkR p a b d:=by
  rcases zhb p a b d with k | k | ⟨l2,l5,bg⟩ | ⟨l2,l5,bg,k⟩
  · exact k
  · rw [zmb k] at h;cases h
  · rw [zma ⟨l2,l5⟩ bg] at h;cases h
  · rw [zmc ⟨l2,l5⟩ k] at h;cases h
theorem op_hv {p:List Int} {tr:List Int} {a b d:Int} {m0:Nat} (hl:p.length≤5) (hp:SzL 20000 p):∀(k:Nat) (lo hi den i:Int) (m:Nat),i+k=64→0≤i→Sz m lo→Sz m hi→Sz m den→m+k≤1000 →
    zmB (zeD p a b d m0 tr i lo hi den) (Ex.exit 4,zjP p a b d m0 tr 64 (hvG p k lo hi den).1 (hvG p k lo hi den).2.1 (hvG p k lo hi den).2.2)
  | 0,lo,hi,den,i,m,hi0,hi1,h1,h2,h3,hm=>by
    obtain rfl:i=64:=by omega
    exact op_L6_0_2 p a b d m0 tr 64 lo hi den (by omega)
  | k + 1,lo,hi,den,i,m,hi0,hi1,h1,h2,h3,hm=>by
    have a1:Sz (m+1) (lo+hi):=h1.add h2 (by omega) (by omega)
    have a2:Sz (m+1) (den+den):=h3.add h3 (by omega) (by omega)
    have a3:Sz (m+1) (lo+lo):=h1.add h1 (by omega) (by omega)
    have a4:Sz (m+1) (hi+hi):=h2.add h2 (by omega) (by omega)
    have hp1:zdc p lo den:=⟨Nat.ble_eq_true_of_le hl,hp,h1.mono (by omega),h3.mono (by omega)⟩
    have hp2:zdc p (lo+hi) (den+den):=⟨Nat.ble_eq_true_of_le hl,hp,a1.mono (by omega),a2.mono (by omega)⟩
    unfold hvG
    by_cases hb:(zag p lo den).sign*(zag p (lo+hi) (den+den)).sign<0
    · rw [if_pos hb]
      have ih:=op_hv (tr:=tr) (a:=a) (b:=b) (d:=d) (m0:=m0) hl hp k (lo+lo) (lo+hi) (den+den) (i+1) (m+1) (by omega) (by omega) a3 a1 a2 (by omega)
      exact op_L6_0_0 p a b d m0 tr i lo hi den (by omega) (zoI h1 h2 (by omega)) (zoI h3 h3 (by omega)) hp1 hp2 (sgn_r64 _ _) hb (zoI h1 h1 (by omega)) (by omega) ih
    · rw [if_neg hb]
      have ih:=op_hv (tr:=tr) (a:=a) (b:=b) (d:=d) (m0:=m0) hl hp k (lo+hi) (hi+hi) (den+den) (i+1) (m+1) (by omega) (by omega) a1 a4 a2 (by omega)
      exact op_L6_0_1 p a b d m0 tr i lo hi den (by omega) (zoI h1 h2 (by omega)) (zoI h3 h3 (by omega)) hp1 hp2 (sgn_r64 _ _) hb (zoI h2 h2 (by omega)) (by omega) ih
theorem op_in {p tr:List Int} {a b d:Int} {n k A:Nat} (hp:∀j,Sz 1 (p.getD j 0)) (ht:∀j,Sz A (tr.getD j 0)) (hA:A≤20000) (hk:k<n) (hn:n<p.length) (h5:p.length≤5) (hl:tr.length=k):∀(m j:Nat),j+1+m=k →
    op_L3 (zhy n k p a b d k tr ((j:Int)+1) (trI p tr n k j)) (Ex.exit 2,zgI n k p a b d k tr k (trI p tr n k (k-1)))
  | 0,j,hj=>by
    obtain rfl:k=j+1:=by omega
    exact op_L3_0_1 n (j+1:Nat) p a b d (j+1) tr ((j:Int)+1) _ (by omega)
  | m + 1,j,hj=>by
    have ih:=op_in (a:=a) (b:=b) (d:=d) hp ht hA hk hn h5 hl m (j+1) (by omega)
    have e1:Int.toNat ((n:Int)-((j:Int)+1))=n-(j+1):=by omega
    have e2:Int.toNat ((k:Int)-((j:Int)+1))=k-(j+1):=by omega
    have fz:∀ {z:Int} {j:Nat},Sz j z→j≤1048576→zaK z:=fun h h2=>vZ h h2
    have s1:=trI_sz (n:=n) (k:=k) hp ht (by omega) j
    have go:=@op_L3_0_0 n k p a b d k tr ((j:Int)+1) (trI p tr n k j) (by omega) (by omega) (by omega) (by omega) (by omega) (by omega) (by omega) (by rw [e2];omega) rfl rfl
      (by rw [e1,e2];exact ⟨fz (hp _) (by decide),fz (ht _) (by omega)⟩) (by rw [e1,e2];exact ⟨fz s1 (by omega),fz ((hp _).mul (ht _)) (by omega)⟩) (by omega) (Ex.exit 2,zgI n k p a b d k tr k (trI p tr n k (k-1)))
    rw [e1,e2] at go
    exact go ih
theorem op_out {p l2:List Int} {a b d:Int} {n:Nat} (hp:∀j,Sz 1 (p.getD j 0)) (hn:n<p.length) (h5:p.length≤5):∀(m j:Nat),j+2+m=n →
    zjN (zhz n p a b d l2 ((j:Int)+2) (j+2) (trL p n (j+1))) (Ex.exit 0,zeZ n p a b d l2 n n (trL p n (n-1)))
  | 0,j,hj=>by
    obtain rfl:n=j+2:=by omega
    have:=op_L4_1_1 (j+2:Nat) p a b d l2 ((j:Int)+2) (j+2) (trL p (j+2) (j+1)) (by omega)
    exact this
  | m + 1,j,hj=>by
    have ih:=op_out (l2:=l2) (a:=a) (b:=b) (d:=d) hp hn h5 m (j+1) (by omega)
    have e1:Int.toNat ((n:Int)-((j:Int)+2))=n-(j+2):=by omega
    have hl:=zki p n (j+1)
    have hz:=trL_sz (p:=p) (n:=n) hp (by omega) (j+1) (by omega)
    have K:=op_in (a:=a) (b:=b) (d:=d) (n:=n) (k:=j+2) hp hz (by omega) (by omega) hn h5 (by omega) (j+1) 0 (by omega)
    have fz:∀ {z:Int} {j:Nat},Sz j z→j≤1048576→zaK z:=fun h h2=>vZ h h2
    have go:=@op_L4_1_0 n p a b d l2 ((j:Int)+2) (j+2) (trL p n (j+1)) ((j+2:Nat):Int) (trI p (trL p n (j+1)) n (j+2) (j+1)) (by omega) (by omega) (by omega) (by omega) (by unfold bZ;omega) rfl
      (by rw [e1];exact ⟨fz (hp _) (by decide),fz (j:=1) (Sz.lit (z:=(j:Int)+2) (by omega) (by decide)) (by decide)⟩)
      (by rw [e1];exact K) (by simp) (by simp;omega) (by simp;omega) (by omega) (by omega) (Ex.exit 0,zeZ n p a b d l2 n n (trL p n (n-1)))
    rw [show List.take (j+2) (trL p n (j+1))=trL p n (j+1) from List.take_of_length_le (by omega)] at go
    refine go ?_
    rw [show((j+1:Nat):Int)+2=(j:Int)+2+1 by omega] at ih
    exact ih
theorem szL1 {p:List Int} (h:∀c∈p,c.natAbs≤1000):SzL 20000 p:=szL_of (zgT fun c hc=>by have:=h c hc;exact Sz.lit (by omega) (by decide))
theorem open_fc (p:List Int) (a b d:Int) (h0:zcb p a b d=0):FC Tryz.prog 35 [.agg [.sq p,.lit (.int .i64 a),.lit (.int .i64 b),.lit (.int .i64 d)]] (.tup [openA p a b d,.lit (.int .i64 0)]):=by
  have hr:=chk_ok h0
  have hrd:=hr.rd
  obtain ⟨r1,r2,r3,r4,r5,r6⟩:-1000000≤a∧a≤1000000∧-1000000≤b∧b≤1000000∧1≤d∧d≤1000000:=⟨hr.a1,hr.a2,hr.b1,hr.b2,hr.d1,hr.d2⟩
  have l2:=hr.l2
  have l5:=hr.l5
  have hp:∀j,Sz 1 (p.getD j 0):=zgT fun c hc=>by have:=hrd.2.2 c hc;exact Sz.lit (by omega) (by decide)
  have hne:p≠[]:=fun e=>by rw [e] at l2;simp at l2
  obtain ⟨n,hn⟩:∃n,p.length=n+1:=⟨p.length-1,by omega⟩
  have eN:(p.length:Int)-1=(n:Int):=by omega
  have fl:∀x:Int,x.natAbs≤1000000→bZ x:=fun x hx=>by unfold bZ;omega
  unfold openA
  by_cases h1:n=1
  · have hc:hvC p=0:=if_pos (by omega)
    have ht:trZ p=[(n:Int)]:=by unfold trZ;rw [show p.length-2=0 by omega,show p.length-1=n by omega];rfl
    rw [hc]
    unfold oA
    rw [ht]
    have:=op_2 p a b d h0 ⟨hne,by omega⟩ hrd (fl a (by omega)) (fl b (by omega)) (fl d (by omega)) (by omega) (fl _ (by omega)) (op_L4_0_1 _ p a b d _ (by omega)) (by omega) (by simp)
    rw [eN] at this
    exact this
  · have hc:hvC p=64:=if_neg (by omega)
    have ht:trZ p=trL p n (n-1):=by unfold trZ;rw [show p.length-2=n-1 by omega,show p.length-1=n by omega]
    rw [hc]
    unfold oA
    rw [ht]
    have e1:Int.toNat ((n:Int)-1)=n-1:=by omega
    have fz:∀ {z:Int} {j:Nat},Sz j z→j≤1048576→zaK z:=fun h h2=>vZ h h2
    have L:=op_out (n:=n) (l2:=[(n:Int)]) (a:=a) (b:=b) (d:=d) hp (by omega) l5 (n-2) 0 (by omega)
    have t1:trL p n 1=List.take 1 [(n:Int)]++List.take 1 [-(p.getD (n-1) 0*1)]:=rfl
    rw [show((0:Nat):Int)+2=2 from rfl,show 0+2=2 from rfl,show 0+1=1 from rfl,t1] at L
    have go:=@op_L4_0_0 n p a b d [(n:Int)] (by omega) (by omega) (by omega) (by omega) (by unfold bZ;omega) rfl (by rw [e1];exact ⟨fz (hp _) (by decide),fz (j:=1) (Sz.lit (z:=1) (by decide) (by decide)) (by decide)⟩)
      (op_L1_0_0 n p a b d [(n:Int)] _) (by simp) (by simp) (by simp) (by simp) (Ex.exit 0,zeZ n p a b d [(n:Int)] n n (trL p n (n-1)))
    rw [e1] at go
    have K:=go L
    have H:=op_hv (p:=p) (tr:=trL p n (n-1)) (a:=a) (b:=b) (d:=d) (m0:=n) l5 (szL1 hrd.2.2) 64 a b d 0 3 (by omega) (by omega) (Sz.lit (by omega) (by decide)) (Sz.lit (by omega) (by decide)) (Sz.lit (by omega) (by decide)) (by omega)
    have hl:=zki p n (n-1)
    have:=op_3 p a b d n n (trL p n (n-1)) 64 _ _ _ h0 ⟨hne,by omega⟩ hrd (fl a (by omega)) (fl b (by omega)) (fl d (by omega)) (by omega) (fl _ (by omega)) (by rw [eN];exact K) (by omega) H (by omega)
    rw [show List.take n (trL p n (n-1))=trL p n (n-1) from List.take_of_length_le (by omega)] at this
    exact this
end Go.Proofs.YtloaeinogiplbaaGreatDoor
end
