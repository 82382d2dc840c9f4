/- Part of a proof about a given program: see the last module of the claim. -/
import Derived.Test.YtloaeinogiplbaaGreatDoorC
section
open Go Go.Ev Go.RowKit
namespace Go.Proofs.YtloaeinogiplbaaGreatDoor
open Go.Proofs
set_option maxRecDepth 100000
set_option maxHeartbeats 1000000
set_option linter.unusedVariables false
set_option linter.unusedSimpArgs false
noncomputable section
theorem plZ_0 (c d:Bool) (a b p q:Int):RndI (dZ Tryz.prog zim bw) 60 (pZ Tryz.prog 108 0) 4 [5] [2,4,5,6,7,8,31,32,33] [3] (PZ c d a b p q) [1,1] [] [1,0,1,2,3,4,0,4,5,6,0,7,0,0,0,0,8,0] (Ex.normal) (⟨sp 97 [(2,.ref 0 0),(4,.ref 2 0),(5,.wd p),(6,.wd q),(7,.own 4 0 1 1),(8,aI (Int.tdiv ((digs p.natAbs).getD 0 0+0+(digs q.natAbs).getD 0 0) 100000000)),(31,.wd p),(32,aI (↑((digs p.natAbs).length):Int)),(33,aI 1)],[.flat [.lit (.bool c),.wd a] true,.flat [.lit (.bool d),.wd b] true,.flat [aF,aN] true,.dead,.ints [Int.tmod ((digs p.natAbs).getD 0 0+0+(digs q.natAbs).getD 0 0) 100000000] true],[3]⟩) [decide (0<(↑((digs p.natAbs).length):Int))=true,decide (0<(digs p.natAbs).length)=true,inR .i64 ((digs p.natAbs).getD 0 0+0)=true,decide (0<(↑((digs q.natAbs).length):Int))=true,decide (0<(digs q.natAbs).length)=true,inR .i64 ((digs p.natAbs).getD 0 0+0+(digs q.natAbs).getD 0 0)=true,inR .i64 (Int.tdiv ((digs p.natAbs).getD 0 0+0+(digs q.natAbs).getD 0 0) 100000000)=true,decide ((List.take 1 [Int.tmod ((digs p.natAbs).getD 0 0+0+(digs q.natAbs).getD 0 0) 100000000]).length=1)=true]:={}
theorem plZ_1 (c d:Bool) (a b p q:Int):RndI (dZ Tryz.prog zim bw) 60 (pZ Tryz.prog 108 0) 4 [5] [2,4,5,6,7,8,31,32,33] [3] (PZ c d a b p q) [1,0] [] [1,0,1,2,3,4,0,5,0,0,0,0,6,0] (Ex.normal) (⟨sp 97 [(2,.ref 0 0),(4,.ref 2 0),(5,.wd p),(6,.wd q),(7,.own 4 0 1 1),(8,aI (Int.tdiv ((digs p.natAbs).getD 0 0+0) 100000000)),(31,.wd p),(32,aI (↑((digs p.natAbs).length):Int)),(33,aI 1)],[.flat [.lit (.bool c),.wd a] true,.flat [.lit (.bool d),.wd b] true,.flat [aF,aN] true,.dead,.ints [Int.tmod ((digs p.natAbs).getD 0 0+0) 100000000] true],[3]⟩) [decide (0<(↑((digs p.natAbs).length):Int))=true,decide (0<(digs p.natAbs).length)=true,inR .i64 ((digs p.natAbs).getD 0 0+0)=true,decide (0<(↑((digs q.natAbs).length):Int))=false,inR .i64 (Int.tdiv ((digs p.natAbs).getD 0 0+0) 100000000)=true,decide ((List.take 1 [Int.tmod ((digs p.natAbs).getD 0 0+0) 100000000]).length=1)=true]:={}
theorem plX_2 (c d:Bool) (a b p q:Int):RndI (dZ Tryz.prog zim bw) 60 (pZ Tryz.prog 108 0) 4 [] [2,4,5,6,7,8,31,32,33] [3] (PZ c d a b p q) [0] [] [1] (Ex.exit 0) (⟨sp 97 [(2,.ref 0 0),(4,.ref 2 0),(5,.wd p),(6,.wd q),(7,.own 3 0 0 1),(8,aI 0),(31,.wd p),(32,aI (↑((digs p.natAbs).length):Int)),(33,aI 0)],[.flat [.lit (.bool c),.wd a] true,.flat [.lit (.bool d),.wd b] true,.flat [aF,aN] true,.ints [] true],[3]⟩) [decide (0<(↑((digs p.natAbs).length):Int))=false]:={}
theorem plR_0 (d e:Bool) (a b p q i c:Int) (n:Nat) (f:List Int):RndI (dZ Tryz.prog zim bw) 60 (pZ Tryz.prog 108 0) 4 [6] [2,4,5,6,7,8,31,32,33] [3] (PR d e a b p q i c n f) [1,1] [] [1,2,1,3,4,5,2,5,6,7,0,8,0,9,10,11,12,13] (Ex.normal) (⟨sp 97 [(2,.ref 0 0),(4,.ref 2 0),(5,.wd p),(6,.wd q),(7,.own 4 0 (n+1) 1),(8,aI (Int.tdiv ((digs p.natAbs).getD i.toNat 0+c+(digs q.natAbs).getD i.toNat 0) 100000000)),(31,.wd p),(32,aI (↑((digs p.natAbs).length):Int)),(33,aI (i+1))],[.flat [.lit (.bool d),.wd a] true,.flat [.lit (.bool e),.wd b] true,.flat [aF,aN] true,.dead,.ints (f.take n++List.take 1 [Int.tmod ((digs p.natAbs).getD i.toNat 0+c+(digs q.natAbs).getD i.toNat 0) 100000000]) true],[3]⟩) [decide (i<(↑((digs p.natAbs).length):Int))=true,decide (0≤i)=true,decide (i.toNat<(digs p.natAbs).length)=true,inR .i64 ((digs p.natAbs).getD i.toNat 0+c)=true,decide (i<(↑((digs q.natAbs).length):Int))=true,decide (i.toNat<(digs q.natAbs).length)=true,inR .i64 ((digs p.natAbs).getD i.toNat 0+c+(digs q.natAbs).getD i.toNat 0)=true,inR .i64 (Int.tdiv ((digs p.natAbs).getD i.toNat 0+c+(digs q.natAbs).getD i.toNat 0) 100000000)=true,decide ((n+1)*8≤140737488355328)=true,decide (n+1≤4611686018427387904)=true,decide (n≤f.length)=true,decide ((List.take 1 [Int.tmod ((digs p.natAbs).getD i.toNat 0+c+(digs q.natAbs).getD i.toNat 0) 100000000]).length=1)=true,inR .i64 (i+1)=true]:={}
theorem plR_1 (d e:Bool) (a b p q i c:Int) (n:Nat) (f:List Int):RndI (dZ Tryz.prog zim bw) 60 (pZ Tryz.prog 108 0) 4 [6] [2,4,5,6,7,8,31,32,33] [3] (PR d e a b p q i c n f) [1,0] [] [1,2,1,3,4,5,0,6,0,7,8,9,10,11] (Ex.normal) (⟨sp 97 [(2,.ref 0 0),(4,.ref 2 0),(5,.wd p),(6,.wd q),(7,.own 4 0 (n+1) 1),(8,aI (Int.tdiv ((digs p.natAbs).getD i.toNat 0+c) 100000000)),(31,.wd p),(32,aI (↑((digs p.natAbs).length):Int)),(33,aI (i+1))],[.flat [.lit (.bool d),.wd a] true,.flat [.lit (.bool e),.wd b] true,.flat [aF,aN] true,.dead,.ints (f.take n++List.take 1 [Int.tmod ((digs p.natAbs).getD i.toNat 0+c) 100000000]) true],[3]⟩) [decide (i<(↑((digs p.natAbs).length):Int))=true,decide (0≤i)=true,decide (i.toNat<(digs p.natAbs).length)=true,inR .i64 ((digs p.natAbs).getD i.toNat 0+c)=true,decide (i<(↑((digs q.natAbs).length):Int))=false,inR .i64 (Int.tdiv ((digs p.natAbs).getD i.toNat 0+c) 100000000)=true,decide ((n+1)*8≤140737488355328)=true,decide (n+1≤4611686018427387904)=true,decide (n≤f.length)=true,decide ((List.take 1 [Int.tmod ((digs p.natAbs).getD i.toNat 0+c) 100000000]).length=1)=true,inR .i64 (i+1)=true]:={}
theorem plE_2 (d e:Bool) (a b p q i c:Int) (n:Nat) (f:List Int):RndI (dZ Tryz.prog zim bw) 60 (pZ Tryz.prog 108 0) 4 [4] [2,4,5,6,7,8,31,32,33] [3] (PR d e a b p q i c n f) [0] [] [1] (Ex.exit 0) (⟨sp 97 [(2,.ref 0 0),(4,.ref 2 0),(5,.wd p),(6,.wd q),(7,.own 4 0 n 1),(8,aI c),(31,.wd p),(32,aI (↑((digs p.natAbs).length):Int)),(33,aI i)],[.flat [.lit (.bool d),.wd a] true,.flat [.lit (.bool e),.wd b] true,.flat [aF,aN] true,.dead,.ints f true],[3]⟩) [decide (i<(↑((digs p.natAbs).length):Int))=false]:={}
theorem leL_0 (c d:Bool) (a b q e i:Int) (n:Nat) (l:List Int):RndI (dZ Tryz.prog zim bw) 60 (pZ Tryz.prog 152 0) 5 [] [0,1,5,7,8,9] [3,4] (PL c d a b q e i n l) [1,1,1] [] [1,2,1,3,4,2,1,3,5,2,1,2,5,6,7,8,2,1,7,2,1,9,10,2,1,9,11,2,1,9,12] (Ex.normal) (⟨sp 47 [(0,.own 4 0 n 1),(1,.wd q),(5,aI 1),(7,.own 4 0 n 1),(8,aI (n:Int)),(9,aI (i+1))],[.flat [.lit (.bool c),.wd a] true,.flat [.lit (.bool d),.wd b] true,.flat [aF,aN] true,.dead,.ints (((l.set (0+i.toNat*1) (l.getD (0+i.toNat*1) 0-e)).set (0+i.toNat*1) ((l.set (0+i.toNat*1) (l.getD (0+i.toNat*1) 0-e)).getD (0+i.toNat*1) 0-(digs q.natAbs).getD i.toNat 0)).set (0+i.toNat*1) (((l.set (0+i.toNat*1) (l.getD (0+i.toNat*1) 0-e)).set (0+i.toNat*1) ((l.set (0+i.toNat*1) (l.getD (0+i.toNat*1) 0-e)).getD (0+i.toNat*1) 0-(digs q.natAbs).getD i.toNat 0)).getD (0+i.toNat*1) 0+100000000)) true],[3,4]⟩) [decide (i<(n:Int))=true,decide (0≤i)=true,decide (0+i.toNat*1<l.length)=true,inR .i64 (l.getD (0+i.toNat*1) 0-e)=true,decide (i<(↑((digs q.natAbs).length):Int))=true,decide (i.toNat<(digs q.natAbs).length)=true,decide (0+i.toNat*1<(l.set (0+i.toNat*1) (l.getD (0+i.toNat*1) 0-e)).length)=true,inR .i64 ((l.set (0+i.toNat*1) (l.getD (0+i.toNat*1) 0-e)).getD (0+i.toNat*1) 0-(digs q.natAbs).getD i.toNat 0)=true,decide (0+i.toNat*1<((l.set (0+i.toNat*1) (l.getD (0+i.toNat*1) 0-e)).set (0+i.toNat*1) ((l.set (0+i.toNat*1) (l.getD (0+i.toNat*1) 0-e)).getD (0+i.toNat*1) 0-(digs q.natAbs).getD i.toNat 0)).length)=true,decide (((l.set (0+i.toNat*1) (l.getD (0+i.toNat*1) 0-e)).set (0+i.toNat*1) ((l.set (0+i.toNat*1) (l.getD (0+i.toNat*1) 0-e)).getD (0+i.toNat*1) 0-(digs q.natAbs).getD i.toNat 0)).getD (0+i.toNat*1) 0<0)=true,inR .i64 (((l.set (0+i.toNat*1) (l.getD (0+i.toNat*1) 0-e)).set (0+i.toNat*1) ((l.set (0+i.toNat*1) (l.getD (0+i.toNat*1) 0-e)).getD (0+i.toNat*1) 0-(digs q.natAbs).getD i.toNat 0)).getD (0+i.toNat*1) 0+100000000)=true,inR .i64 (i+1)=true]:={}
theorem leL_1 (c d:Bool) (a b q e i:Int) (n:Nat) (l:List Int):RndI (dZ Tryz.prog zim bw) 60 (pZ Tryz.prog 152 0) 5 [] [0,1,5,7,8,9] [3,4] (PL c d a b q e i n l) [1,1,0] [] [1,2,1,3,4,2,1,3,5,2,1,2,5,6,7,8,2,1,7,2,1,9,10,11] (Ex.normal) (⟨sp 47 [(0,.own 4 0 n 1),(1,.wd q),(5,aI 0),(7,.own 4 0 n 1),(8,aI (n:Int)),(9,aI (i+1))],[.flat [.lit (.bool c),.wd a] true,.flat [.lit (.bool d),.wd b] true,.flat [aF,aN] true,.dead,.ints ((l.set (0+i.toNat*1) (l.getD (0+i.toNat*1) 0-e)).set (0+i.toNat*1) ((l.set (0+i.toNat*1) (l.getD (0+i.toNat*1) 0-e)).getD (0+i.toNat*1) 0-(digs q.natAbs).getD i.toNat 0)) true],[3,4]⟩) [decide (i<(n:Int))=true,decide (0≤i)=true,decide (0+i.toNat*1<l.length)=true,inR .i64 (l.getD (0+i.toNat*1) 0-e)=true,decide (i<(↑((digs q.natAbs).length):Int))=true,decide (i.toNat<(digs q.natAbs).length)=true,decide (0+i.toNat*1<(l.set (0+i.toNat*1) (l.getD (0+i.toNat*1) 0-e)).length)=true,inR .i64 ((l.set (0+i.toNat*1) (l.getD (0+i.toNat*1) 0-e)).getD (0+i.toNat*1) 0-(digs q.natAbs).getD i.toNat 0)=true,decide (0+i.toNat*1<((l.set (0+i.toNat*1) (l.getD (0+i.toNat*1) 0-e)).set (0+i.toNat*1) ((l.set (0+i.toNat*1) (l.getD (0+i.toNat*1) 0-e)).getD (0+i.toNat*1) 0-(digs q.natAbs).getD i.toNat 0)).length)=true,decide (((l.set (0+i.toNat*1) (l.getD (0+i.toNat*1) 0-e)).set (0+i.toNat*1) ((l.set (0+i.toNat*1) (l.getD (0+i.toNat*1) 0-e)).getD (0+i.toNat*1) 0-(digs q.natAbs).getD i.toNat 0)).getD (0+i.toNat*1) 0<0)=false,inR .i64 (i+1)=true]:={}
theorem leL_2 (c d:Bool) (a b q e i:Int) (n:Nat) (l:List Int):RndI (dZ Tryz.prog zim bw) 60 (pZ Tryz.prog 152 0) 5 [] [0,1,5,7,8,9] [3,4] (PL c d a b q e i n l) [1,0,1] [] [1,2,1,3,4,2,1,3,5,2,1,6,7,2,1,6,8,2,1,6,9] (Ex.normal) (⟨sp 47 [(0,.own 4 0 n 1),(1,.wd q),(5,aI 1),(7,.own 4 0 n 1),(8,aI (n:Int)),(9,aI (i+1))],[.flat [.lit (.bool c),.wd a] true,.flat [.lit (.bool d),.wd b] true,.flat [aF,aN] true,.dead,.ints ((l.set (0+i.toNat*1) (l.getD (0+i.toNat*1) 0-e)).set (0+i.toNat*1) ((l.set (0+i.toNat*1) (l.getD (0+i.toNat*1) 0-e)).getD (0+i.toNat*1) 0+100000000)) true],[3,4]⟩) [decide (i<(n:Int))=true,decide (0≤i)=true,decide (0+i.toNat*1<l.length)=true,inR .i64 (l.getD (0+i.toNat*1) 0-e)=true,decide (i<(↑((digs q.natAbs).length):Int))=false,decide (0+i.toNat*1<(l.set (0+i.toNat*1) (l.getD (0+i.toNat*1) 0-e)).length)=true,decide ((l.set (0+i.toNat*1) (l.getD (0+i.toNat*1) 0-e)).getD (0+i.toNat*1) 0<0)=true,inR .i64 ((l.set (0+i.toNat*1) (l.getD (0+i.toNat*1) 0-e)).getD (0+i.toNat*1) 0+100000000)=true,inR .i64 (i+1)=true]:={}
theorem leL_3 (c d:Bool) (a b q e i:Int) (n:Nat) (l:List Int):RndI (dZ Tryz.prog zim bw) 60 (pZ Tryz.prog 152 0) 5 [] [0,1,5,7,8,9] [3,4] (PL c d a b q e i n l) [1,0,0] [] [1,2,1,3,4,2,1,3,5,2,1,6,7,8] (Ex.normal) (⟨sp 47 [(0,.own 4 0 n 1),(1,.wd q),(5,aI 0),(7,.own 4 0 n 1),(8,aI (n:Int)),(9,aI (i+1))],[.flat [.lit (.bool c),.wd a] true,.flat [.lit (.bool d),.wd b] true,.flat [aF,aN] true,.dead,.ints (l.set (0+i.toNat*1) (l.getD (0+i.toNat*1) 0-e)) true],[3,4]⟩) [decide (i<(n:Int))=true,decide (0≤i)=true,decide (0+i.toNat*1<l.length)=true,inR .i64 (l.getD (0+i.toNat*1) 0-e)=true,decide (i<(↑((digs q.natAbs).length):Int))=false,decide (0+i.toNat*1<(l.set (0+i.toNat*1) (l.getD (0+i.toNat*1) 0-e)).length)=true,decide ((l.set (0+i.toNat*1) (l.getD (0+i.toNat*1) 0-e)).getD (0+i.toNat*1) 0<0)=false,inR .i64 (i+1)=true]:={}
theorem leL_4 (c d:Bool) (a b q e i:Int) (n:Nat) (l:List Int):RndI (dZ Tryz.prog zim bw) 60 (pZ Tryz.prog 152 0) 5 [] [0,1,5,7,8,9] [3,4] (PL c d a b q e i n l) [0] [] [1] (Ex.exit 0) (⟨sp 47 [(0,.own 4 0 n 1),(1,.wd q),(5,aI e),(7,.own 4 0 n 1),(8,aI (n:Int)),(9,aI i)],[.flat [.lit (.bool c),.wd a] true,.flat [.lit (.bool d),.wd b] true,.flat [aF,aN] true,.dead,.ints l true],[3,4]⟩) [decide (i<(n:Int))=false]:={}
theorem plA_2 (d e:Bool) (a b i c:Int) (n:Nat) (f:List Int):FunI (dZ Tryz.prog zim bw) 60 108 [.agg [.lit (.bool d),.wd a],.agg [.lit (.bool e),.wd b]] [1,0,1] [some (zev Tryz.prog (pZ Tryz.prog 108 0) [] [2,4,5,6,7,8,31,32,33] [3] (PZ d e a b a b) (.exit 0,PR d e a b a b i c n f))] [1,2,3,0,4,5,6,0,7,8,9,10,11,0,12] (.agg [.lit (.bool d),.sq ((f.take n++List.take 1 [c]).take (n+1))]) [(d==e)=true,decide ((↑((digs a.natAbs).length):Int)<(↑((digs b.natAbs).length):Int))=false,inR .i64 ((↑((digs a.natAbs).length):Int)+1)=true,decide (0≤(↑((digs a.natAbs).length):Int)+1)=true,decide (8*((↑((digs a.natAbs).length):Int)+1)≤281474976710656)=true,decide ((↑((digs a.natAbs).length):Int)+1≤9223372036854775807)=true,Loops 4 Tryz.prog (pZ Tryz.prog 108 0) ⟨sp 97 [(2,.ref 0 0),(4,.ref 2 0),(5,.wd a),(6,.wd b),(7,.own 3 0 0 1),(8,aI 0),(31,.wd a),(32,aI (↑((digs a.natAbs).length):Int)),(33,aI 0)],[.flat [.lit (.bool d),.wd a] true,.flat [.lit (.bool e),.wd b] true,.flat [aF,aN] true,.ints [] true],[3]⟩ (Ex.exit 0,⟨sp 97 [(2,.ref 0 0),(4,.ref 2 0),(5,.wd a),(6,.wd b),(7,.own 4 0 n 1),(8,aI c),(31,.wd a),(32,aI (↑((digs a.natAbs).length):Int)),(33,aI i)],[.flat [.lit (.bool d),.wd a] true,.flat [.lit (.bool e),.wd b] true,.flat [aF,aN] true,.dead,.ints f true],[3]⟩),decide (c > 0)=true,decide ((n+1)*8≤140737488355328)=true,decide (n+1≤4611686018427387904)=true,decide (n≤f.length)=true,n+1≤(f.take n++List.take 1 [c]).length]:={}
theorem plA_3 (d e:Bool) (a b i c:Int) (n:Nat) (f:List Int):FunI (dZ Tryz.prog zim bw) 60 108 [.agg [.lit (.bool d),.wd a],.agg [.lit (.bool e),.wd b]] [1,0,0] [some (zev Tryz.prog (pZ Tryz.prog 108 0) [] [2,4,5,6,7,8,31,32,33] [3] (PZ d e a b a b) (.exit 0,PR d e a b a b i c n f))] [1,2,3,0,4,5,6,0,7,8,9] (.agg [.lit (.bool d),.sq (f.take n)]) [(d==e)=true,decide ((↑((digs a.natAbs).length):Int)<(↑((digs b.natAbs).length):Int))=false,inR .i64 ((↑((digs a.natAbs).length):Int)+1)=true,decide (0≤(↑((digs a.natAbs).length):Int)+1)=true,decide (8*((↑((digs a.natAbs).length):Int)+1)≤281474976710656)=true,decide ((↑((digs a.natAbs).length):Int)+1≤9223372036854775807)=true,Loops 4 Tryz.prog (pZ Tryz.prog 108 0) ⟨sp 97 [(2,.ref 0 0),(4,.ref 2 0),(5,.wd a),(6,.wd b),(7,.own 3 0 0 1),(8,aI 0),(31,.wd a),(32,aI (↑((digs a.natAbs).length):Int)),(33,aI 0)],[.flat [.lit (.bool d),.wd a] true,.flat [.lit (.bool e),.wd b] true,.flat [aF,aN] true,.ints [] true],[3]⟩ (Ex.exit 0,⟨sp 97 [(2,.ref 0 0),(4,.ref 2 0),(5,.wd a),(6,.wd b),(7,.own 4 0 n 1),(8,aI c),(31,.wd a),(32,aI (↑((digs a.natAbs).length):Int)),(33,aI i)],[.flat [.lit (.bool d),.wd a] true,.flat [.lit (.bool e),.wd b] true,.flat [aF,aN] true,.dead,.ints f true],[3]⟩),decide (c > 0)=false,n≤f.length]:={}
theorem plB_0 (d e:Bool) (a b i c:Int) (n:Nat) (f:List Int):FunI (dZ Tryz.prog zim bw) 60 108 [.agg [.lit (.bool d),.wd a],.agg [.lit (.bool e),.wd b]] [1,1,1] [some (zev Tryz.prog (pZ Tryz.prog 108 0) [] [2,4,5,6,7,8,31,32,33] [3] (PZ d e a b b a) (.exit 0,PR d e a b b a i c n f))] [1,2,3,0,4,5,6,0,7,8,9,10,11,0,12] (.agg [.lit (.bool d),.sq ((f.take n++List.take 1 [c]).take (n+1))]) [(d==e)=true,decide ((↑((digs a.natAbs).length):Int)<(↑((digs b.natAbs).length):Int))=true,inR .i64 ((↑((digs b.natAbs).length):Int)+1)=true,decide (0≤(↑((digs b.natAbs).length):Int)+1)=true,decide (8*((↑((digs b.natAbs).length):Int)+1)≤281474976710656)=true,decide ((↑((digs b.natAbs).length):Int)+1≤9223372036854775807)=true,Loops 4 Tryz.prog (pZ Tryz.prog 108 0) ⟨sp 97 [(2,.ref 0 0),(4,.ref 2 0),(5,.wd b),(6,.wd a),(7,.own 3 0 0 1),(8,aI 0),(31,.wd b),(32,aI (↑((digs b.natAbs).length):Int)),(33,aI 0)],[.flat [.lit (.bool d),.wd a] true,.flat [.lit (.bool e),.wd b] true,.flat [aF,aN] true,.ints [] true],[3]⟩ (Ex.exit 0,⟨sp 97 [(2,.ref 0 0),(4,.ref 2 0),(5,.wd b),(6,.wd a),(7,.own 4 0 n 1),(8,aI c),(31,.wd b),(32,aI (↑((digs b.natAbs).length):Int)),(33,aI i)],[.flat [.lit (.bool d),.wd a] true,.flat [.lit (.bool e),.wd b] true,.flat [aF,aN] true,.dead,.ints f true],[3]⟩),decide (c > 0)=true,decide ((n+1)*8≤140737488355328)=true,decide (n+1≤4611686018427387904)=true,decide (n≤f.length)=true,n+1≤(f.take n++List.take 1 [c]).length]:={}
theorem plB_1 (d e:Bool) (a b i c:Int) (n:Nat) (f:List Int):FunI (dZ Tryz.prog zim bw) 60 108 [.agg [.lit (.bool d),.wd a],.agg [.lit (.bool e),.wd b]] [1,1,0] [some (zev Tryz.prog (pZ Tryz.prog 108 0) [] [2,4,5,6,7,8,31,32,33] [3] (PZ d e a b b a) (.exit 0,PR d e a b b a i c n f))] [1,2,3,0,4,5,6,0,7,8,9] (.agg [.lit (.bool d),.sq (f.take n)]) [(d==e)=true,decide ((↑((digs a.natAbs).length):Int)<(↑((digs b.natAbs).length):Int))=true,inR .i64 ((↑((digs b.natAbs).length):Int)+1)=true,decide (0≤(↑((digs b.natAbs).length):Int)+1)=true,decide (8*((↑((digs b.natAbs).length):Int)+1)≤281474976710656)=true,decide ((↑((digs b.natAbs).length):Int)+1≤9223372036854775807)=true,Loops 4 Tryz.prog (pZ Tryz.prog 108 0) ⟨sp 97 [(2,.ref 0 0),(4,.ref 2 0),(5,.wd b),(6,.wd a),(7,.own 3 0 0 1),(8,aI 0),(31,.wd b),(32,aI (↑((digs b.natAbs).length):Int)),(33,aI 0)],[.flat [.lit (.bool d),.wd a] true,.flat [.lit (.bool e),.wd b] true,.flat [aF,aN] true,.ints [] true],[3]⟩ (Ex.exit 0,⟨sp 97 [(2,.ref 0 0),(4,.ref 2 0),(5,.wd b),(6,.wd a),(7,.own 4 0 n 1),(8,aI c),(31,.wd b),(32,aI (↑((digs b.natAbs).length):Int)),(33,aI i)],[.flat [.lit (.bool d),.wd a] true,.flat [.lit (.bool e),.wd b] true,.flat [aF,aN] true,.dead,.ints f true],[3]⟩),decide (c > 0)=false,n≤f.length]:={}
abbrev znB (c d:Bool) (a b:Int):St:=⟨sp 97 [(2,.ref 0 0),(4,.ref 2 0),(5,.wd a),(6,.wd b),(7,.own 3 0 0 1),(8,aI 0),(31,.wd a),(32,aI (↑((digs a.natAbs).length):Int)),(33,aI 0)],[.flat [.lit (.bool c),.wd a] true,.flat [.lit (.bool d),.wd b] true,.flat [aF,aN] true,.ints [] true],[3]⟩
theorem plO_1 (c d:Bool) (a b:Int):FunI (dZ Tryz.prog zim bw) 60 108 [.agg [.lit (.bool c),.wd a],.agg [.lit (.bool d),.wd b]] [1,0,0] [some (zev Tryz.prog (pZ Tryz.prog 108 0) [] [2,4,5,6,7,8,31,32,33] [3] (PZ c d a b a b) (.exit 0,PZ c d a b a b))] [1,2,3,0,4,5,6,0,7,0,8] (.agg [.lit (.bool c),.sq []]) [(c==d)=true,decide ((↑((digs a.natAbs).length):Int)<(↑((digs b.natAbs).length):Int))=false,inR .i64 ((↑((digs a.natAbs).length):Int)+1)=true,decide (0≤(↑((digs a.natAbs).length):Int)+1)=true,decide (8*((↑((digs a.natAbs).length):Int)+1)≤281474976710656)=true,decide ((↑((digs a.natAbs).length):Int)+1≤9223372036854775807)=true,Loops 4 Tryz.prog (pZ Tryz.prog 108 0) (znB c d a b) (Ex.exit 0,(znB c d a b)),0≤0]:={}
abbrev znz (c d:Bool) (a b:Int):St:=⟨sp 47 [(0,.own 4 0 (digs a.natAbs).length 1),(1,.wd b),(5,aI 0),(7,.own 4 0 (digs a.natAbs).length 1),(8,aI (↑((digs a.natAbs).length):Int)),(9,aI 0)],[.flat [.lit (.bool c),.wd a] true,.flat [.lit (.bool d),.wd b] true,.flat [aF,aN] true,.dead,.ints (digs a.natAbs) true],[3,4]⟩
theorem plC_1 (c d:Bool) (a b i:Int) (l:List Int):FunI (dZ Tryz.prog zim bw) 60 108 [.agg [.lit (.bool c),.wd a],.agg [.lit (.bool d),.wd b]] [0,0,1] [some (zev Tryz.prog (pZ Tryz.prog 152 0) [] [0,1,5,7,8,9] [3,4] (PL c d a b b 0 0 (digs a.natAbs).length (digs a.natAbs)) (.exit 0,PL c d a b b 0 i (digs a.natAbs).length l))] [1,2,3,4,5,6,7,0,8,9,10,11,12] (.agg [.lit (.bool c),.sq (trm (l.take (digs a.natAbs).length))]) [(c==d)=false,pDD a b,(zdu (a.natAbs:Int) (b.natAbs:Int)==0)=false,(zdu (a.natAbs:Int) (b.natAbs:Int)==1)=true,(!(digs a.natAbs).isEmpty)=true,decide ((0+(digs a.natAbs).length)*8≤140737488355328)=true,decide (0+(digs a.natAbs).length≤4611686018427387904)=true,decide ((digs a.natAbs).length=(digs a.natAbs).length)=true,(⟨sp 47 [(0,.own 4 0 (0+(digs a.natAbs).length) 1),(1,.wd b),(5,aI 0),(7,.own 4 0 (0+(digs a.natAbs).length) 1),(8,aI (↑(0+(digs a.natAbs).length):Int)),(9,aI 0)],[.flat [.lit (.bool c),.wd a] true,.flat [.lit (.bool d),.wd b] true,.flat [aF,aN] true,.dead,.ints (List.take 0 []++digs a.natAbs) true],[3,4]⟩:St)=(znz c d a b),Loops 5 Tryz.prog (pZ Tryz.prog 152 0) (znz c d a b) (Ex.exit 0,⟨sp 47 [(0,.own 4 0 (digs a.natAbs).length 1),(1,.wd b),(5,aI 0),(7,.own 4 0 (digs a.natAbs).length 1),(8,aI (↑((digs a.natAbs).length):Int)),(9,aI i)],[.flat [.lit (.bool c),.wd a] true,.flat [.lit (.bool d),.wd b] true,.flat [aF,aN] true,.dead,.ints l true],[3,4]⟩),(digs a.natAbs).length≤l.length,SZ (l.take (digs a.natAbs).length)]:={}
abbrev znA (c d:Bool) (a b:Int):St:=⟨sp 47 [(0,.own 4 0 (digs b.natAbs).length 1),(1,.wd a),(5,aI 0),(7,.own 4 0 (digs b.natAbs).length 1),(8,aI (↑((digs b.natAbs).length):Int)),(9,aI 0)],[.flat [.lit (.bool c),.wd a] true,.flat [.lit (.bool d),.wd b] true,.flat [aF,aN] true,.dead,.ints (digs b.natAbs) true],[3,4]⟩
theorem plD_2 (c d:Bool) (a b i:Int) (l:List Int):FunI (dZ Tryz.prog zim bw) 60 108 [.agg [.lit (.bool c),.wd a],.agg [.lit (.bool d),.wd b]] [0,0,0] [some (zev Tryz.prog (pZ Tryz.prog 152 0) [] [0,1,5,7,8,9] [3,4] (PL c d a b a 0 0 (digs b.natAbs).length (digs b.natAbs)) (.exit 0,PL c d a b a 0 i (digs b.natAbs).length l))] [1,2,3,4,5,6,7,0,8,9,10,11,12] (.agg [.lit (.bool d),.sq (trm (l.take (digs b.natAbs).length))]) [(c==d)=false,pDD a b,(zdu (a.natAbs:Int) (b.natAbs:Int)==0)=false,(zdu (a.natAbs:Int) (b.natAbs:Int)==1)=false,(!(digs b.natAbs).isEmpty)=true,decide ((0+(digs b.natAbs).length)*8≤140737488355328)=true,decide (0+(digs b.natAbs).length≤4611686018427387904)=true,decide ((digs b.natAbs).length=(digs b.natAbs).length)=true,(⟨sp 47 [(0,.own 4 0 (0+(digs b.natAbs).length) 1),(1,.wd a),(5,aI 0),(7,.own 4 0 (0+(digs b.natAbs).length) 1),(8,aI (↑(0+(digs b.natAbs).length):Int)),(9,aI 0)],[.flat [.lit (.bool c),.wd a] true,.flat [.lit (.bool d),.wd b] true,.flat [aF,aN] true,.dead,.ints (List.take 0 []++digs b.natAbs) true],[3,4]⟩:St)=(znA c d a b),Loops 5 Tryz.prog (pZ Tryz.prog 152 0) (znA c d a b) (Ex.exit 0,⟨sp 47 [(0,.own 4 0 (digs b.natAbs).length 1),(1,.wd a),(5,aI 0),(7,.own 4 0 (digs b.natAbs).length 1),(8,aI (↑((digs b.natAbs).length):Int)),(9,aI i)],[.flat [.lit (.bool c),.wd a] true,.flat [.lit (.bool d),.wd b] true,.flat [aF,aN] true,.dead,.ints l true],[3,4]⟩),(digs b.natAbs).length≤l.length,SZ (l.take (digs b.natAbs).length)]:={}
theorem plN_0 (c d:Bool) (a b:Int):FunI (dZ Tryz.prog zim bw) 60 108 [.agg [.lit (.bool c),.wd a],.agg [.lit (.bool d),.wd b]] [0,1] [] [1,2,3] (.agg [aF,aN]) [(c==d)=false,pDD a b,(zdu (a.natAbs:Int) (b.natAbs:Int)==0)=true]:={}
end
theorem zaO (l:List Int) (i:Nat):vl (l.drop i)=l.getD i 0+100000000*vl (l.drop (i+1)):=by
  by_cases h:i<l.length
  · rw [List.drop_eq_getElem_cons h]
    simp [vl,List.getD,h]
  · rw [List.drop_eq_nil_of_le (by omega),List.drop_eq_nil_of_le (by omega)]
    simp [vl,List.getD,h]
theorem MZ {l:List Int} (h:Digs l) (i:Nat):0≤l.getD i 0∧l.getD i 0<100000000:=by
  by_cases hi:i<l.length
  · have:l.getD i 0=l[i]:=by simp [List.getD,hi]
    rw [this];exact h _ (List.getElem_mem hi)
  · have:l.getD i 0=0:=by simp [List.getD,hi]
    rw [this];omega
theorem zdx {l:List Int} (h:Digs l) {d:Int} (h0:0≤d) (h1:d<100000000):Digs (l++[d]):=by
  intro x hx
  rcases List.mem_append.1 hx with hx | hx
  · exact h x hx
  · simp at hx;subst hx;exact ⟨h0,h1⟩
theorem zi6:∀ {l:List Int},l.length≤(trm l).length→trm l=l
  | [],_=>rfl
  | d :: l,h=>by
    simp only [trm] at h ⊢
    split
    · rename_i hc
      rw [if_pos hc] at h
      simp at h
    · rename_i hc
      rw [if_neg hc] at h
      simp only [List.length_cons] at h
      rw [zi6 (l:=l) (by omega)]
theorem tdm {t:Int} (h:0≤t):Int.tdiv t 100000000=t / 100000000∧Int.tmod t 100000000=t % 100000000:=
  ⟨Int.tdiv_eq_ediv_of_nonneg h,Int.tmod_eq_emod_of_nonneg h⟩
theorem plusR (na nb:Bool) (a b p q:Int) (hp:zaK p) (hq:zaK q):∀(k:Nat) (out:List Int) (c:Int),(digs p.natAbs).length=out.length+k→Digs out→(c=0∨c=1) →
    ∃(i' c':Int) (out':List Int),(c'=0∨c'=1)∧Digs out'∧out'.length=(digs p.natAbs).length ∧
      vl out'+100000000 ^ out'.length*c'=vl out+100000000 ^ out.length*(c+(vl ((digs p.natAbs).drop out.length)+vl ((digs q.natAbs).drop out.length)))-100000000 ^ (digs p.natAbs).length*vl ((digs q.natAbs).drop (digs p.natAbs).length) ∧
      Loops 4 Tryz.prog (pZ Tryz.prog 108 0) (PR na nb a b p q out.length c out.length out) (.exit 0,PR na nb a b p q i' c' out'.length out')
  | 0,out,c,hk,hd,hc=>by
    unfold zaK dl at hp hq
    refine ⟨_,c,out,hc,hd,by omega,?_,Loops.fin (LS.of ok4 (plE_2 na nb a b p q out.length c out.length out) (by(repeat' (first | exact AllC.nil | refine AllC.cons ?_ ?_));all_goals (first | ((with_reducible refine inR64.2 ?_);omega) | (with_reducible refine pFl ?_ ?_<;>omega) | ((with_reducible refine decide_eq_true ?_);omega) | ((with_reducible refine decide_eq_false ?_);omega) | omega | (simp [hk]<;>omega) | assumption | rfl))) (by simp [Ex.toExit])⟩
    have e:(digs p.natAbs).length=out.length:=by omega
    rw [e,List.drop_eq_nil_of_le (show(digs p.natAbs).length≤out.length by omega)]
    simp only [vl,Int.zero_add,Int.mul_add]
    omega
  | k + 1, out,c,hk,hd,hc=>by
    have hp':=hp
    have hq':=hq
    unfold zaK dl at hp' hq'
    have hnat:Int.toNat (out.length:Int)=out.length:=by omega
    have hx:=MZ (rZ p.natAbs) out.length
    have hy:=MZ (rZ q.natAbs) out.length
    have hlt:out.length<(digs p.natAbs).length:=by omega
    have e0:out.length+1=(out++[((digs p.natAbs).getD out.length 0+c+(digs q.natAbs).getD out.length 0) % 100000000]).length:=by simp
    have e2:(out.length:Int)+1=((out++[((digs p.natAbs).getD out.length 0+c+(digs q.natAbs).getD out.length 0) % 100000000]).length:Nat):=by simp
    have hd2:Digs (out++[((digs p.natAbs).getD out.length 0+c+(digs q.natAbs).getD out.length 0) % 100000000]):=zdx hd (by omega) (by omega)
    have hstep:LS 4 Tryz.prog (pZ Tryz.prog 108 0) (PR na nb a b p q out.length c out.length out)
        (.normal,PR na nb a b p q ((out.length:Int)+1) (((digs p.natAbs).getD out.length 0+c+(digs q.natAbs).getD out.length 0) / 100000000) (out.length+1) (out++[((digs p.natAbs).getD out.length 0+c+(digs q.natAbs).getD out.length 0) % 100000000])):=by
      by_cases hq2:out.length<(digs q.natAbs).length
      · obtain ⟨t1,t2⟩:=tdm (t:=(digs p.natAbs).getD out.length 0+c+(digs q.natAbs).getD out.length 0) (by omega)
        have h:=LS.of ok4 (plR_0 na nb a b p q out.length c out.length out) (by
          rw [hnat,t1]
          exact(by(repeat' (first | exact AllC.nil | refine AllC.cons ?_ ?_));all_goals (first | ((with_reducible refine inR64.2 ?_);omega) | (with_reducible refine pFl ?_ ?_<;>omega) | ((with_reducible refine decide_eq_true ?_);omega) | ((with_reducible refine decide_eq_false ?_);omega) | omega | (simp [hlt,hq2]<;>omega) | assumption | rfl)))
        rw [hnat,t1,t2,zcR] at h
        exact h
      · have hz:(digs q.natAbs).getD out.length 0=0:=by
          have:¬out.length<(digs q.natAbs).length:=hq2
          simp [List.getD,this]
        rw [hz,Int.add_zero]
        obtain ⟨t1,t2⟩:=tdm (t:=(digs p.natAbs).getD out.length 0+c) (by omega)
        have h:=LS.of ok4 (plR_1 na nb a b p q out.length c out.length out) (by
          rw [hnat,t1]
          exact(by(repeat' (first | exact AllC.nil | refine AllC.cons ?_ ?_));all_goals (first | ((with_reducible refine inR64.2 ?_);omega) | (with_reducible refine pFl ?_ ?_<;>omega) | ((with_reducible refine decide_eq_true ?_);omega) | ((with_reducible refine decide_eq_false ?_);omega) | omega | (simp [hlt,hq2]<;>omega) | assumption | rfl)))
        rw [hnat,t1,t2,zcR] at h
        exact h
    rw [e0,e2] at hstep
    obtain ⟨i',c',out',k1,k2,k3,k4,k5⟩:=plusR na nb a b p q hp hq k (out++[((digs p.natAbs).getD out.length 0+c+(digs q.natAbs).getD out.length 0) % 100000000]) (((digs p.natAbs).getD out.length 0+c+(digs q.natAbs).getD out.length 0) / 100000000)
      (by simp;omega) hd2 (by omega)
    refine ⟨i',c',out',k1,k2,k3,?_,Loops.go hstep k5⟩
    rw [k4]
    have:=zf5 out c ((digs p.natAbs).getD out.length 0+(digs q.natAbs).getD out.length 0) (((digs p.natAbs).getD out.length 0+c+(digs q.natAbs).getD out.length 0) % 100000000)
      (((digs p.natAbs).getD out.length 0+c+(digs q.natAbs).getD out.length 0) / 100000000) (vl ((digs p.natAbs).drop (out.length+1))+vl ((digs q.natAbs).drop (out.length+1))) (by omega)
    have e4:c+(vl ((digs p.natAbs).drop out.length)+vl ((digs q.natAbs).drop out.length))=c+((digs p.natAbs).getD out.length 0+(digs q.natAbs).getD out.length 0+100000000*(vl ((digs p.natAbs).drop (out.length+1))+vl ((digs q.natAbs).drop (out.length+1)))):=by
      rw [zaO (digs p.natAbs) out.length,zaO (digs q.natAbs) out.length];omega
    rw [e4,← this]
    simp only [List.length_append,List.length_singleton]
theorem plus0 (na nb:Bool) (a b p q:Int) (hp:zaK p) (hq:zaK q) (hl:(digs q.natAbs).length≤(digs p.natAbs).length) (h0:0<(digs p.natAbs).length) :
    ∃(i' c':Int) (out':List Int),(c'=0∨c'=1)∧Digs out'∧out'.length=(digs p.natAbs).length ∧
      vl out'+100000000 ^ out'.length*c'=(p.natAbs:Int)+(q.natAbs:Int) ∧
      Loops 4 Tryz.prog (pZ Tryz.prog 108 0) (PZ na nb a b p q) (.exit 0,PR na nb a b p q i' c' out'.length out'):=by
  have hx:=MZ (rZ p.natAbs) 0
  have hy:=MZ (rZ q.natAbs) 0
  have hd2:Digs [((digs p.natAbs).getD 0 0+0+(digs q.natAbs).getD 0 0) % 100000000]:=zdx (l:=[]) (fun d hd=>by cases hd) (by omega) (by omega)
  have hstep:LS 4 Tryz.prog (pZ Tryz.prog 108 0) (PZ na nb a b p q)
      (.normal,PR na nb a b p q 1 (((digs p.natAbs).getD 0 0+0+(digs q.natAbs).getD 0 0) / 100000000) 1 [((digs p.natAbs).getD 0 0+0+(digs q.natAbs).getD 0 0) % 100000000]):=by
    by_cases hq2:0<(digs q.natAbs).length
    · obtain ⟨t1,t2⟩:=tdm (t:=(digs p.natAbs).getD 0 0+0+(digs q.natAbs).getD 0 0) (by omega)
      have h:=LS.of ok4 (plZ_0 na nb a b p q) (by
        rw [t1]
        exact(by(repeat' (first | exact AllC.nil | refine AllC.cons ?_ ?_));all_goals (first | ((with_reducible refine inR64.2 ?_);omega) | (with_reducible refine pFl ?_ ?_<;>omega) | ((with_reducible refine decide_eq_true ?_);omega) | ((with_reducible refine decide_eq_false ?_);omega) | omega | (simp [h0,hq2]<;>omega) | assumption | rfl)))
      rw [t1,t2] at h
      exact h
    · have hz:(digs q.natAbs).getD 0 0=0:=by simp [List.getD,hq2]
      rw [hz,Int.add_zero]
      obtain ⟨t1,t2⟩:=tdm (t:=(digs p.natAbs).getD 0 0+0) (by omega)
      have h:=LS.of ok4 (plZ_1 na nb a b p q) (by
        rw [t1]
        exact(by(repeat' (first | exact AllC.nil | refine AllC.cons ?_ ?_));all_goals (first | ((with_reducible refine inR64.2 ?_);omega) | (with_reducible refine pFl ?_ ?_<;>omega) | ((with_reducible refine decide_eq_true ?_);omega) | ((with_reducible refine decide_eq_false ?_);omega) | omega | (simp [h0,hq2]<;>omega) | assumption | rfl)))
      rw [t1,t2] at h
      exact h
  obtain ⟨i',c',out',k1,k2,k3,k4,k5⟩:=plusR na nb a b p q hp hq ((digs p.natAbs).length-1) [((digs p.natAbs).getD 0 0+0+(digs q.natAbs).getD 0 0) % 100000000] (((digs p.natAbs).getD 0 0+0+(digs q.natAbs).getD 0 0) / 100000000) (by simp;omega) hd2 (by omega)
  refine ⟨i',c',out',k1,k2,k3,?_,Loops.go hstep k5⟩
  rw [k4,List.drop_eq_nil_of_le hl]
  have e1:=zaO (digs p.natAbs) 0
  have e2:=zaO (digs q.natAbs) 0
  rw [List.drop_zero,zap,Nat.zero_add] at e1 e2
  simp only [vl,List.length_singleton,Int.pow_succ,Int.pow_zero]
  omega
theorem lessL (na nb:Bool) (a b q:Int) (n:Nat) (hn:n≤1048576) (hq:(digs q.natAbs).length≤n):∀(suf pre:List Int) (bo:Int),(bo=0∨bo=1)→Digs pre→Digs suf→n=pre.length+suf.length →
    ∃(pre':List Int) (bo':Int),Digs pre'∧pre'.length=n∧(bo'=0∨bo'=1)∧vl pre'-100000000 ^ n*bo'=vl pre+100000000 ^ pre.length*(vl suf-bo-vl ((digs q.natAbs).drop pre.length)) ∧
      Loops 5 Tryz.prog (pZ Tryz.prog 152 0) (PL na nb a b q bo pre.length n (pre++suf)) (.exit 0,PL na nb a b q bo' n n pre')
  | [],pre,bo,hb,hp,hs,hk=>by
    simp only [List.length_nil,Nat.add_zero] at hk
    subst hk
    refine ⟨pre,bo,hp,rfl,hb,?_,?_⟩
    · rw [List.drop_eq_nil_of_le hq]
      simp only [vl,Int.sub_zero,Int.zero_sub,Int.mul_neg]
      omega
    · rw [List.append_nil]
      exact Loops.fin (LS.of ok4 (leL_4 na nb a b q bo pre.length pre.length pre) (by(repeat' (first | exact AllC.nil | refine AllC.cons ?_ ?_));all_goals (first | ((with_reducible refine inR64.2 ?_);omega) | (with_reducible refine pFl ?_ ?_<;>omega) | ((with_reducible refine decide_eq_true ?_);omega) | ((with_reducible refine decide_eq_false ?_);omega) | omega | (simp []<;>omega) | assumption | rfl))) (by simp [Ex.toExit])
  | s :: suf,pre,bo,hb,hp,hs,hk=>by
    have hs0:=hs s (by simp)
    have hsf:Digs suf:=fun d hd=>hs d (by simp [hd])
    have hkk:0+Int.toNat (pre.length:Int)*1=pre.length:=by omega
    have hnat:Int.toNat (pre.length:Int)=pre.length:=by omega
    have hy:=MZ (rZ q.natAbs) pre.length
    simp only [List.length_cons] at hk
    have main:∀(dg bo1:Int),(bo1=0∨bo1=1)→0≤dg→dg<100000000→dg-100000000*bo1=s-bo-(digs q.natAbs).getD pre.length 0 →
        LS 5 Tryz.prog (pZ Tryz.prog 152 0) (PL na nb a b q bo pre.length n (pre++s :: suf)) (.normal,PL na nb a b q bo1 ((pre.length:Int)+1) n (pre++dg :: suf)) →
        ∃(pre':List Int) (bo':Int),Digs pre'∧pre'.length=n∧(bo'=0∨bo'=1)∧vl pre'-100000000 ^ n*bo'=vl pre+100000000 ^ pre.length*(vl (s :: suf)-bo-vl ((digs q.natAbs).drop pre.length)) ∧
          Loops 5 Tryz.prog (pZ Tryz.prog 152 0) (PL na nb a b q bo pre.length n (pre++s :: suf)) (.exit 0,PL na nb a b q bo' n n pre'):=by
      intro dg bo1 h1 h2 h3 h4 h
      have e:pre++dg :: suf=(pre++[dg])++suf:=by simp
      have e2:(pre.length:Int)+1=((pre++[dg]).length:Nat):=by simp
      rw [e,e2] at h
      obtain ⟨pre',bo',k1,k2,k3,k4,k5⟩:=lessL na nb a b q n hn hq suf (pre++[dg]) bo1 h1 (zdx hp h2 h3) hsf (by simp;omega)
      refine ⟨pre',bo',k1,k2,k3,?_,Loops.go h k5⟩
      rw [k4,zca,List.length_append,List.length_singleton,Int.pow_succ,zaO (digs q.natAbs) pre.length]
      simp only [vl]
      have e3:s+100000000*vl suf-bo-((digs q.natAbs).getD pre.length 0+100000000*vl ((digs q.natAbs).drop (pre.length+1))) =
          dg+100000000*(vl suf-bo1-vl ((digs q.natAbs).drop (pre.length+1))):=by omega
      rw [e3,alg1,Int.add_assoc]
    by_cases hq2:pre.length<(digs q.natAbs).length
    · by_cases hneg:s-bo-(digs q.natAbs).getD pre.length 0<0
      · have h:=LS.of ok4 (leL_0 na nb a b q bo pre.length n (pre++s :: suf)) (by
          simp only [hnat,Nat.zero_add,Nat.mul_one,zas,za9]
          exact(by(repeat' (first | exact AllC.nil | refine AllC.cons ?_ ?_));all_goals (first | ((with_reducible refine inR64.2 ?_);omega) | (with_reducible refine pFl ?_ ?_<;>omega) | ((with_reducible refine decide_eq_true ?_);omega) | ((with_reducible refine decide_eq_false ?_);omega) | omega | (simp [hneg,hk,hq2]<;>omega) | assumption | rfl)))
        simp only [hnat,Nat.zero_add,Nat.mul_one,zas,za9] at h
        exact main _ 1 (.inr rfl) (by omega) (by omega) (by omega) h
      · have h:=LS.of ok4 (leL_1 na nb a b q bo pre.length n (pre++s :: suf)) (by
          simp only [hnat,Nat.zero_add,Nat.mul_one,zas,za9]
          exact(by(repeat' (first | exact AllC.nil | refine AllC.cons ?_ ?_));all_goals (first | ((with_reducible refine inR64.2 ?_);omega) | (with_reducible refine pFl ?_ ?_<;>omega) | ((with_reducible refine decide_eq_true ?_);omega) | ((with_reducible refine decide_eq_false ?_);omega) | omega | (simp [hneg,hk,hq2]<;>omega) | assumption | rfl)))
        simp only [hnat,Nat.zero_add,Nat.mul_one,zas,za9] at h
        exact main _ 0 (.inl rfl) (by omega) (by omega) (by omega) h
    · have hz:(digs q.natAbs).getD pre.length 0=0:=by simp [List.getD,hq2]
      by_cases hneg:s-bo<0
      · have h:=LS.of ok4 (leL_2 na nb a b q bo pre.length n (pre++s :: suf)) (by
          simp only [hnat,Nat.zero_add,Nat.mul_one,zas,za9]
          exact(by(repeat' (first | exact AllC.nil | refine AllC.cons ?_ ?_));all_goals (first | ((with_reducible refine inR64.2 ?_);omega) | (with_reducible refine pFl ?_ ?_<;>omega) | ((with_reducible refine decide_eq_true ?_);omega) | ((with_reducible refine decide_eq_false ?_);omega) | omega | (simp [hneg,hk,hq2]<;>omega) | assumption | rfl)))
        simp only [hnat,Nat.zero_add,Nat.mul_one,zas,za9] at h
        exact main _ 1 (.inr rfl) (by omega) (by omega) (by omega) h
      · have h:=LS.of ok4 (leL_3 na nb a b q bo pre.length n (pre++s :: suf)) (by
          simp only [hnat,Nat.zero_add,Nat.mul_one,zas,za9]
          exact(by(repeat' (first | exact AllC.nil | refine AllC.cons ?_ ?_));all_goals (first | ((with_reducible refine inR64.2 ?_);omega) | (with_reducible refine pFl ?_ ?_<;>omega) | ((with_reducible refine decide_eq_true ?_);omega) | ((with_reducible refine decide_eq_false ?_);omega) | omega | (simp [hneg,hk,hq2]<;>omega) | assumption | rfl)))
        simp only [hnat,Nat.zero_add,Nat.mul_one,zas,za9] at h
        exact main _ 0 (.inl rfl) (by omega) (by omega) (by omega) h
theorem zg8 {out:List Int} {m n:Nat} (hd:Digs out) (hv:vl out=(n:Int)) (hl:out.length=(digs m).length) (hmn:m≤n):out=digs n:=by
  have h1:=zaT hd
  rw [hv,Int.toNat_natCast] at h1
  have h2:(digs m).length≤(digs n).length:=by
    rcases Nat.lt_or_ge (digs n).length (digs m).length with h | h
    · have:=zcJ h;omega
    · exact h
  rw [← h1]
  exact(zi6 (by rw [h1];omega)).symm
theorem zdO (a b:Int) (ha:zaK a) (hb:zaK b) (hs:decide (a<0)=decide (b<0)) (nb:Bool) (hnb:nb=decide (a<0)) (l:List Int) (hl:l=digs (a.natAbs+b.natAbs)) :
    ∀(E:Env) (v:Value),Rd E (.agg [.lit (.bool nb),.sq l]) v→Rd E (W (a+b)) v:=by
  intro E v h
  have hs':(a<0)↔(b<0):=by simpa using hs
  refine h.toW (b:=nb) rfl rfl ?_ ?_
  · rw [hnb,decide_eq_decide];omega
  · rw [hl];congr 1;omega
theorem plus_fc (a b:Int) (h:pDD a b):FC Tryz.prog 108 [W a,W b] (W (a+b)):=by
  obtain ⟨ha,hb⟩:=h
  have ha':=ha
  have hb':=hb
  unfold zaK dl at ha' hb'
  by_cases hs:decide (a<0)=decide (b<0)
  · have hbe:(decide (a<0)==decide (b<0))=true:=by simpa using hs
    by_cases hl:(digs a.natAbs).length<(digs b.natAbs).length
    · -- the second one is longer
      obtain ⟨i',c',out,k1,k2,k3,k4,k5⟩:=plus0 (decide (a<0)) (decide (b<0)) a b b a hb ha (by omega) (by omega)
      rcases k1 with rfl | rfl
      · have:=mZ ok4 (plB_1 (decide (a<0)) (decide (b<0)) a b i' 0 out.length out) (by(repeat' (first | exact AllC.nil | refine AllC.cons ?_ ?_));all_goals (first | ((with_reducible refine inR64.2 ?_);omega) | (with_reducible refine pFl ?_ ?_<;>omega) | ((with_reducible refine decide_eq_true ?_);omega) | ((with_reducible refine decide_eq_false ?_);omega) | omega | (simp [hbe,hl]<;>omega) | assumption | rfl))
        rw [zaS] at this
        refine this.res (zdO a b ha hb hs _ rfl out ?_)
        exact zg8 (m:=b.natAbs) (n:=a.natAbs+b.natAbs) k2 (by rw [Int.mul_zero] at k4;omega) k3 (by omega)
      · have:=mZ ok4 (plB_0 (decide (a<0)) (decide (b<0)) a b i' 1 out.length out) (by(repeat' (first | exact AllC.nil | refine AllC.cons ?_ ?_));all_goals (first | ((with_reducible refine inR64.2 ?_);omega) | (with_reducible refine pFl ?_ ?_<;>omega) | ((with_reducible refine decide_eq_true ?_);omega) | ((with_reducible refine decide_eq_false ?_);omega) | omega | (simp [hbe,hl]<;>omega) | assumption | rfl))
        have e:List.take (out.length+1) (List.take out.length out++List.take 1 [1])=out++[1]:=by
          rw [zcR];exact List.take_of_length_le (by simp)
        rw [e] at this
        refine this.res (zdO a b ha hb hs _ rfl _ ?_)
        have hv:vl (out++[1])=((a.natAbs+b.natAbs:Nat):Int):=by rw [zca];omega
        have:=zmi (zdx k2 (d:=1) (by omega) (by omega)) (zdp out 1 (by decide))
        rw [hv,Int.toNat_natCast] at this
        exact this.symm
    · by_cases h0:0<(digs a.natAbs).length
      · obtain ⟨i',c',out,k1,k2,k3,k4,k5⟩:=plus0 (decide (a<0)) (decide (b<0)) a b a b ha hb (by omega) h0
        rcases k1 with rfl | rfl
        · have:=mZ ok4 (plA_3 (decide (a<0)) (decide (b<0)) a b i' 0 out.length out) (by(repeat' (first | exact AllC.nil | refine AllC.cons ?_ ?_));all_goals (first | ((with_reducible refine inR64.2 ?_);omega) | (with_reducible refine pFl ?_ ?_<;>omega) | ((with_reducible refine decide_eq_true ?_);omega) | ((with_reducible refine decide_eq_false ?_);omega) | omega | (simp [hbe,hl]<;>omega) | assumption | rfl))
          rw [zaS] at this
          refine this.res (zdO a b ha hb hs _ rfl out ?_)
          exact zg8 (m:=a.natAbs) (n:=a.natAbs+b.natAbs) k2 (by rw [Int.mul_zero] at k4;omega) k3 (by omega)
        · have:=mZ ok4 (plA_2 (decide (a<0)) (decide (b<0)) a b i' 1 out.length out) (by(repeat' (first | exact AllC.nil | refine AllC.cons ?_ ?_));all_goals (first | ((with_reducible refine inR64.2 ?_);omega) | (with_reducible refine pFl ?_ ?_<;>omega) | ((with_reducible refine decide_eq_true ?_);omega) | ((with_reducible refine decide_eq_false ?_);omega) | omega | (simp [hbe,hl]<;>omega) | assumption | rfl))
          have e:List.take (out.length+1) (List.take out.length out++List.take 1 [1])=out++[1]:=by
            rw [zcR];exact List.take_of_length_le (by simp)
          rw [e] at this
          refine this.res (zdO a b ha hb hs _ rfl _ ?_)
          have hv:vl (out++[1])=((a.natAbs+b.natAbs:Nat):Int):=by rw [zca];omega
          have:=zmi (zdx k2 (d:=1) (by omega) (by omega)) (zdp out 1 (by decide))
          rw [hv,Int.toNat_natCast] at this
          exact this.symm
      · have ea:a.natAbs=0:=(zcf _).1 (List.eq_nil_of_length_eq_zero (by omega))
        have eb:b.natAbs=0:=(zcf _).1 (List.eq_nil_of_length_eq_zero (by omega))
        have hL:=Loops.fin (LS.of ok4 (plX_2 (decide (a<0)) (decide (b<0)) a b a b) (by(repeat' (first | exact AllC.nil | refine AllC.cons ?_ ?_));all_goals (first | ((with_reducible refine inR64.2 ?_);omega) | (with_reducible refine pFl ?_ ?_<;>omega) | ((with_reducible refine decide_eq_true ?_);omega) | ((with_reducible refine decide_eq_false ?_);omega) | omega | (simp [h0]<;>omega) | assumption | rfl))) (by simp [Ex.toExit])
        have:=mZ ok4 (plO_1 (decide (a<0)) (decide (b<0)) a b) (by(repeat' (first | exact AllC.nil | refine AllC.cons ?_ ?_));all_goals (first | ((with_reducible refine inR64.2 ?_);omega) | (with_reducible refine pFl ?_ ?_<;>omega) | ((with_reducible refine decide_eq_true ?_);omega) | ((with_reducible refine decide_eq_false ?_);omega) | omega | (simp [hbe,hl]<;>omega) | assumption | rfl))
        refine this.res (zdO a b ha hb hs _ rfl _ ?_)
        rw [ea,eb];rfl
  · have hbe:(decide (a<0)==decide (b<0))=false:=by
      cases h1:decide (a<0)<;>cases h2:decide (b<0)<;>simp_all
    have hs':¬((a<0)↔(b<0)):=by simpa using hs
    rcases Nat.lt_trichotomy a.natAbs b.natAbs with hlt | heq | hgt
    · -- the second one is greater
      obtain ⟨out,bo,k1,k2,k3,k4,k5⟩:=lessL (decide (a<0)) (decide (b<0)) a b a (digs b.natAbs).length hb' (by
        rcases Nat.lt_or_ge (digs b.natAbs).length (digs a.natAbs).length with h | h
        · have:=zcJ h;omega
        · exact h) (digs b.natAbs) [] 0 (.inl rfl) (fun d hd=>by cases hd) (rZ _) (by simp)
      simp only [List.length_nil,List.nil_append,vl,Int.pow_zero,Int.one_mul,Int.zero_add,List.drop_zero,zap,Int.sub_zero] at k4 k5
      have hv:=zf4 k1
      rw [k2] at hv
      have hbo:bo=0:=by
        rcases k3 with h | h
        · exact h
        · subst h;omega
      subst hbo
      have hcmp:zdu (a.natAbs:Int) (b.natAbs:Int) = -1:=by unfold zdu;rw [if_pos (by omega)]
      have hbn:b≠0:=by omega
      have hne:=zeC hbn
      have k5':Loops 5 Tryz.prog (pZ Tryz.prog 152 0) (PL (decide (a<0)) (decide (b<0)) a b a 0 0 (digs b.natAbs).length (digs b.natAbs)) (.exit 0,PL (decide (a<0)) (decide (b<0)) a b a 0 ((digs b.natAbs).length:Int) (digs b.natAbs).length out):=k5
      have hP:pDD a b:=⟨ha,hb⟩
      have ht:List.take (digs b.natAbs).length out=out:=by rw [← k2,zaS]
      have:=mZ ok4 (plD_2 (decide (a<0)) (decide (b<0)) a b ((digs b.natAbs).length:Int) out) (by
        rw [hcmp,ht]
        simp only [Nat.zero_add,List.take_zero,List.nil_append]
        exact(by(repeat' (first | exact AllC.nil | refine AllC.cons ?_ ?_));all_goals (first | ((with_reducible refine inR64.2 ?_);omega) | (with_reducible refine pFl ?_ ?_<;>omega) | ((with_reducible refine decide_eq_true ?_);omega) | ((with_reducible refine decide_eq_false ?_);omega) | omega | (simp [hbe,hne,SZ]<;>omega) | assumption | rfl)))
      rw [ht] at this
      refine this.res fun E v h=>h.toW (b:=decide (b<0)) rfl rfl ?_ ?_
      · rw [decide_eq_decide];omega
      · rw [zaT k1];congr 1;omega
    · have:=mZ ok4 (plN_0 (decide (a<0)) (decide (b<0)) a b) (by
        have hP:pDD a b:=⟨ha,hb⟩
        have hcmp:zdu (a.natAbs:Int) (b.natAbs:Int)=0:=by unfold zdu;rw [if_neg (by omega),if_neg (by omega)]
        rw [hcmp]
        exact(by(repeat' (first | exact AllC.nil | refine AllC.cons ?_ ?_));all_goals (first | ((with_reducible refine inR64.2 ?_);omega) | (with_reducible refine pFl ?_ ?_<;>omega) | ((with_reducible refine decide_eq_true ?_);omega) | ((with_reducible refine decide_eq_false ?_);omega) | omega | (simp [hbe]<;>omega) | assumption | rfl)))
      refine this.res fun E v h=>h.toW (b:=false) (l:=[]) rfl rfl ?_ ?_
      · simp;omega
      · rw [show(a+b).natAbs=0 by omega];rfl
    · obtain ⟨out,bo,k1,k2,k3,k4,k5⟩:=lessL (decide (a<0)) (decide (b<0)) a b b (digs a.natAbs).length ha' (by
        rcases Nat.lt_or_ge (digs a.natAbs).length (digs b.natAbs).length with h | h
        · have:=zcJ h;omega
        · exact h) (digs a.natAbs) [] 0 (.inl rfl) (fun d hd=>by cases hd) (rZ _) (by simp)
      simp only [List.length_nil,List.nil_append,vl,Int.pow_zero,Int.one_mul,Int.zero_add,List.drop_zero,zap,Int.sub_zero] at k4 k5
      have hv:=zf4 k1
      rw [k2] at hv
      have hbo:bo=0:=by
        rcases k3 with h | h
        · exact h
        · subst h;omega
      subst hbo
      have hcmp:zdu (a.natAbs:Int) (b.natAbs:Int)=1:=by unfold zdu;rw [if_neg (by omega),if_pos (by omega)]
      have hbn:a≠0:=by omega
      have hne:=zeC hbn
      have k5':Loops 5 Tryz.prog (pZ Tryz.prog 152 0) (PL (decide (a<0)) (decide (b<0)) a b b 0 0 (digs a.natAbs).length (digs a.natAbs)) (.exit 0,PL (decide (a<0)) (decide (b<0)) a b b 0 ((digs a.natAbs).length:Int) (digs a.natAbs).length out):=k5
      have hP:pDD a b:=⟨ha,hb⟩
      have ht:List.take (digs a.natAbs).length out=out:=by rw [← k2,zaS]
      have:=mZ ok4 (plC_1 (decide (a<0)) (decide (b<0)) a b ((digs a.natAbs).length:Int) out) (by
        rw [hcmp,ht]
        simp only [Nat.zero_add,List.take_zero,List.nil_append]
        exact(by(repeat' (first | exact AllC.nil | refine AllC.cons ?_ ?_));all_goals (first | ((with_reducible refine inR64.2 ?_);omega) | (with_reducible refine pFl ?_ ?_<;>omega) | ((with_reducible refine decide_eq_true ?_);omega) | ((with_reducible refine decide_eq_false ?_);omega) | omega | (simp [hbe,hne,SZ]<;>omega) | assumption | rfl)))
      rw [ht] at this
      refine this.res fun E v h=>h.toW (b:=decide (a<0)) rfl rfl ?_ ?_
      · rw [decide_eq_decide];omega
      · rw [zaT k1];congr 1;omega
def ctr5:Ctr:=(108,c2 pDD (fun a b=>W (a+b))) :: zim
theorem zm0:∀p∈ctr5,lZ Tryz.prog p.1 p.2:=CAll.cons (c2_ok plus_fc) zmZ
theorem ok5:(dZ Tryz.prog ctr5 bw).OK:=QZ zm0
end Go.Proofs.YtloaeinogiplbaaGreatDoor
end
section
open Go Go.Ev
namespace Go.Proofs.YtloaeinogiplbaaGreatDoor
open Go.Proofs
abbrev TO (c d:Bool) (a b i:Int) (n:Nat) (l:List Int):St:=⟨sp 86 [(2,.ref 0 0),(3,.ref 1 0),(4,.ref 2 0),(5,.own 3 0 n 1),(32,.wd a),(33,.lit (.int .i64 ((digs a.natAbs).length:Int))),(34,.lit (.int .i64 i))],[.flat [.lit (.bool c),.wd a] true,.flat [.lit (.bool d),.wd b] true,.flat [.lit (.bool false),.lit (.slice none 0 0)] true,.ints l true],[3]⟩
abbrev TN (e f:Bool) (a b i d c k:Int) (n:Nat) (l:List Int):St:=⟨sp 86 [(2,.ref 0 0),(3,.ref 1 0),(4,.ref 2 0),(5,.own 3 0 n 1),(6,.lit (.int .i64 i)),(7,.lit (.int .i64 d)),(8,.lit (.int .i64 c)),(32,.wd a),(33,.lit (.int .i64 ((digs a.natAbs).length:Int))),(34,.lit (.int .i64 i)),(40,.wd b),(41,.lit (.int .i64 ((digs b.natAbs).length:Int))),(42,.lit (.int .i64 k))],[.flat [.lit (.bool e),.wd a] true,.flat [.lit (.bool f),.wd b] true,.flat [.lit (.bool false),.lit (.slice none 0 0)] true,.ints l true],[3]⟩
end Go.Proofs.YtloaeinogiplbaaGreatDoor
end
section
open Go Go.Ev Go.RowKit
namespace Go.Proofs.YtloaeinogiplbaaGreatDoor
open Go.Proofs
set_option maxRecDepth 100000
set_option maxHeartbeats 1000000
set_option linter.unusedVariables false
set_option linter.unusedSimpArgs false
noncomputable section
theorem tiL_0 (e f:Bool) (a b i d c k:Int) (n:Nat) (l:List Int):RndI (dZ Tryz.prog ctr5 bw) 60 (pZ Tryz.prog 107 1) 4 [] [2,3,4,5,6,7,8,32,33,34,40,41,42] [3] (TN e f a b i d c k n l) [1] [] [1,2,1,3,4,5,6,7,8,9,10,4,0,0,11,5,6,7,12] (Ex.normal) (⟨sp 86 [(2,.ref 0 0),(3,.ref 1 0),(4,.ref 2 0),(5,.own 3 0 n 1),(6,aI i),(7,aI d),(8,aI (Int.tdiv (l.getD (0+(i+k).toNat*1) 0+d*(digs b.natAbs).getD k.toNat 0+c) 100000000)),(32,.wd a),(33,aI (↑((digs a.natAbs).length):Int)),(34,aI i),(40,.wd b),(41,aI (↑((digs b.natAbs).length):Int)),(42,aI (k+1))],[.flat [.lit (.bool e),.wd a] true,.flat [.lit (.bool f),.wd b] true,.flat [aF,aN] true,.ints (l.set (0+(i+k).toNat*1) (Int.tmod (l.getD (0+(i+k).toNat*1) 0+d*(digs b.natAbs).getD k.toNat 0+c) 100000000)) true],[3]⟩) [decide (k<(↑((digs b.natAbs).length):Int))=true,decide (0≤k)=true,decide (k.toNat<(digs b.natAbs).length)=true,inR .i64 (i+k)=true,decide (0≤i+k)=true,decide (i+k<(n:Int))=true,decide (0+(i+k).toNat*1<l.length)=true,inR .i64 (d*(digs b.natAbs).getD k.toNat 0)=true,inR .i64 (l.getD (0+(i+k).toNat*1) 0+d*(digs b.natAbs).getD k.toNat 0)=true,inR .i64 (l.getD (0+(i+k).toNat*1) 0+d*(digs b.natAbs).getD k.toNat 0+c)=true,inR .i64 (Int.tdiv (l.getD (0+(i+k).toNat*1) 0+d*(digs b.natAbs).getD k.toNat 0+c) 100000000)=true,inR .i64 (k+1)=true]:={}
theorem tiL_1 (e f:Bool) (a b i d c k:Int) (n:Nat) (l:List Int):RndI (dZ Tryz.prog ctr5 bw) 60 (pZ Tryz.prog 107 1) 4 [] [2,3,4,5,6,7,8,32,33,34,40,41,42] [3] (TN e f a b i d c k n l) [0] [] [1] (Ex.exit 2) (⟨sp 86 [(2,.ref 0 0),(3,.ref 1 0),(4,.ref 2 0),(5,.own 3 0 n 1),(6,aI i),(7,aI d),(8,aI c),(32,.wd a),(33,aI (↑((digs a.natAbs).length):Int)),(34,aI i),(40,.wd b),(41,aI (↑((digs b.natAbs).length):Int)),(42,aI k)],[.flat [.lit (.bool e),.wd a] true,.flat [.lit (.bool f),.wd b] true,.flat [aF,aN] true,.ints l true],[3]⟩) [decide (k<(↑((digs b.natAbs).length):Int))=false]:={}
theorem toL_0 (d e:Bool) (a b i c k:Int) (n:Nat) (l f:List Int):RndI (dZ Tryz.prog ctr5 bw) 60 (pZ Tryz.prog 107 0) 4 [] [2,3,4,5,32,33,34] [3] (TO d e a b i n l) [1] [some (zev Tryz.prog (pZ Tryz.prog 107 1) [] [2,3,4,5,6,7,8,32,33,34,40,41,42] [3] (TN d e a b i ((digs a.natAbs).getD i.toNat 0) 0 0 n l) (.exit 2,TN d e a b i ((digs a.natAbs).getD i.toNat 0) c k n f))] [1,2,1,3,0,4,5,6,7,8,9] (Ex.normal) (⟨sp 86 [(2,.ref 0 0),(3,.ref 1 0),(4,.ref 2 0),(5,.own 3 0 n 1),(32,.wd a),(33,aI (↑((digs a.natAbs).length):Int)),(34,aI (i+1))],[.flat [.lit (.bool d),.wd a] true,.flat [.lit (.bool e),.wd b] true,.flat [aF,aN] true,.ints (f.set (0+(i+(↑((digs b.natAbs).length):Int)).toNat*1) c) true],[3]⟩) [decide (i<(↑((digs a.natAbs).length):Int))=true,decide (0≤i)=true,decide (i.toNat<(digs a.natAbs).length)=true,Loops 4 Tryz.prog (pZ Tryz.prog 107 1) ⟨sp 86 [(2,.ref 0 0),(3,.ref 1 0),(4,.ref 2 0),(5,.own 3 0 n 1),(6,aI i),(7,aI ((digs a.natAbs).getD i.toNat 0)),(8,aI 0),(32,.wd a),(33,aI (↑((digs a.natAbs).length):Int)),(34,aI i),(40,.wd b),(41,aI (↑((digs b.natAbs).length):Int)),(42,aI 0)],[.flat [.lit (.bool d),.wd a] true,.flat [.lit (.bool e),.wd b] true,.flat [aF,aN] true,.ints l true],[3]⟩ (Ex.exit 2,⟨sp 86 [(2,.ref 0 0),(3,.ref 1 0),(4,.ref 2 0),(5,.own 3 0 n 1),(6,aI i),(7,aI ((digs a.natAbs).getD i.toNat 0)),(8,aI c),(32,.wd a),(33,aI (↑((digs a.natAbs).length):Int)),(34,aI i),(40,.wd b),(41,aI (↑((digs b.natAbs).length):Int)),(42,aI k)],[.flat [.lit (.bool d),.wd a] true,.flat [.lit (.bool e),.wd b] true,.flat [aF,aN] true,.ints f true],[3]⟩),inR .i64 (i+(↑((digs b.natAbs).length):Int))=true,decide (0≤i+(↑((digs b.natAbs).length):Int))=true,decide (i+(↑((digs b.natAbs).length):Int)<(n:Int))=true,decide (0+(i+(↑((digs b.natAbs).length):Int)).toNat*1<f.length)=true,inR .i64 (i+1)=true]:={}
theorem toE_0 (c d:Bool) (a b i:Int) (n:Nat) (l:List Int):RndI (dZ Tryz.prog ctr5 bw) 60 (pZ Tryz.prog 107 0) 4 [] [2,3,4,5,32,33,34] [3] (TO c d a b i n l) [0] [] [1] (Ex.exit 0) (⟨sp 86 [(2,.ref 0 0),(3,.ref 1 0),(4,.ref 2 0),(5,.own 3 0 n 1),(32,.wd a),(33,aI (↑((digs a.natAbs).length):Int)),(34,aI i)],[.flat [.lit (.bool c),.wd a] true,.flat [.lit (.bool d),.wd b] true,.flat [aF,aN] true,.ints l true],[3]⟩) [decide (i<(↑((digs a.natAbs).length):Int))=false]:={}
abbrev znW (c d:Bool) (a b:Int) (n:Nat):St:=⟨sp 86 [(2,.ref 0 0),(3,.ref 1 0),(4,.ref 2 0),(5,.own 3 0 n 1),(32,.wd a),(33,aI (↑((digs a.natAbs).length):Int)),(34,aI 0)],[.flat [.lit (.bool c),.wd a] true,.flat [.lit (.bool d),.wd b] true,.flat [aF,aN] true,.ints (List.replicate n 0) true],[3]⟩
theorem tim_2 (c d:Bool) (a b i:Int) (n:Nat) (l:List Int):FunI (dZ Tryz.prog ctr5 bw) 60 107 [.agg [.lit (.bool c),.wd a],.agg [.lit (.bool d),.wd b]] [0,0] [some (zev Tryz.prog (pZ Tryz.prog 107 0) [] [2,3,4,5,32,33,34] [3] (TO c d a b 0 n (List.replicate n 0)) (.exit 0,TO c d a b i n l))] [1,2,3,4,5,6,7,8,9,10,11] (.agg [.lit (.bool (!(c==d))),.sq (trm (l.take n))]) [((↑((digs a.natAbs).length):Int)==0)=false,((↑((digs b.natAbs).length):Int)==0)=false,inR .i64 ((↑((digs a.natAbs).length):Int)+(↑((digs b.natAbs).length):Int))=true,decide (0≤(↑((digs a.natAbs).length):Int)+(↑((digs b.natAbs).length):Int))=true,decide ((↑((digs a.natAbs).length):Int)+(↑((digs b.natAbs).length):Int)≤(↑((digs a.natAbs).length):Int)+(↑((digs b.natAbs).length):Int))=true,decide (8*((↑((digs a.natAbs).length):Int)+(↑((digs b.natAbs).length):Int))≤281474976710656)=true,decide ((↑((digs a.natAbs).length):Int)+(↑((digs b.natAbs).length):Int)≤9223372036854775807)=true,(⟨sp 86 [(2,.ref 0 0),(3,.ref 1 0),(4,.ref 2 0),(5,.own 3 0 ((↑((digs a.natAbs).length):Int)+(↑((digs b.natAbs).length):Int)).toNat 1),(32,.wd a),(33,aI (↑((digs a.natAbs).length):Int)),(34,aI 0)],[.flat [.lit (.bool c),.wd a] true,.flat [.lit (.bool d),.wd b] true,.flat [aF,aN] true,.ints (List.replicate ((↑((digs a.natAbs).length):Int)+(↑((digs b.natAbs).length):Int)).toNat 0) true],[3]⟩:St)=(znW c d a b n),Loops 4 Tryz.prog (pZ Tryz.prog 107 0) (znW c d a b n) (Ex.exit 0,⟨sp 86 [(2,.ref 0 0),(3,.ref 1 0),(4,.ref 2 0),(5,.own 3 0 n 1),(32,.wd a),(33,aI (↑((digs a.natAbs).length):Int)),(34,aI i)],[.flat [.lit (.bool c),.wd a] true,.flat [.lit (.bool d),.wd b] true,.flat [aF,aN] true,.ints l true],[3]⟩),n≤l.length,SZ (l.take n)]:={}
theorem timZ_0 (c d:Bool) (a b:Int):FunI (dZ Tryz.prog ctr5 bw) 60 107 [.agg [.lit (.bool c),.wd a],.agg [.lit (.bool d),.wd b]] [1] [] [1] (.agg [aF,aN]) [((↑((digs a.natAbs).length):Int)==0)=true]:={}
theorem timZ_1 (c d:Bool) (a b:Int):FunI (dZ Tryz.prog ctr5 bw) 60 107 [.agg [.lit (.bool c),.wd a],.agg [.lit (.bool d),.wd b]] [0,1] [] [1,2] (.agg [aF,aN]) [((↑((digs a.natAbs).length):Int)==0)=false,((↑((digs b.natAbs).length):Int)==0)=true]:={}
end
theorem zgp:∀(l:List Int) (j:Nat) (v:Int),j<l.length→vl (l.set j v)=vl l+100000000 ^ j*(v-l.getD j 0)
  | [],j,v,h=>by simp at h
  | d :: l,0,v,h=>by simp [vl];omega
  | d :: l,j+1,v,h=>by
    have:=zgp l j v (by simpa using h)
    simp only [List.set_cons_succ,vl,this,List.getD_cons_succ,Int.pow_succ]
    rw [Int.mul_add,← Int.mul_assoc,Int.mul_comm 100000000 (100000000 ^ j)]
    omega
theorem getD_set_ne (l:List Int) (i j:Nat) (v:Int) (h:i≠j):(l.set j v).getD i 0=l.getD i 0:=by
  simp [List.getD,List.getElem?_set_ne (Ne.symm h)]
theorem zeI {l:List Int} (h:Digs l) (j:Nat) {v:Int} (h0:0≤v) (h1:v<100000000):Digs (l.set j v):=by
  intro d hd
  rcases List.mem_or_eq_of_mem_set hd with hd | rfl
  · exact h d hd
  · exact ⟨h0,h1⟩
theorem mul_dig {d y:Int} (h0:0≤d) (h1:d<100000000) (h2:0≤y) (h3:y<100000000):0≤d*y∧d*y≤9999999800000001:=by
  refine ⟨Int.mul_nonneg h0 h2,?_⟩
  have:=Int.mul_le_mul (show d≤99999999 by omega) (show y≤99999999 by omega) h2 (by decide)
  omega
theorem timesI (na nb:Bool) (a b d:Int) (hd0:0≤d) (hd1:d<100000000) (i n:Nat) (hn:n≤2097152) (hin:i+(digs b.natAbs).length<n):∀(r k:Nat) (l:List Int) (c:Int),k+r=(digs b.natAbs).length→Digs l→0≤c→c<100000000→l.length=n →
    ∃(l2:List Int) (c2:Int),Digs l2∧l2.length=n∧0≤c2∧c2<100000000∧vl l2+100000000 ^ (i+(digs b.natAbs).length)*c2=vl l+100000000 ^ (i+k)*(c+d*vl ((digs b.natAbs).drop k)) ∧
      (∀j,i+(digs b.natAbs).length≤j→l2.getD j 0=l.getD j 0) ∧
      Loops 4 Tryz.prog (pZ Tryz.prog 107 1) (TN na nb a b i d c k n l) (.exit 2,TN na nb a b i d c2 ((digs b.natAbs).length:Int) n l2)
  | 0,k,l,c,hk,hl,hc0,hc1,hln=>by
    obtain rfl:k=(digs b.natAbs).length:=by omega
    refine ⟨l,c,hl,hln,hc0,hc1,?_,fun _ _=>rfl,Loops.fin (LS.of ok5 (tiL_1 na nb a b i d c ((digs b.natAbs).length:Int) n l) (by(repeat' (first | exact AllC.nil | refine AllC.cons ?_ ?_));all_goals (first | ((with_reducible refine inR64.2 ?_);omega) | (with_reducible refine pFl ?_ ?_<;>omega) | ((with_reducible refine decide_eq_true ?_);omega) | ((with_reducible refine decide_eq_false ?_);omega) | omega | (simp []<;>omega) | assumption | rfl))) (by simp [Ex.toExit])⟩
    rw [List.drop_length];simp [vl]
  | r + 1,k,l,c,hk,hl,hc0,hc1,hln=>by
    have hnat:0+Int.toNat ((i:Int)+(k:Int))*1=i+k:=by omega
    have hkn:Int.toNat (k:Int)=k:=by omega
    have hkb:k<(digs b.natAbs).length:=by omega
    obtain ⟨hy0,hy1⟩:=MZ (rZ b.natAbs) k
    obtain ⟨hx0,hx1⟩:=MZ hl (i+k)
    obtain ⟨hm0,hm1⟩:=mul_dig hd0 hd1 hy0 hy1
    obtain ⟨t1,t2⟩:=tdm (t:=l.getD (i+k) 0+d*(digs b.natAbs).getD k 0+c) (by omega)
    have h:=LS.of ok5 (tiL_0 na nb a b i d c k n l) (by
      rw [hnat,hkn,t1]
      generalize d*(digs b.natAbs).getD k 0=m at *
      exact(by(repeat' (first | exact AllC.nil | refine AllC.cons ?_ ?_));all_goals (first | ((with_reducible refine inR64.2 ?_);omega) | (with_reducible refine pFl ?_ ?_<;>omega) | ((with_reducible refine decide_eq_true ?_);omega) | ((with_reducible refine decide_eq_false ?_);omega) | omega | (simp [hkb,hln]<;>omega) | assumption | rfl)))
    rw [hnat,hkn,t1,t2] at h
    have hv:=zgp l (i+k) ((l.getD (i+k) 0+d*(digs b.natAbs).getD k 0+c) % 100000000) (by omega)
    have hdr:=zaO (digs b.natAbs) k
    have hD:Digs (l.set (i+k) ((l.getD (i+k) 0+d*(digs b.natAbs).getD k 0+c) % 100000000)):=zeI hl _ (by omega) (by omega)
    obtain ⟨l2,c2,k1,k2,k3,k4,k5,k6,k7⟩:=timesI na nb a b d hd0 hd1 i n hn hin r (k+1) (l.set (i+k) ((l.getD (i+k) 0+d*(digs b.natAbs).getD k 0+c) % 100000000)) ((l.getD (i+k) 0+d*(digs b.natAbs).getD k 0+c) / 100000000)
      (by omega) hD (by omega) (by omega) (by simp;omega)
    have e:((k+1:Nat):Int)=(k:Int)+1:=by omega
    rw [e] at k7
    refine ⟨l2,c2,k1,k2,k3,k4,?_,fun j hj=>(k6 j hj).trans (getD_set_ne _ _ _ _ (by omega)),Loops.go h k7⟩
    rw [k5,hv,hdr,← Nat.add_assoc,Int.pow_succ]
    generalize hT:l.getD (i+k) 0+d*(digs b.natAbs).getD k 0+c=t
    have e2:c+d*((digs b.natAbs).getD k 0+100000000*vl ((digs b.natAbs).drop (k+1)))=(t % 100000000-l.getD (i+k) 0)+100000000*(t / 100000000+d*vl ((digs b.natAbs).drop (k+1))):=by
      rw [Int.mul_add d,Int.mul_left_comm d 100000000]
      generalize d*(digs b.natAbs).getD k 0=m at *
      omega
    rw [e2,alg1,Int.add_assoc]
theorem timesO (na nb:Bool) (a b:Int) (ha:zaK a) (hb:zaK b) (n:Nat) (hn:n=(digs a.natAbs).length+(digs b.natAbs).length) (hb0:0<(digs b.natAbs).length):∀(r i:Nat) (l:List Int),i+r=(digs a.natAbs).length→Digs l→l.length=n →
    (∀j,i+(digs b.natAbs).length≤j→l.getD j 0=0) →
    ∃l2:List Int,Digs l2∧l2.length=n∧vl l2=vl l+100000000 ^ i*(vl ((digs a.natAbs).drop i)*(b.natAbs:Int)) ∧
      Loops 4 Tryz.prog (pZ Tryz.prog 107 0) (TO na nb a b i n l) (.exit 0,TO na nb a b ((digs a.natAbs).length:Int) n l2)
  | 0,i,l,hi,hl,hln,hz=>by
    obtain rfl:i=(digs a.natAbs).length:=by omega
    refine ⟨l,hl,hln,?_,Loops.fin (LS.of ok5 (toE_0 na nb a b ((digs a.natAbs).length:Int) n l) (by(repeat' (first | exact AllC.nil | refine AllC.cons ?_ ?_));all_goals (first | ((with_reducible refine inR64.2 ?_);omega) | (with_reducible refine pFl ?_ ?_<;>omega) | ((with_reducible refine decide_eq_true ?_);omega) | ((with_reducible refine decide_eq_false ?_);omega) | omega | (simp []<;>omega) | assumption | rfl))) (by simp [Ex.toExit])⟩
    rw [List.drop_length];simp [vl]
  | r + 1,i,l,hi,hl,hln,hz=>by
    have ha':=ha
    have hb':=hb
    unfold zaK dl at ha' hb'
    have hin:Int.toNat (i:Int)=i:=by omega
    have hnat:0+Int.toNat ((i:Int)+((digs b.natAbs).length:Int))*1=i+(digs b.natAbs).length:=by omega
    have hia:i<(digs a.natAbs).length:=by omega
    obtain ⟨hd0,hd1⟩:=MZ (rZ a.natAbs) i
    obtain ⟨l2,c2,k1,k2,k3,k4,k5,k6,k7⟩:=timesI na nb a b ((digs a.natAbs).getD i 0) hd0 hd1 i n (by omega) (by omega) (digs b.natAbs).length 0 l 0 (by omega) hl (by omega) (by omega) hln
    have k7':Loops 4 Tryz.prog (pZ Tryz.prog 107 1) (TN na nb a b i ((digs a.natAbs).getD i 0) 0 0 n l) (.exit 2,TN na nb a b i ((digs a.natAbs).getD i 0) c2 ((digs b.natAbs).length:Int) n l2):=k7
    have h:=LS.of ok5 (toL_0 na nb a b i c2 ((digs b.natAbs).length:Int) n l l2) (by
      rw [hnat,hin]
      exact(by(repeat' (first | exact AllC.nil | refine AllC.cons ?_ ?_));all_goals (first | ((with_reducible refine inR64.2 ?_);omega) | (with_reducible refine pFl ?_ ?_<;>omega) | ((with_reducible refine decide_eq_true ?_);omega) | ((with_reducible refine decide_eq_false ?_);omega) | omega | (simp [hia,k2]<;>omega) | assumption | rfl)))
    rw [hnat] at h
    have hv:=zgp l2 (i+(digs b.natAbs).length) c2 (by omega)
    have h0:l2.getD (i+(digs b.natAbs).length) 0=0:=by rw [k6 _ (Nat.le_refl _)];exact hz _ (Nat.le_refl _)
    rw [h0,Int.sub_zero,k5] at hv
    obtain ⟨l4,m1,m2,m3,m4⟩:=timesO na nb a b ha hb n hn hb0 r (i+1) (l2.set (i+(digs b.natAbs).length) c2) (by omega) (zeI k1 _ k3 k4) (by simp;omega) (fun j hj=>by
      rw [getD_set_ne _ _ _ _ (by omega),k6 j (by omega)];exact hz j (by omega))
    have e:((i+1:Nat):Int)=(i:Int)+1:=by omega
    rw [e] at m4
    refine ⟨l4,m1,m2,?_,Loops.go h m4⟩
    rw [m3,hv,zaO (digs a.natAbs) i,List.drop_zero,zap,Int.zero_add,Nat.add_zero,Int.pow_succ,Int.add_mul,Int.mul_assoc 100000000,alg1,Int.add_assoc]
theorem times_fc (a b:Int) (h:pDD a b):FC Tryz.prog 107 [W a,W b] (W (a*b)):=by
  obtain ⟨ha,hb⟩:=h
  have ha':=ha
  have hb':=hb
  unfold zaK dl at ha' hb'
  by_cases ha0:a=0
  · subst ha0
    have:=mZ ok5 (timZ_0 (decide ((0:Int)<0)) (decide (b<0)) 0 b) (.cons (by simp [XZ]) .nil)
    exact this.res fun E v h=>h.toW (b:=false) (l:=[]) rfl rfl (by simp) (by simp [XZ])
  · have hna:=zeC ha0
    by_cases hb0:b=0
    · subst hb0
      have:=mZ ok5 (timZ_1 (decide (a<0)) (decide ((0:Int)<0)) a 0) (.cons (by simp [hna]) (.cons (by simp [XZ]) .nil))
      exact this.res fun E v h=>h.toW (b:=false) (l:=[]) rfl rfl (by simp) (by simp [XZ])
    · have hnb:=zeC hb0
      have hpa:=zcg ha0
      have hpb:=zcg hb0
      obtain ⟨N,hN⟩:∃N,N=Int.toNat (((digs a.natAbs).length:Int)+((digs b.natAbs).length:Int)):=⟨_,rfl⟩
      have hN2:N=(digs a.natAbs).length+(digs b.natAbs).length:=by omega
      have hz0:Digs (List.replicate N 0):=fun d hd=>by
        have:=List.eq_of_mem_replicate hd
        omega
      have hvz:∀m:Nat,vl (List.replicate m 0)=0:=by
        intro m
        induction m with
        | zero=>rfl
        | succ m ih=>simp only [List.replicate_succ,vl,ih];rfl
      obtain ⟨l2,k1,k2,k3,k4⟩:=timesO (decide (a<0)) (decide (b<0)) a b ha hb N hN2 hpb (digs a.natAbs).length 0 (List.replicate N 0) (by omega) hz0 (by simp) (fun j hj=>by simp [List.getD,List.getElem?_replicate];split<;>rfl)
      have k4':Loops 4 Tryz.prog (pZ Tryz.prog 107 0) (TO (decide (a<0)) (decide (b<0)) a b 0 N (List.replicate N 0)) (.exit 0,TO (decide (a<0)) (decide (b<0)) a b ((digs a.natAbs).length:Int) N l2):=k4
      have hst:List.take N l2=l2:=by rw [← k2,zaS]
      have:=mZ ok5 (tim_2 (decide (a<0)) (decide (b<0)) a b ((digs a.natAbs).length:Int) N l2) (by
        rw [hst,← hN]
        exact(by(repeat' (first | exact AllC.nil | refine AllC.cons ?_ ?_));all_goals (first | ((with_reducible refine inR64.2 ?_);omega) | (with_reducible refine pFl ?_ ?_<;>omega) | ((with_reducible refine decide_eq_true ?_);omega) | ((with_reducible refine decide_eq_false ?_);omega) | omega | (simp [hna,hnb,k2,SZ]<;>omega) | assumption | rfl)))
      rw [hst] at this
      have hprod:vl l2=((a.natAbs*b.natAbs:Nat):Int):=by
        rw [k3,hvz,List.drop_zero,zap,Int.pow_zero,Int.one_mul,Int.zero_add];simp
      refine this.res fun E v h=>h.toW (b:=(!(decide (a<0)==decide (b<0)))) rfl rfl ?_ ?_
      · rcases Int.lt_or_gt_of_ne ha0 with h1 | h1<;>rcases Int.lt_or_gt_of_ne hb0 with h2 | h2
        · have:=Int.mul_pos_of_neg_of_neg h1 h2
          simp [h1,h2];omega
        · have:=Int.mul_neg_of_neg_of_pos h1 h2
          have h3:¬b<0:=by omega
          simp [h1,h3,this]
        · have:=Int.mul_neg_of_pos_of_neg h1 h2
          have h3:¬a<0:=by omega
          simp [h2,h3,this]
        · have:=Int.mul_pos h1 h2
          have h3:¬a<0:=by omega
          have h4:¬b<0:=by omega
          simp [h3,h4];omega
      · rw [zaT k1,hprod,Int.toNat_natCast,Int.natAbs_mul]
def ctr6:Ctr:=(107,c2 pDD (fun a b=>W (a*b))) :: ctr5
theorem zm1:∀p∈ctr6,lZ Tryz.prog p.1 p.2:=CAll.cons (c2_ok times_fc) zm0
theorem ok6:(dZ Tryz.prog ctr6 bw).OK:=QZ zm1
end Go.Proofs.YtloaeinogiplbaaGreatDoor
end
section
open Go Go.Ev
namespace Go.Proofs.YtloaeinogiplbaaGreatDoor
open Go.Proofs
def cLI (p:List Int→Int→Prop) (r:List Int→Int→AV) (args:List AV):M AV:=match args with
  | [x,.lit (.int .i64 n)]=>do
    let l ← ofOpt 217 (ints? x)
    tell (p l n)
    M.pure (r l n)
  | _=>fail 218
theorem cLI_ok {P:Program} {f:FuncId} {p:List Int→Int→Prop} {r:List Int→Int→AV} (h:∀l n,p l n→FC P f [.sq l,.lit (.int .i64 n)] (r l n)):lZ P f (cLI p r):=by
  intro args _
  unfold cLI
  split
  · exact Spec.bind (Spec.ofOpt fun l hl=>Spec.bind (Spec.tell fun hp=>Spec.pure' ((h l _ hp).arg2 (fun E v hv=>hv.toSq hl) (fun E v hv=>hv))))
  · exact Spec.fail
abbrev SH (l:List Int) (n r i:Int) (m:Nat) (a:List Int):St:=⟨sp 38 [(0,.sq l),(1,.lit (.int .i64 n)),(6,.own 0 0 m 1),(7,.lit (.int .i64 r)),(8,.lit (.int .i64 i))],[.ints a true],[0]⟩
end Go.Proofs.YtloaeinogiplbaaGreatDoor
end
section
open Go Go.Ev Go.RowKit
namespace Go.Proofs.YtloaeinogiplbaaGreatDoor
open Go.Proofs
set_option maxRecDepth 100000
set_option maxHeartbeats 1000000
set_option linter.unusedVariables false
set_option linter.unusedSimpArgs false
noncomputable section
theorem shL_0 (l:List Int) (n r i:Int) (m:Nat) (a:List Int):RndI (dZ Tryz.prog ctr6 bw) 60 (pZ Tryz.prog 175 0) 1 [] [0,1,6,7,8] [0] (SH l n r i m a) [1] [] [1,2,3,4,5,6,7,8,7,3,9,10,11] (Ex.normal) (⟨sp 38 [(0,.sq l),(1,aI n),(6,.own 0 0 m 1),(7,aI (Int.tmod (r*100000000+l.getD i.toNat 0) n)),(8,aI (i-1))],[.ints (a.set (0+i.toNat*1) (Int.tdiv (r*100000000+l.getD i.toNat 0) n)) true],[0]⟩) [decide (i≥0)=true,inR .i64 (r*100000000)=true,decide (0≤i)=true,decide (i<(l.length:Int))=true,decide (i.toNat<l.length)=true,inR .i64 (r*100000000+l.getD i.toNat 0)=true,(!decide (n=0))=true,inR .i64 (Int.tdiv (r*100000000+l.getD i.toNat 0) n)=true,decide (i<(m:Int))=true,decide (0+i.toNat*1<a.length)=true,inR .i64 (i-1)=true]:={}
theorem shL_1 (l:List Int) (n r i:Int) (m:Nat) (a:List Int):RndI (dZ Tryz.prog ctr6 bw) 60 (pZ Tryz.prog 175 0) 1 [] [0,1,6,7,8] [0] (SH l n r i m a) [0] [] [1] (Ex.exit 0) (⟨sp 38 [(0,.sq l),(1,aI n),(6,.own 0 0 m 1),(7,aI r),(8,aI i)],[.ints a true],[0]⟩) [decide (i≥0)=false]:={}
theorem sh_0 (l:List Int) (n r i:Int) (m:Nat) (a:List Int):FunI (dZ Tryz.prog ctr6 bw) 60 175 [.sq l,.lit (.int .i64 n)] [] [some (zev Tryz.prog (pZ Tryz.prog 175 0) [] [0,1,6,7,8] [0] (SH l n 0 ((l.length:Int)-1) m (List.replicate m 0)) (.exit 0,SH l n r i m a))] [0,1,2,3,4,5,6,7,8] (.tup [.sq (trm (a.take m)),aI r]) [decide ((l.length:Int)≤(l.length:Int))=true,decide (8*(l.length:Int)≤281474976710656)=true,decide ((l.length:Int)≤9223372036854775807)=true,inR .i64 ((l.length:Int)-1)=true,(⟨sp 38 [(0,.sq l),(1,aI n),(6,.own 0 0 (l.length:Int).toNat 1),(7,aI 0),(8,aI ((l.length:Int)-1))],[.ints (List.replicate (l.length:Int).toNat 0) true],[0]⟩:St)=⟨sp 38 [(0,.sq l),(1,aI n),(6,.own 0 0 m 1),(7,aI 0),(8,aI ((l.length:Int)-1))],[.ints (List.replicate m 0) true],[0]⟩,Loops 1 Tryz.prog (pZ Tryz.prog 175 0) ⟨sp 38 [(0,.sq l),(1,aI n),(6,.own 0 0 m 1),(7,aI 0),(8,aI ((l.length:Int)-1))],[.ints (List.replicate m 0) true],[0]⟩ (Ex.exit 0,⟨sp 38 [(0,.sq l),(1,aI n),(6,.own 0 0 m 1),(7,aI r),(8,aI i)],[.ints a true],[0]⟩),m≤a.length,SZ (a.take m)]:={}
end
theorem tdn {t n:Int} (h:0≤t) (hn:0<n):Int.tdiv t n=t / n∧Int.tmod t n=t % n:=
  ⟨Int.tdiv_eq_ediv_of_nonneg h,Int.tmod_eq_emod_of_nonneg h⟩
theorem zjt (l:List Int) (k:Nat) (v:Int):(l.set k v).drop (k+1)=l.drop (k+1):=by
  apply List.ext_getElem?
  intro i
  rw [List.getElem?_drop,List.getElem?_drop,List.getElem?_set_ne (by omega)]
theorem zbI (l:List Int) (k:Nat) (v:Int) (h:k<l.length):(l.set k v).getD k 0=v:=by simp [List.getD,h]
theorem shortL (l:List Int) (n:Int) (hn:0<n) (hnB:n≤100000000) (hl:Digs l) (hll:l.length≤4194304):∀(k:Nat) (r:Int) (out:List Int),k≤l.length→out.length=l.length→0≤r→r<n→Digs out→vl (out.drop k)*n+r=vl (l.drop k) →
    ∃(r2:Int) (out2:List Int),out2.length=l.length∧0≤r2∧r2<n∧Digs out2∧vl out2*n+r2=vl l ∧
      Loops 1 Tryz.prog (pZ Tryz.prog 175 0) (SH l n r ((k:Int)-1) l.length out) (.exit 0,SH l n r2 (-1) l.length out2)
  | 0,r,out,hk,ho,h0,h1,hd,hv=>by
    rw [List.drop_zero,List.drop_zero] at hv
    exact ⟨r,out,ho,h0,h1,hd,hv,Loops.fin (LS.of ok6 (shL_1 l n r (-1) l.length out) (by(repeat' (first | exact AllC.nil | refine AllC.cons ?_ ?_));all_goals (first | ((with_reducible refine inR64.2 ?_);omega) | (with_reducible refine pFl ?_ ?_<;>omega) | ((with_reducible refine decide_eq_true ?_);omega) | ((with_reducible refine decide_eq_false ?_);omega) | omega | (simp []<;>omega) | assumption | rfl))) (by simp [Ex.toExit])⟩
  | k + 1,r,out,hk,ho,h0,h1,hd,hv=>by
    have hnat:0+Int.toNat (((k+1:Nat):Int)-1)*1=k:=by omega
    have hnat2:Int.toNat (((k+1:Nat):Int)-1)=k:=by omega
    have hx:=MZ hl k
    have hkl:k<l.length:=by omega
    obtain ⟨t1,t2⟩:=tdn (t:=r*100000000+l.getD k 0) (n:=n) (by omega) hn
    have hq0:0≤(r*100000000+l.getD k 0) / n:=Int.ediv_nonneg (by omega) (by omega)
    have hq1:(r*100000000+l.getD k 0) / n<100000000:=Int.ediv_lt_of_lt_mul hn (by omega)
    have hr0:0≤(r*100000000+l.getD k 0) % n:=Int.emod_nonneg _ (by omega)
    have hr1:(r*100000000+l.getD k 0) % n<n:=Int.emod_lt_of_pos _ hn
    have hdm:=Int.mul_ediv_add_emod (r*100000000+l.getD k 0) n
    have hn0:(!decide (n=0))=true:=by simp;omega
    have h:=LS.of ok6 (shL_0 l n r (((k+1:Nat):Int)-1) l.length out) (by
      rw [hnat,hnat2,t1]
      exact(by(repeat' (first | exact AllC.nil | refine AllC.cons ?_ ?_));all_goals (first | ((with_reducible refine inR64.2 ?_);omega) | (with_reducible refine pFl ?_ ?_<;>omega) | ((with_reducible refine decide_eq_true ?_);omega) | ((with_reducible refine decide_eq_false ?_);omega) | omega | (simp [ho]<;>omega) | assumption | rfl)))
    rw [hnat,hnat2,t1,t2] at h
    have e:((k+1:Nat):Int)-1-1=(k:Int)-1:=by omega
    rw [e] at h
    have hv2:vl ((out.set k ((r*100000000+l.getD k 0) / n)).drop k)*n+(r*100000000+l.getD k 0) % n=vl (l.drop k):=by
      rw [zaO (out.set k _) k,zjt,zbI _ _ _ (by omega),zaO l k,← hv,Int.add_mul,Int.mul_assoc]
      rw [Int.mul_comm n] at hdm
      omega
    obtain ⟨r2,out2,k1,k2,k3,k4,k5,k6⟩:=shortL l n hn hnB hl hll k _ _ (by omega) (by simp;omega) hr0 hr1 (zeI hd _ hq0 hq1) hv2
    exact ⟨r2,out2,k1,k2,k3,k4,k5,Loops.go h k6⟩
theorem Rd_lit_eq {E:Env} {a b:Value} {v:Value} (h:a=b) (hr:Rd E (.lit a) v):Rd E (.lit b) v:=h▸hr
def zgk (l:List Int) (n:Int):Prop:=Digs l∧l.length≤4194304∧0<n∧n≤100000000
theorem short_fc (l:List Int) (n:Int) (h:zgk l n):FC Tryz.prog 175 [.sq l,.lit (.int .i64 n)] (.tup [.wd (vl l / n),.lit (.int .i64 (vl l % n))]):=by
  obtain ⟨hl,hll,hn,hnB⟩:=h
  have hz0:Digs (List.replicate l.length 0):=fun d hd=>by
    have:=List.eq_of_mem_replicate hd
    omega
  obtain ⟨r2,out2,k1,k2,k3,k4,k5,k6⟩:=shortL l n hn hnB hl hll l.length 0 (List.replicate l.length 0) (Nat.le_refl _) (by simp) (Int.le_refl _) hn hz0 (by
    rw [List.drop_length,List.drop_eq_nil_of_le (by simp)];simp [vl])
  have e:List.take l.length out2=out2:=by rw [← k1,zaS]
  have:=mZ ok6 (sh_0 l n r2 (-1) l.length out2) (by
    rw [e]
    simp only [Int.toNat_natCast]
    exact(by(repeat' (first | exact AllC.nil | refine AllC.cons ?_ ?_));all_goals (first | ((with_reducible refine inR64.2 ?_);omega) | (with_reducible refine pFl ?_ ?_<;>omega) | ((with_reducible refine decide_eq_true ?_);omega) | ((with_reducible refine decide_eq_false ?_);omega) | omega | (simp [k1,SZ]<;>omega) | assumption | rfl)))
  rw [e] at this
  have hq:vl l / n=vl out2:=by
    rw [← k5,Int.mul_comm,Int.add_comm,Int.add_mul_ediv_left _ _ (by omega),Int.ediv_eq_zero_of_lt k2 k3,Int.zero_add]
  have hr:vl l % n=r2:=by
    rw [← k5,Int.mul_comm,Int.add_comm,Int.add_mul_emod_self_left,Int.emod_eq_of_lt k2 k3]
  have hv0:=LZ k4
  refine this.res fun E v hv=>hv.tup2 (fun u hu=>hu.toWd rfl ?_) (fun u hu=>Rd_lit_eq (by rw [hr]) hu)
  rw [zaT k4,hq]
  congr 1
  omega
def zmf:Ctr:=(175,cLI zgk (fun l n=>.tup [.wd (vl l / n),.lit (.int .i64 (vl l % n))])) :: ctr6
theorem zm2:∀p∈zmf,lZ Tryz.prog p.1 p.2:=CAll.cons (cLI_ok short_fc) zm1
end Go.Proofs.YtloaeinogiplbaaGreatDoor
end
section
open Go Go.Ev
namespace Go.Proofs.YtloaeinogiplbaaGreatDoor
open Go.Proofs
def dmy:za2:=none
abbrev TW (c d:Bool) (a b:Int) (n:Nat) (l:List Int):St:=⟨sp 21 [(0,.own 3 0 n 1)],[.flat [.lit (.bool c),.wd a] true,.flat [.lit (.bool d),.wd b] true,.flat [.lit (.bool false),.lit (.slice none 0 0)] true,.ints l true],[]⟩
abbrev rwL (a f:Int) (n2:Nat) (u out:List Int):List Row:=[.flat [.lit (.bool false),.wd a] true,.flat [.lit (.bool (decide (f<0))),.wd f] true,.flat [.lit (.bool (!(false==decide (f<0)))),.own 3 0 n2 1] true,.dead,.ints [0,0] true,.ints u true,.ints out true]
abbrev LO (a f:Int) (b:Nat) (V:Int) (L J:Nat) (j:Int) (u c:List Int):St:=⟨sp 182 [(6,.lit (.int .i64 f)),(7,.own 5 0 L 1),(8,.wd V),(9,.lit (.int .i64 ((digs V.natAbs).length:Int))),(10,.own 6 0 J 1),(11,.lit (.int .i64 j))],rwL a f b u c,[2,3,4,5,6]⟩
abbrev LSb (a f:Int) (b:Nat) (V:Int) (L J:Nat) (j g c i:Int) (u d:List Int):St:=⟨sp 182 [(6,.lit (.int .i64 f)),(7,.own 5 0 L 1),(8,.wd V),(9,.lit (.int .i64 ((digs V.natAbs).length:Int))),(10,.own 6 0 J 1),(11,.lit (.int .i64 j)),(12,.lit (.int .i64 g)),(13,.lit (.int .i64 c)),(81,.lit (.int .i64 ((digs V.natAbs).length:Int))),(82,.lit (.int .i64 i))],rwL a f b u d,[2,3,4,5,6]⟩
abbrev LC (a f:Int) (b:Nat) (V:Int) (L J:Nat) (j g:Int) (u c:List Int):St:=⟨sp 182 [(6,.lit (.int .i64 f)),(7,.own 5 0 L 1),(8,.wd V),(9,.lit (.int .i64 ((digs V.natAbs).length:Int))),(10,.own 6 0 J 1),(11,.lit (.int .i64 j)),(12,.lit (.int .i64 g))],rwL a f b u c,[2,3,4,5,6]⟩
abbrev LA (a f:Int) (b:Nat) (V:Int) (L J:Nat) (j g c i:Int) (u d:List Int):St:=⟨sp 182 [(6,.lit (.int .i64 f)),(7,.own 5 0 L 1),(8,.wd V),(9,.lit (.int .i64 ((digs V.natAbs).length:Int))),(10,.own 6 0 J 1),(11,.lit (.int .i64 j)),(12,.lit (.int .i64 g)),(13,.lit (.int .i64 c)),(130,.lit (.int .i64 ((digs V.natAbs).length:Int))),(131,.lit (.int .i64 i))],rwL a f b u d,[2,3,4,5,6]⟩
end Go.Proofs.YtloaeinogiplbaaGreatDoor
end
section
open Go Go.Ev Go.RowKit
namespace Go.Proofs.YtloaeinogiplbaaGreatDoor
open Go.Proofs
set_option maxRecDepth 100000
set_option maxHeartbeats 1000000
set_option linter.unusedVariables false
set_option linter.unusedSimpArgs false
noncomputable section
theorem loS_0 (a f:Int) (b:Nat) (V:Int) (L J:Nat) (j g c i:Int) (u d:List Int):RndI (dZ Tryz.prog zmf bw [107,150]) 60 (pZ Tryz.prog 176 1) 7 [] [6,7,8,9,10,11,12,13,81,82] [2,3,4,5,6] (LSb a f b V L J j g c i u d) [1] [] [1,2,3,4,5,6,1,7,8,9,10,11,2,3,4,5,12] (Ex.normal) (⟨sp 182 [(6,aI f),(7,.own 5 0 L 1),(8,.wd V),(9,aI (↑((digs V.natAbs).length):Int)),(10,.own 6 0 J 1),(11,aI j),(12,aI g),(13,aI ((u.getD (0+(i+j).toNat*1) 0-g*(digs V.natAbs).getD i.toNat 0+c) / 100000000)),(81,aI (↑((digs V.natAbs).length):Int)),(82,aI (i+1))],[.flat [aF,.wd a] true,.flat [aD f,.wd f] true,.flat [.lit (.bool (!(false==decide (f<0)))),.own 3 0 b 1] true,.dead,.ints [0,0] true,.ints (u.set (0+(i+j).toNat*1) ((u.getD (0+(i+j).toNat*1) 0-g*(digs V.natAbs).getD i.toNat 0+c) % 100000000)) true,.ints d true],[2,3,4,5,6]⟩) [decide (i<(↑((digs V.natAbs).length):Int))=true,inR .i64 (i+j)=true,decide (0≤i+j)=true,decide (i+j<(L:Int))=true,decide (0+(i+j).toNat*1<u.length)=true,decide (0≤i)=true,decide (i.toNat<(digs V.natAbs).length)=true,inR .i64 (g*(digs V.natAbs).getD i.toNat 0)=true,inR .i64 (u.getD (0+(i+j).toNat*1) 0-g*(digs V.natAbs).getD i.toNat 0)=true,inR .i64 (u.getD (0+(i+j).toNat*1) 0-g*(digs V.natAbs).getD i.toNat 0+c)=true,bZ (u.getD (0+(i+j).toNat*1) 0-g*(digs V.natAbs).getD i.toNat 0+c),inR .i64 (i+1)=true]:={}
theorem loS_1 (a f:Int) (b:Nat) (V:Int) (L J:Nat) (j g c i:Int) (u d:List Int):RndI (dZ Tryz.prog zmf bw [107,150]) 60 (pZ Tryz.prog 176 1) 7 [] [6,7,8,9,10,11,12,13,81,82] [2,3,4,5,6] (LSb a f b V L J j g c i u d) [0] [] [1] (Ex.exit 2) (⟨sp 182 [(6,aI f),(7,.own 5 0 L 1),(8,.wd V),(9,aI (↑((digs V.natAbs).length):Int)),(10,.own 6 0 J 1),(11,aI j),(12,aI g),(13,aI c),(81,aI (↑((digs V.natAbs).length):Int)),(82,aI i)],[.flat [aF,.wd a] true,.flat [aD f,.wd f] true,.flat [.lit (.bool (!(false==decide (f<0)))),.own 3 0 b 1] true,.dead,.ints [0,0] true,.ints u true,.ints d true],[2,3,4,5,6]⟩) [decide (i<(↑((digs V.natAbs).length):Int))=false]:={}
theorem loA_0 (a f:Int) (b:Nat) (V:Int) (L J:Nat) (j g c i:Int) (u d:List Int):RndI (dZ Tryz.prog zmf bw [107,150]) 60 (pZ Tryz.prog 176 3) 7 [] [6,7,8,9,10,11,12,13,130,131] [2,3,4,5,6] (LA a f b V L J j g c i u d) [1] [] [1,2,3,4,5,6,1,7,8,9,10,2,3,4,5,11] (Ex.normal) (⟨sp 182 [(6,aI f),(7,.own 5 0 L 1),(8,.wd V),(9,aI (↑((digs V.natAbs).length):Int)),(10,.own 6 0 J 1),(11,aI j),(12,aI g),(13,aI ((u.getD (0+(i+j).toNat*1) 0+(digs V.natAbs).getD i.toNat 0+c) / 100000000)),(130,aI (↑((digs V.natAbs).length):Int)),(131,aI (i+1))],[.flat [aF,.wd a] true,.flat [aD f,.wd f] true,.flat [.lit (.bool (!(false==decide (f<0)))),.own 3 0 b 1] true,.dead,.ints [0,0] true,.ints (u.set (0+(i+j).toNat*1) ((u.getD (0+(i+j).toNat*1) 0+(digs V.natAbs).getD i.toNat 0+c) % 100000000)) true,.ints d true],[2,3,4,5,6]⟩) [decide (i<(↑((digs V.natAbs).length):Int))=true,inR .i64 (i+j)=true,decide (0≤i+j)=true,decide (i+j<(L:Int))=true,decide (0+(i+j).toNat*1<u.length)=true,decide (0≤i)=true,decide (i.toNat<(digs V.natAbs).length)=true,inR .i64 (u.getD (0+(i+j).toNat*1) 0+(digs V.natAbs).getD i.toNat 0)=true,inR .i64 (u.getD (0+(i+j).toNat*1) 0+(digs V.natAbs).getD i.toNat 0+c)=true,bZ (u.getD (0+(i+j).toNat*1) 0+(digs V.natAbs).getD i.toNat 0+c),inR .i64 (i+1)=true]:={}
theorem loA_1 (a f:Int) (b:Nat) (V:Int) (L J:Nat) (j g c i:Int) (u d:List Int):RndI (dZ Tryz.prog zmf bw [107,150]) 60 (pZ Tryz.prog 176 3) 7 [] [6,7,8,9,10,11,12,13,130,131] [2,3,4,5,6] (LA a f b V L J j g c i u d) [0] [] [1] (Ex.exit 6) (⟨sp 182 [(6,aI f),(7,.own 5 0 L 1),(8,.wd V),(9,aI (↑((digs V.natAbs).length):Int)),(10,.own 6 0 J 1),(11,aI j),(12,aI g),(13,aI c),(130,aI (↑((digs V.natAbs).length):Int)),(131,aI i)],[.flat [aF,.wd a] true,.flat [aD f,.wd f] true,.flat [.lit (.bool (!(false==decide (f<0)))),.own 3 0 b 1] true,.dead,.ints [0,0] true,.ints u true,.ints d true],[2,3,4,5,6]⟩) [decide (i<(↑((digs V.natAbs).length):Int))=false]:={}
theorem loC_0 (a f:Int) (b:Nat) (V:Int) (L J:Nat) (j g c i:Int) (u d e:List Int):RndI (dZ Tryz.prog zmf bw [107,150]) 60 (pZ Tryz.prog 176 2) 7 [] [6,7,8,9,10,11,12] [2,3,4,5,6] (LC a f b V L J j g u e) [1] [some (zev Tryz.prog (pZ Tryz.prog 176 3) [] [6,7,8,9,10,11,12,13,130,131] [2,3,4,5,6] (LA a f b V L J j (g-1) 0 0 u e) (.exit 6,LA a f b V L J j (g-1) c i d e))] [1,2,3,4,5,6,0,7,1,2,3,8,9,2,3,8] (Ex.normal) (⟨sp 182 [(6,aI f),(7,.own 5 0 L 1),(8,.wd V),(9,aI (↑((digs V.natAbs).length):Int)),(10,.own 6 0 J 1),(11,aI j),(12,aI (g-1))],[.flat [aF,.wd a] true,.flat [aD f,.wd f] true,.flat [.lit (.bool (!(false==decide (f<0)))),.own 3 0 b 1] true,.dead,.ints [0,0] true,.ints (d.set (0+(j+(↑((digs V.natAbs).length):Int)).toNat*1) (d.getD (0+(j+(↑((digs V.natAbs).length):Int)).toNat*1) 0+c)) true,.ints e true],[2,3,4,5,6]⟩) [inR .i64 (j+(↑((digs V.natAbs).length):Int))=true,decide (0≤j+(↑((digs V.natAbs).length):Int))=true,decide (j+(↑((digs V.natAbs).length):Int)<(L:Int))=true,decide (0+(j+(↑((digs V.natAbs).length):Int)).toNat*1<u.length)=true,decide (u.getD (0+(j+(↑((digs V.natAbs).length):Int)).toNat*1) 0<0)=true,inR .i64 (g-1)=true,Loops 7 Tryz.prog (pZ Tryz.prog 176 3) ⟨sp 182 [(6,aI f),(7,.own 5 0 L 1),(8,.wd V),(9,aI (↑((digs V.natAbs).length):Int)),(10,.own 6 0 J 1),(11,aI j),(12,aI (g-1)),(13,aI 0),(130,aI (↑((digs V.natAbs).length):Int)),(131,aI 0)],[.flat [aF,.wd a] true,.flat [aD f,.wd f] true,.flat [.lit (.bool (!(false==decide (f<0)))),.own 3 0 b 1] true,.dead,.ints [0,0] true,.ints u true,.ints e true],[2,3,4,5,6]⟩ (Ex.exit 6,⟨sp 182 [(6,aI f),(7,.own 5 0 L 1),(8,.wd V),(9,aI (↑((digs V.natAbs).length):Int)),(10,.own 6 0 J 1),(11,aI j),(12,aI (g-1)),(13,aI c),(130,aI (↑((digs V.natAbs).length):Int)),(131,aI i)],[.flat [aF,.wd a] true,.flat [aD f,.wd f] true,.flat [.lit (.bool (!(false==decide (f<0)))),.own 3 0 b 1] true,.dead,.ints [0,0] true,.ints d true,.ints e true],[2,3,4,5,6]⟩),decide (0+(j+(↑((digs V.natAbs).length):Int)).toNat*1<d.length)=true,inR .i64 (d.getD (0+(j+(↑((digs V.natAbs).length):Int)).toNat*1) 0+c)=true]:={}
theorem loD_0 (a f:Int) (b:Nat) (V:Int) (L J:Nat) (j g:Int) (u c:List Int):RndI (dZ Tryz.prog zmf bw [107,150]) 60 (pZ Tryz.prog 176 2) 7 [] [6,7,8,9,10,11,12] [2,3,4,5,6] (LC a f b V L J j g u c) [0] [] [1,2,3,4,5] (Ex.exit 4) (⟨sp 182 [(6,aI f),(7,.own 5 0 L 1),(8,.wd V),(9,aI (↑((digs V.natAbs).length):Int)),(10,.own 6 0 J 1),(11,aI j),(12,aI g)],[.flat [aF,.wd a] true,.flat [aD f,.wd f] true,.flat [.lit (.bool (!(false==decide (f<0)))),.own 3 0 b 1] true,.dead,.ints [0,0] true,.ints u true,.ints c true],[2,3,4,5,6]⟩) [inR .i64 (j+(↑((digs V.natAbs).length):Int))=true,decide (0≤j+(↑((digs V.natAbs).length):Int))=true,decide (j+(↑((digs V.natAbs).length):Int)<(L:Int))=true,decide (0+(j+(↑((digs V.natAbs).length):Int)).toNat*1<u.length)=true,decide (u.getD (0+(j+(↑((digs V.natAbs).length):Int)).toNat*1) 0<0)=false]:={}
theorem loM_0 (a f:Int) (b:Nat) (V:Int) (L J:Nat) (j g d c i:Int) (u e l m:List Int):RndI (dZ Tryz.prog zmf bw [107,150]) 60 (pZ Tryz.prog 176 0) 7 [] [6,7,8,9,10,11] [2,3,4,5,6] (LO a f b V L J j u m) [1] [some (zev Tryz.prog (pZ Tryz.prog 176 1) [] [6,7,8,9,10,11,12,13,81,82] [2,3,4,5,6] (LSb a f b V L J j g 0 0 u m) (.exit 2,LSb a f b V L J j g c i e m)),some (zev Tryz.prog (pZ Tryz.prog 176 2) [] [6,7,8,9,10,11,12] [2,3,4,5,6] (LC a f b V L J j g (e.set (j.toNat+(digs V.natAbs).length) (e.getD (j.toNat+(digs V.natAbs).length) 0+c)) m) (.exit 4,LC a f b V L J j d l m))] [1,2,3,4,5,6,2,7,8,9,10,11,12,13,14,15,16,17,18,19,2,3,4,20,21,3,4,20,22,23,24,25,26,27] (Ex.normal) (⟨sp 182 [(6,aI f),(7,.own 5 0 L 1),(8,.wd V),(9,aI (↑((digs V.natAbs).length):Int)),(10,.own 6 0 J 1),(11,aI (j-1))],[.flat [aF,.wd a] true,.flat [aD f,.wd f] true,.flat [.lit (.bool (!(false==decide (f<0)))),.own 3 0 b 1] true,.dead,.ints [0,0] true,.ints l true,.ints (m.set (0+j.toNat*1) d) true],[2,3,4,5,6]⟩) [decide (j≥0)=true,inR .i64 (j+(↑((digs V.natAbs).length):Int))=true,decide (0≤j+(↑((digs V.natAbs).length):Int))=true,decide (j+(↑((digs V.natAbs).length):Int)<(L:Int))=true,decide (0+(j+(↑((digs V.natAbs).length):Int)).toNat*1<u.length)=true,inR .i64 (u.getD (0+(j+(↑((digs V.natAbs).length):Int)).toNat*1) 0*100000000)=true,inR .i64 (j+(↑((digs V.natAbs).length):Int)-1)=true,decide (0≤j+(↑((digs V.natAbs).length):Int)-1)=true,decide (j+(↑((digs V.natAbs).length):Int)-1<(L:Int))=true,decide (0+(j+(↑((digs V.natAbs).length):Int)-1).toNat*1<u.length)=true,inR .i64 (u.getD (0+(j+(↑((digs V.natAbs).length):Int)).toNat*1) 0*100000000+u.getD (0+(j+(↑((digs V.natAbs).length):Int)-1).toNat*1) 0)=true,inR .i64 ((↑((digs V.natAbs).length):Int)-1)=true,decide (0≤(↑((digs V.natAbs).length):Int)-1)=true,decide ((↑((digs V.natAbs).length):Int)-1<(↑((digs V.natAbs).length):Int))=true,decide (((↑((digs V.natAbs).length):Int)-1).toNat<(digs V.natAbs).length)=true,(!decide ((digs V.natAbs).getD ((↑((digs V.natAbs).length):Int)-1).toNat 0=0))=true,inR .i64 (Int.tdiv (u.getD (0+(j+(↑((digs V.natAbs).length):Int)).toNat*1) 0*100000000+u.getD (0+(j+(↑((digs V.natAbs).length):Int)-1).toNat*1) 0) ((digs V.natAbs).getD ((↑((digs V.natAbs).length):Int)-1).toNat 0))=true,(⟨sp 182 [(6,aI f),(7,.own 5 0 L 1),(8,.wd V),(9,aI (↑((digs V.natAbs).length):Int)),(10,.own 6 0 J 1),(11,aI j),(12,aI (if 99999999<Int.tdiv (u.getD (0+(j+(↑((digs V.natAbs).length):Int)).toNat*1) 0*100000000+u.getD (0+(j+(↑((digs V.natAbs).length):Int)-1).toNat*1) 0) ((digs V.natAbs).getD ((↑((digs V.natAbs).length):Int)-1).toNat 0) then 99999999 else Int.tdiv (u.getD (0+(j+(↑((digs V.natAbs).length):Int)).toNat*1) 0*100000000+u.getD (0+(j+(↑((digs V.natAbs).length):Int)-1).toNat*1) 0) ((digs V.natAbs).getD ((↑((digs V.natAbs).length):Int)-1).toNat 0))),(13,aI 0),(81,aI (↑((digs V.natAbs).length):Int)),(82,aI 0)],[.flat [aF,.wd a] true,.flat [aD f,.wd f] true,.flat [.lit (.bool (!(false==decide (f<0)))),.own 3 0 b 1] true,.dead,.ints [0,0] true,.ints u true,.ints m true],[2,3,4,5,6]⟩:St)=⟨sp 182 [(6,aI f),(7,.own 5 0 L 1),(8,.wd V),(9,aI (↑((digs V.natAbs).length):Int)),(10,.own 6 0 J 1),(11,aI j),(12,aI g),(13,aI 0),(81,aI (↑((digs V.natAbs).length):Int)),(82,aI 0)],[.flat [aF,.wd a] true,.flat [aD f,.wd f] true,.flat [.lit (.bool (!(false==decide (f<0)))),.own 3 0 b 1] true,.dead,.ints [0,0] true,.ints u true,.ints m true],[2,3,4,5,6]⟩,Loops 7 Tryz.prog (pZ Tryz.prog 176 1) ⟨sp 182 [(6,aI f),(7,.own 5 0 L 1),(8,.wd V),(9,aI (↑((digs V.natAbs).length):Int)),(10,.own 6 0 J 1),(11,aI j),(12,aI g),(13,aI 0),(81,aI (↑((digs V.natAbs).length):Int)),(82,aI 0)],[.flat [aF,.wd a] true,.flat [aD f,.wd f] true,.flat [.lit (.bool (!(false==decide (f<0)))),.own 3 0 b 1] true,.dead,.ints [0,0] true,.ints u true,.ints m true],[2,3,4,5,6]⟩ (Ex.exit 2,⟨sp 182 [(6,aI f),(7,.own 5 0 L 1),(8,.wd V),(9,aI (↑((digs V.natAbs).length):Int)),(10,.own 6 0 J 1),(11,aI j),(12,aI g),(13,aI c),(81,aI (↑((digs V.natAbs).length):Int)),(82,aI i)],[.flat [aF,.wd a] true,.flat [aD f,.wd f] true,.flat [.lit (.bool (!(false==decide (f<0)))),.own 3 0 b 1] true,.dead,.ints [0,0] true,.ints e true,.ints m true],[2,3,4,5,6]⟩),decide (0+(j+(↑((digs V.natAbs).length):Int)).toNat*1<e.length)=true,inR .i64 (e.getD (0+(j+(↑((digs V.natAbs).length):Int)).toNat*1) 0+c)=true,(⟨sp 182 [(6,aI f),(7,.own 5 0 L 1),(8,.wd V),(9,aI (↑((digs V.natAbs).length):Int)),(10,.own 6 0 J 1),(11,aI j),(12,aI g)],[.flat [aF,.wd a] true,.flat [aD f,.wd f] true,.flat [.lit (.bool (!(false==decide (f<0)))),.own 3 0 b 1] true,.dead,.ints [0,0] true,.ints (e.set (0+(j+(↑((digs V.natAbs).length):Int)).toNat*1) (e.getD (0+(j+(↑((digs V.natAbs).length):Int)).toNat*1) 0+c)) true,.ints m true],[2,3,4,5,6]⟩:St)=⟨sp 182 [(6,aI f),(7,.own 5 0 L 1),(8,.wd V),(9,aI (↑((digs V.natAbs).length):Int)),(10,.own 6 0 J 1),(11,aI j),(12,aI g)],[.flat [aF,.wd a] true,.flat [aD f,.wd f] true,.flat [.lit (.bool (!(false==decide (f<0)))),.own 3 0 b 1] true,.dead,.ints [0,0] true,.ints (e.set (j.toNat+(digs V.natAbs).length) (e.getD (j.toNat+(digs V.natAbs).length) 0+c)) true,.ints m true],[2,3,4,5,6]⟩,Loops 7 Tryz.prog (pZ Tryz.prog 176 2) ⟨sp 182 [(6,aI f),(7,.own 5 0 L 1),(8,.wd V),(9,aI (↑((digs V.natAbs).length):Int)),(10,.own 6 0 J 1),(11,aI j),(12,aI g)],[.flat [aF,.wd a] true,.flat [aD f,.wd f] true,.flat [.lit (.bool (!(false==decide (f<0)))),.own 3 0 b 1] true,.dead,.ints [0,0] true,.ints (e.set (j.toNat+(digs V.natAbs).length) (e.getD (j.toNat+(digs V.natAbs).length) 0+c)) true,.ints m true],[2,3,4,5,6]⟩ (Ex.exit 4,⟨sp 182 [(6,aI f),(7,.own 5 0 L 1),(8,.wd V),(9,aI (↑((digs V.natAbs).length):Int)),(10,.own 6 0 J 1),(11,aI j),(12,aI d)],[.flat [aF,.wd a] true,.flat [aD f,.wd f] true,.flat [.lit (.bool (!(false==decide (f<0)))),.own 3 0 b 1] true,.dead,.ints [0,0] true,.ints l true,.ints m true],[2,3,4,5,6]⟩),decide (0≤j)=true,decide (j<(J:Int))=true,decide (0+j.toNat*1<m.length)=true,inR .i64 (j-1)=true]:={}
theorem loX_0 (a f:Int) (b:Nat) (V:Int) (L J:Nat) (j:Int) (u c:List Int):RndI (dZ Tryz.prog zmf bw [107,150]) 60 (pZ Tryz.prog 176 0) 7 [] [6,7,8,9,10,11] [2,3,4,5,6] (LO a f b V L J j u c) [0] [] [1] (Ex.exit 0) (⟨sp 182 [(6,aI f),(7,.own 5 0 L 1),(8,.wd V),(9,aI (↑((digs V.natAbs).length):Int)),(10,.own 6 0 J 1),(11,aI j)],[.flat [aF,.wd a] true,.flat [aD f,.wd f] true,.flat [.lit (.bool (!(false==decide (f<0)))),.own 3 0 b 1] true,.dead,.ints [0,0] true,.ints u true,.ints c true],[2,3,4,5,6]⟩) [decide (j≥0)=false]:={}
end
theorem pFl {n:Int} (h1:-9223372036854775808≤n) (h2:n≤9223372036854775807):bZ n:=⟨h1,h2⟩
theorem zoF:(dZ Tryz.prog zmf bw [107,150]).OK:=QZ zm2
def Dg (u:List Int) (p:Nat):Prop:=∀q,q≠p→0≤u.getD q 0∧u.getD q 0<100000000
theorem Dg.of {u:List Int} (h:Digs u) (p:Nat):Dg u p:=fun q _=>MZ h q
theorem Dg.digs {u:List Int} {p:Nat} (h:Dg u p) (h0:0≤u.getD p 0) (h1:u.getD p 0<100000000):Digs u:=by
  intro d hd
  obtain ⟨q,hq,rfl⟩:=List.getElem_of_mem hd
  have e:u.getD q 0=u[q]:=by simp [List.getD,hq]
  by_cases hp:q=p
  · subst hp;rw [← e];exact ⟨h0,h1⟩
  · rw [← e];exact h q hp
theorem getD_set (u:List Int) (i q:Nat) (v:Int) (h:i<u.length):(u.set i v).getD q 0=if q=i then v else u.getD q 0:=by
  by_cases hq:q=i
  · subst hq;rw [if_pos rfl];exact zbI _ _ _ h
  · rw [if_neg hq];exact getD_set_ne _ _ _ _ hq
theorem Dg.set {u:List Int} {p:Nat} (h:Dg u p) (i:Nat) {v:Int} (hi:i<u.length) (h0:0≤v) (h1:v<100000000):Dg (u.set i v) p:=by
  intro q hq
  rw [getD_set _ _ _ _ hi]
  split
  · exact ⟨h0,h1⟩
  · exact h q hq
theorem Dg.top {u:List Int} {p:Nat} (h:Dg u p) (v:Int):Dg (u.set p v) p:=by
  intro q hq
  rw [getD_set_ne _ _ _ _ hq]
  exact h q hq
theorem zmM {u u':List Int} {j:Nat} (hl:u'.length=u.length) (h:∀p,p<j→u'.getD p 0=u.getD p 0):u'.take j=u.take j:=by
  apply List.ext_getElem
  · simp [hl]
  · intro i h1 h2
    simp only [List.length_take] at h1
    have:=h i (by omega)
    have e1:u'.getD i 0=u'[i]:=by simp [List.getD,show i<u'.length by omega]
    have e2:u.getD i 0=u[i]:=by simp [List.getD,show i<u.length by omega]
    rw [List.getElem_take,List.getElem_take,← e1,← e2,this]
theorem drop_eq {u u':List Int} {j:Nat} (hl:u'.length=u.length) (h:∀p,j≤p→u'.getD p 0=u.getD p 0):u'.drop j=u.drop j:=by
  apply List.ext_getElem
  · simp [hl]
  · intro i h1 h2
    simp only [List.length_drop] at h1
    have:=h (j+i) (by omega)
    have e1:u'.getD (j+i) 0=u'[j+i]'(by omega):=by simp [List.getD,show j+i<u'.length by omega]
    have e2:u.getD (j+i) 0=u[j+i]'(by omega):=by simp [List.getD,show j+i<u.length by omega]
    rw [List.getElem_drop,List.getElem_drop,← e1,← e2,this]
theorem zdq (u:List Int) (j:Nat) (h:j≤u.length):vl u=vl (u.take j)+100000000 ^ j*vl (u.drop j):=by
  have:=zba (u.take j) (u.drop j)
  rw [List.take_append_drop,List.length_take,Nat.min_eq_left h] at this
  exact this
theorem zh6 (u:List Int) (j n:Nat) (h:j+n≤u.length):vl (u.drop j)=vl ((u.drop j).take n)+100000000 ^ n*vl (u.drop (j+n)):=by
  have:=zdq (u.drop j) n (by simp;omega)
  rw [List.drop_drop] at this
  exact this
theorem ziF {j:Nat} {a b:Int} (h:100000000 ^ j*a=100000000 ^ j*b):a=b:=
  Int.eq_of_mul_eq_mul_left (Int.ne_of_gt (pow_pos j)) h
theorem subL (a f:Int) (n2:Nat) (V:Int) (L J j:Nat) (g:Int) (out:List Int) (hL:L≤4194304) (hj:j+(digs V.natAbs).length<L) (hg0:0≤g) (hg1:g<100000000) :
    ∀(r i:Nat) (u:List Int) (c:Int),i+r=(digs V.natAbs).length→Digs u→u.length=L→-100000000≤c→c≤0 →
    ∃(u2:List Int) (c2:Int),Digs u2∧u2.length=L∧-100000000≤c2∧c2≤0∧vl u2+100000000 ^ (j+(digs V.natAbs).length)*c2=vl u+100000000 ^ (j+i)*(c-g*vl ((digs V.natAbs).drop i)) ∧
      (∀p,j+(digs V.natAbs).length≤p→u2.getD p 0=u.getD p 0)∧(∀p,p<j→u2.getD p 0=u.getD p 0) ∧
      Loops 7 Tryz.prog (pZ Tryz.prog 176 1) (LSb a f n2 V L J j g c i u out) (.exit 2,LSb a f n2 V L J j g c2 ((digs V.natAbs).length:Int) u2 out)
  | 0,i,u,c,hi,hd,hl,hc0,hc1=>by
    obtain rfl:i=(digs V.natAbs).length:=by omega
    refine ⟨u,c,hd,hl,hc0,hc1,?_,fun _ _=>rfl,fun _ _=>rfl,Loops.fin (LS.of zoF (loS_1 a f n2 V L J j g c ((digs V.natAbs).length:Int) u out) (by(repeat' (first | exact AllC.nil | refine AllC.cons ?_ ?_));all_goals (first | ((with_reducible refine inR64.2 ?_);omega) | (with_reducible refine pFl ?_ ?_<;>omega) | ((with_reducible refine decide_eq_true ?_);omega) | ((with_reducible refine decide_eq_false ?_);omega) | omega | (simp []<;>omega) | assumption | rfl))) (by simp [Ex.toExit])⟩
    rw [List.drop_length];simp [vl]
  | r + 1,i,u,c,hi,hd,hl,hc0,hc1=>by
    have hnat:0+Int.toNat ((i:Int)+(j:Int))*1=j+i:=by omega
    have hin:Int.toNat (i:Int)=i:=by omega
    have hib:i<(digs V.natAbs).length:=by omega
    obtain ⟨hy0,hy1⟩:=MZ (rZ V.natAbs) i
    obtain ⟨hx0,hx1⟩:=MZ hd (j+i)
    obtain ⟨hm0,hm1⟩:=mul_dig hg0 hg1 hy0 hy1
    have hdr:=zaO (digs V.natAbs) i
    have e2:∀t,t=u.getD (j+i) 0-g*(digs V.natAbs).getD i 0+c →
        c-g*((digs V.natAbs).getD i 0+100000000*vl ((digs V.natAbs).drop (i+1)))=(t % 100000000-u.getD (j+i) 0)+100000000*(t / 100000000-g*vl ((digs V.natAbs).drop (i+1))):=by
      intro t ht
      rw [Int.mul_add g,Int.mul_left_comm g 100000000]
      generalize g*(digs V.natAbs).getD i 0=m at *
      omega
    generalize hm:g*(digs V.natAbs).getD i 0=m at *
    have h:=LS.of zoF (loS_0 a f n2 V L J j g c i u out) (by
      rw [hnat,hin,hm]
      exact(by(repeat' (first | exact AllC.nil | refine AllC.cons ?_ ?_));all_goals (first | ((with_reducible refine inR64.2 ?_);omega) | (with_reducible refine pFl ?_ ?_<;>omega) | ((with_reducible refine decide_eq_true ?_);omega) | ((with_reducible refine decide_eq_false ?_);omega) | omega | (simp [hib,hl,bZ]<;>omega) | assumption | rfl)))
    rw [hnat,hin,hm] at h
    have hv:=zgp u (j+i) ((u.getD (j+i) 0-m+c) % 100000000) (by omega)
    have hD:Digs (u.set (j+i) ((u.getD (j+i) 0-m+c) % 100000000)):=zeI hd _ (by omega) (by omega)
    obtain ⟨u2,c2,k1,k2,k3,k4,k5,k6,k7,k8⟩:=subL a f n2 V L J j g out hL hj hg0 hg1 r (i+1) (u.set (j+i) ((u.getD (j+i) 0-m+c) % 100000000)) ((u.getD (j+i) 0-m+c) / 100000000)
      (by omega) hD (by simp;omega) (by omega) (by omega)
    have e:((i+1:Nat):Int)=(i:Int)+1:=by omega
    rw [e] at k8
    refine ⟨u2,c2,k1,k2,k3,k4,?_,fun p hp=>(k6 p hp).trans (getD_set_ne _ _ _ _ (by omega)),fun p hp=>(k7 p hp).trans (getD_set_ne _ _ _ _ (by omega)),Loops.go h k8⟩
    rw [k5,hv,hdr,← Nat.add_assoc,Int.pow_succ,e2 _ rfl,alg1,Int.add_assoc]
theorem addL (a f:Int) (n2:Nat) (V:Int) (L J j:Nat) (g:Int) (out:List Int) (hL:L≤4194304) (hj:j+(digs V.natAbs).length<L) :
    ∀(r i:Nat) (u:List Int) (c:Int),i+r=(digs V.natAbs).length→Dg u (j+(digs V.natAbs).length)→u.length=L→(c=0∨c=1) →
    ∃(u2:List Int) (c2:Int),Dg u2 (j+(digs V.natAbs).length)∧u2.length=L∧(c2=0∨c2=1)∧vl u2+100000000 ^ (j+(digs V.natAbs).length)*c2=vl u+100000000 ^ (j+i)*(c+vl ((digs V.natAbs).drop i)) ∧
      (∀p,j+(digs V.natAbs).length≤p→u2.getD p 0=u.getD p 0)∧(∀p,p<j→u2.getD p 0=u.getD p 0) ∧
      Loops 7 Tryz.prog (pZ Tryz.prog 176 3) (LA a f n2 V L J j g c i u out) (.exit 6,LA a f n2 V L J j g c2 ((digs V.natAbs).length:Int) u2 out)
  | 0,i,u,c,hi,hd,hl,hc=>by
    obtain rfl:i=(digs V.natAbs).length:=by omega
    refine ⟨u,c,hd,hl,hc,?_,fun _ _=>rfl,fun _ _=>rfl,Loops.fin (LS.of zoF (loA_1 a f n2 V L J j g c ((digs V.natAbs).length:Int) u out) (by(repeat' (first | exact AllC.nil | refine AllC.cons ?_ ?_));all_goals (first | ((with_reducible refine inR64.2 ?_);omega) | (with_reducible refine pFl ?_ ?_<;>omega) | ((with_reducible refine decide_eq_true ?_);omega) | ((with_reducible refine decide_eq_false ?_);omega) | omega | (simp []<;>omega) | assumption | rfl))) (by simp [Ex.toExit])⟩
    rw [List.drop_length];simp [vl]
  | r + 1,i,u,c,hi,hd,hl,hc=>by
    have hnat:0+Int.toNat ((i:Int)+(j:Int))*1=j+i:=by omega
    have hin:Int.toNat (i:Int)=i:=by omega
    have hib:i<(digs V.natAbs).length:=by omega
    obtain ⟨hy0,hy1⟩:=MZ (rZ V.natAbs) i
    obtain ⟨hx0,hx1⟩:=hd (j+i) (by omega)
    have hdr:=zaO (digs V.natAbs) i
    have h:=LS.of zoF (loA_0 a f n2 V L J j g c i u out) (by
      rw [hnat,hin]
      exact(by(repeat' (first | exact AllC.nil | refine AllC.cons ?_ ?_));all_goals (first | ((with_reducible refine inR64.2 ?_);omega) | (with_reducible refine pFl ?_ ?_<;>omega) | ((with_reducible refine decide_eq_true ?_);omega) | ((with_reducible refine decide_eq_false ?_);omega) | omega | (simp [hib,hl,bZ]<;>omega) | assumption | rfl)))
    rw [hnat,hin] at h
    have hv:=zgp u (j+i) ((u.getD (j+i) 0+(digs V.natAbs).getD i 0+c) % 100000000) (by omega)
    have hD:Dg (u.set (j+i) ((u.getD (j+i) 0+(digs V.natAbs).getD i 0+c) % 100000000)) (j+(digs V.natAbs).length):=hd.set _ (by omega) (by omega) (by omega)
    obtain ⟨u2,c2,k1,k2,k3,k5,k6,k7,k8⟩:=addL a f n2 V L J j g out hL hj r (i+1) (u.set (j+i) ((u.getD (j+i) 0+(digs V.natAbs).getD i 0+c) % 100000000)) ((u.getD (j+i) 0+(digs V.natAbs).getD i 0+c) / 100000000)
      (by omega) hD (by simp;omega) (by omega)
    have e:((i+1:Nat):Int)=(i:Int)+1:=by omega
    rw [e] at k8
    refine ⟨u2,c2,k1,k2,k3,?_,fun p hp=>(k6 p hp).trans (getD_set_ne _ _ _ _ (by omega)),fun p hp=>(k7 p hp).trans (getD_set_ne _ _ _ _ (by omega)),Loops.go h k8⟩
    rw [k5,hv,hdr,← Nat.add_assoc,Int.pow_succ]
    have e2:c+((digs V.natAbs).getD i 0+100000000*vl ((digs V.natAbs).drop (i+1)))=((u.getD (j+i) 0+(digs V.natAbs).getD i 0+c) % 100000000-u.getD (j+i) 0)+100000000*((u.getD (j+i) 0+(digs V.natAbs).getD i 0+c) / 100000000+vl ((digs V.natAbs).drop (i+1))):=by omega
    rw [e2,alg1,Int.add_assoc]
theorem zde {n:Nat} {t:Int} (h:1≤t):(100000000:Int) ^ n≤100000000 ^ n*t:=by
  have:=Int.mul_le_mul_of_nonneg_left h (znC n)
  rwa [Int.mul_one] at this
theorem ze1 {n:Nat} {t:Int} (h:t≤-1):(100000000:Int) ^ n*t≤- 100000000 ^ n:=by
  have:=Int.mul_le_mul_of_nonneg_left h (znC n)
  rw [Int.mul_neg,Int.mul_one] at this
  exact this
theorem zhw (V:Int):(V.natAbs:Int)<100000000 ^ (digs V.natAbs).length:=by
  have:=zf4 (rZ V.natAbs)
  rwa [zap] at this
theorem window {u:List Int} {j n:Nat} (h:j+n<u.length) (hd:Dg u (j+n)) (hz:vl (u.drop (j+n+1))=0) :
    ∃low,0≤low∧low<100000000 ^ n∧vl (u.drop j)=low+100000000 ^ n*u.getD (j+n) 0:=by
  have hD:Digs ((u.drop j).take n):=by
    intro d hd'
    obtain ⟨q,hq,rfl⟩:=List.getElem_of_mem hd'
    simp only [List.length_take,List.length_drop] at hq
    have hq2:j+q<u.length:=by omega
    rw [List.getElem_take,List.getElem_drop]
    have:=hd (j+q) (by omega)
    simpa [List.getD,hq2] using this
  refine ⟨vl ((u.drop j).take n),LZ hD,?_,?_⟩
  · have:=zf4 hD
    have hl:((u.drop j).take n).length=n:=by simp;omega
    rwa [hl] at this
  · rw [zh6 u j n (by omega),zaO u (j+n),hz,Int.mul_zero,Int.add_zero]
theorem corL (a f:Int) (n2:Nat) (V:Int) (L J j:Nat) (out:List Int) (hL:L≤4194304) (hj:j+(digs V.natAbs).length<L) (U:Int) (hU:0≤U) :
    ∀(k:Nat) (g:Int) (u:List Int),g≤k→0≤g→g<100000000→Dg u (j+(digs V.natAbs).length)→u.length=L→vl (u.drop (j+(digs V.natAbs).length+1))=0 →
      vl (u.drop j)=U-g*(V.natAbs:Int)→U<(g+1)*(V.natAbs:Int)→-100000000≤u.getD (j+(digs V.natAbs).length) 0→u.getD (j+(digs V.natAbs).length) 0≤100000000 →
    ∃(g2:Int) (u2:List Int),0≤g2∧g2<100000000∧Digs u2∧u2.length=L∧(∀q,q<j→u2.getD q 0=u.getD q 0)∧vl (u2.drop j)=U-g2*(V.natAbs:Int)∧vl (u2.drop j)<(V.natAbs:Int) ∧
      Loops 7 Tryz.prog (pZ Tryz.prog 176 2) (LC a f n2 V L J j g u out) (.exit 4,LC a f n2 V L J j g2 u2 out):=by
  intro k
  induction k with
  | zero =>
    intro g u hgk hg0 hg1 hd hl hz hH hUg hb1 hb2
    obtain rfl:g=0:=by omega
    obtain ⟨low,hl0,hl1,hw⟩:=window (by omega) hd hz
    have hnat:0+Int.toNat ((j:Int)+((digs V.natAbs).length:Int))*1=j+(digs V.natAbs).length:=by omega
    have hVB:=zhw V
    rw [Int.zero_mul,Int.sub_zero] at hH
    have htop:u.getD (j+(digs V.natAbs).length) 0=0:=by
      rcases Int.lt_or_le (u.getD (j+(digs V.natAbs).length) 0) 0 with h | h
      · have:=ze1 (n:=(digs V.natAbs).length) (show u.getD (j+(digs V.natAbs).length) 0≤-1 by omega)
        omega
      · rcases Int.lt_or_le 0 (u.getD (j+(digs V.natAbs).length) 0) with h2 | h2
        · have:=zde (n:=(digs V.natAbs).length) (show 1≤u.getD (j+(digs V.natAbs).length) 0 by omega)
          omega
        · omega
    have h:=LS.of zoF (loD_0 a f n2 V L J j 0 u out) (by
      rw [hnat]
      exact(by(repeat' (first | exact AllC.nil | refine AllC.cons ?_ ?_));all_goals (first | ((with_reducible refine inR64.2 ?_);omega) | (with_reducible refine pFl ?_ ?_<;>omega) | ((with_reducible refine decide_eq_true ?_);omega) | ((with_reducible refine decide_eq_false ?_);omega) | omega | (simp [hl]<;>omega) | assumption | rfl)))
    refine ⟨0,u,by omega,by omega,hd.digs (by omega) (by omega),hl,fun _ _=>rfl,by rw [hH];omega,by omega,Loops.fin h (by simp [Ex.toExit])⟩
  | succ k ih=>
    intro g u hgk hg0 hg1 hd hl hz hH hUg hb1 hb2
    obtain ⟨low,hl0,hl1,hw⟩:=window (by omega) hd hz
    have hnat:0+Int.toNat ((j:Int)+((digs V.natAbs).length:Int))*1=j+(digs V.natAbs).length:=by omega
    have hVB:=zhw V
    have hexp:(g+1)*(V.natAbs:Int)=g*(V.natAbs:Int)+(V.natAbs:Int):=by rw [Int.add_mul,Int.one_mul]
    have hgV:0≤g*(V.natAbs:Int):=Int.mul_nonneg hg0 (by omega)
    rcases Int.lt_or_le (u.getD (j+(digs V.natAbs).length) 0) 0 with hneg | hpos
    · have hn:=ze1 (n:=(digs V.natAbs).length) (show u.getD (j+(digs V.natAbs).length) 0≤-1 by omega)
      have hg1':1≤g:=by
        rcases Int.lt_or_le g 1 with h | h
        · have:g=0:=by omega
          subst this
          rw [Int.zero_mul] at hH
          omega
        · exact h
      obtain ⟨u2,c2,k1,k2,k3,k5,k6,k7,k8⟩:=addL a f n2 V L J j (g-1) out hL hj (digs V.natAbs).length 0 u 0 (by omega) hd hl (.inl rfl)
      have k8':Loops 7 Tryz.prog (pZ Tryz.prog 176 3) (LA a f n2 V L J j (g-1) 0 0 u out) (.exit 6,LA a f n2 V L J j (g-1) c2 ((digs V.natAbs).length:Int) u2 out):=k8
      have ht2:=k6 (j+(digs V.natAbs).length) (Nat.le_refl _)
      have h:=LS.of zoF (loC_0 a f n2 V L J j g c2 ((digs V.natAbs).length:Int) u u2 out) (by
        rw [hnat]
        exact(by(repeat' (first | exact AllC.nil | refine AllC.cons ?_ ?_));all_goals (first | ((with_reducible refine inR64.2 ?_);omega) | (with_reducible refine pFl ?_ ?_<;>omega) | ((with_reducible refine decide_eq_true ?_);omega) | ((with_reducible refine decide_eq_false ?_);omega) | omega | (simp [hl,k2]<;>omega) | assumption | rfl)))
      rw [hnat] at h
      have hv:=zgp u2 (j+(digs V.natAbs).length) (u2.getD (j+(digs V.natAbs).length) 0+c2) (by omega)
      generalize hu3:u2.set (j+(digs V.natAbs).length) (u2.getD (j+(digs V.natAbs).length) 0+c2)=u3 at *
      have hl3:u3.length=L:=by rw [← hu3];simp [k2]
      have hlow3:∀q,q<j→u3.getD q 0=u.getD q 0:=fun q hq=>by
        rw [← hu3,getD_set_ne _ _ _ _ (by omega)];exact k7 q hq
      have hhigh3:vl (u3.drop (j+(digs V.natAbs).length+1))=0:=by
        rw [drop_eq (u:=u) (by rw [hl3,hl]) (fun q hq=>by
          rw [← hu3,getD_set_ne _ _ _ _ (by omega)];exact k6 q (by omega))]
        exact hz
      have htop3:u3.getD (j+(digs V.natAbs).length) 0=u.getD (j+(digs V.natAbs).length) 0+c2:=by
        rw [← hu3,zbI _ _ _ (by omega),ht2]
      have hd3:Dg u3 (j+(digs V.natAbs).length):=by rw [← hu3];exact k1.top _
      have hH3:vl (u3.drop j)=U-(g-1)*(V.natAbs:Int):=by
        have s1:=zdq u j (by omega)
        have s3:=zdq u3 j (by omega)
        rw [zmM (by rw [hl3,hl]) hlow3] at s3
        have e1:u2.getD (j+(digs V.natAbs).length) 0+c2-u2.getD (j+(digs V.natAbs).length) 0=c2:=by omega
        rw [e1,k5,Nat.add_zero,Int.zero_add,List.drop_zero,zap] at hv
        have:(100000000:Int) ^ j*vl (u3.drop j)=100000000 ^ j*(vl (u.drop j)+(V.natAbs:Int)):=by rw [Int.mul_add];omega
        rw [ziF this,hH,Int.sub_mul,Int.one_mul];omega
      obtain ⟨g2,u4,m1,m2,m3,m4,m5,m6,m7,m8⟩:=ih (g-1) u3 (by omega) (by omega) (by omega) hd3 hl3 hhigh3 hH3 (by
        have:g-1+1=g:=by omega
        rw [this];omega) (by rw [htop3];omega) (by rw [htop3];omega)
      exact ⟨g2,u4,m1,m2,m3,m4,fun q hq=>(m5 q hq).trans (hlow3 q hq),m6,m7,Loops.go h m8⟩
    · have htop:u.getD (j+(digs V.natAbs).length) 0=0:=by
        rcases Int.lt_or_le 0 (u.getD (j+(digs V.natAbs).length) 0) with h2 | h2
        · have:=zde (n:=(digs V.natAbs).length) (show 1≤u.getD (j+(digs V.natAbs).length) 0 by omega)
          omega
        · omega
      have h:=LS.of zoF (loD_0 a f n2 V L J j g u out) (by
        rw [hnat]
        exact(by(repeat' (first | exact AllC.nil | refine AllC.cons ?_ ?_));all_goals (first | ((with_reducible refine inR64.2 ?_);omega) | (with_reducible refine pFl ?_ ?_<;>omega) | ((with_reducible refine decide_eq_true ?_);omega) | ((with_reducible refine decide_eq_false ?_);omega) | omega | (simp [hl]<;>omega) | assumption | rfl)))
      exact ⟨g,u,hg0,hg1,hd.digs (by omega) (by omega),hl,fun _ _=>rfl,hH,by omega,Loops.fin h (by simp [Ex.toExit])⟩
theorem last_ne {n:Nat} (h:n≠0):0<(digs n).getD ((digs n).length-1) 0:=by
  have hd:=(MZ (rZ n) ((digs n).length-1)).1
  rcases Int.lt_or_le 0 ((digs n).getD ((digs n).length-1) 0) with h1 | h1
  · exact h1
  · exfalso
    have h0:(digs n).getD ((digs n).length-1) 0=0:=by omega
    have hne:digs n≠[]:=fun e=>h ((zcf n).1 e)
    have hlen:0<(digs n).length:=List.length_pos_iff.2 hne
    obtain ⟨q,d,hq⟩:∃q d,digs n=q++[d]:=by
      rcases List.eq_nil_or_concat (digs n) with e | ⟨q,d,e⟩
      · exact absurd e hne
      · exact ⟨q,d,by simpa using e⟩
    have e:=zdo n
    rw [hq] at h0 e
    have hd0:d=0:=by simpa [List.getD] using h0
    subst hd0
    rw [zgZ] at e
    have:=zf3 q
    have e2:=congrArg List.length e
    simp at e2
    omega
theorem mainL (a f:Int) (n2:Nat) (V:Int) (L J:Nat) (hL:L≤4194304) (hV:V≠0) (hn:1≤(digs V.natAbs).length) (A:Int) :
    ∀(k:Nat) (u out:List Int),k≤J→(k=0∨k+(digs V.natAbs).length≤L)→Digs u→u.length=L→Digs out→out.length=J→(∀q,q<k→out.getD q 0=0)→vl (u.drop k)<(V.natAbs:Int) →
      vl u+(V.natAbs:Int)*vl out=A →
    ∃(u2 out2:List Int),Digs u2∧u2.length=L∧Digs out2∧out2.length=J∧vl u2<(V.natAbs:Int)∧vl u2+(V.natAbs:Int)*vl out2=A ∧
      Loops 7 Tryz.prog (pZ Tryz.prog 176 0) (LO a f n2 V L J ((k:Int)-1) u out) (.exit 0,LO a f n2 V L J (-1) u2 out2):=by
  intro k
  induction k with
  | zero=>
    intro u out hk hkl hd hl hdo hlo hz hlt hA
    rw [List.drop_zero] at hlt
    exact ⟨u,out,hd,hl,hdo,hlo,hlt,hA,Loops.fin (LS.of zoF (loX_0 a f n2 V L J (-1) u out) (by(repeat' (first | exact AllC.nil | refine AllC.cons ?_ ?_));all_goals (first | ((with_reducible refine inR64.2 ?_);omega) | (with_reducible refine pFl ?_ ?_<;>omega) | ((with_reducible refine decide_eq_true ?_);omega) | ((with_reducible refine decide_eq_false ?_);omega) | omega | (simp []<;>omega) | assumption | rfl))) (by simp [Ex.toExit])⟩
  | succ k ih=>
    intro u out hk hkl hd hl hdo hlo hz hlt hA
    have hkl':k+1+(digs V.natAbs).length≤L:=by omega
    have hVB:=zhw V
    have ejj:((k+1:Nat):Int)-1=(k:Int):=by omega
    rw [ejj]
    have hnat:0+Int.toNat ((k:Int)+((digs V.natAbs).length:Int))*1=k+(digs V.natAbs).length:=by omega
    have hnat1:0+Int.toNat ((k:Int)+((digs V.natAbs).length:Int)-1)*1=k+(digs V.natAbs).length-1:=by omega
    have hnat2:Int.toNat (((digs V.natAbs).length:Int)-1)=(digs V.natAbs).length-1:=by omega
    have hnat3:0+Int.toNat (k:Int)*1=k:=by omega
    have hnat4:Int.toNat (k:Int)=k:=by omega
    have hx:=MZ hd k
    have hU0:0≤vl (u.drop k):=LZ (zdw hd k)
    have hU1:=zaO u k
    have hhz:vl (u.drop (k+(digs V.natAbs).length+1))=0:=by
      have h1:=zh6 u (k+1) (digs V.natAbs).length (by omega)
      have h2:=LZ (zbr (zdw hd (k+1)) (digs V.natAbs).length)
      have h3:=LZ (zdw hd (k+1+(digs V.natAbs).length))
      have e:k+1+(digs V.natAbs).length=k+(digs V.natAbs).length+1:=by omega
      rw [e] at h1 h3
      rcases Int.lt_or_le 0 (vl (u.drop (k+(digs V.natAbs).length+1))) with h4 | h4
      · have:=zde (n:=(digs V.natAbs).length) (show 1≤vl (u.drop (k+(digs V.natAbs).length+1)) by omega)
        omega
      · omega
    have hp0:=MZ hd (k+(digs V.natAbs).length)
    have hp1:=MZ hd (k+(digs V.natAbs).length-1)
    have hvt:=last_ne (n:=V.natAbs) (by omega)
    have hvt2:=(MZ (rZ V.natAbs) ((digs V.natAbs).length-1)).2
    obtain ⟨X,hX⟩:∃X,X=u.getD (k+(digs V.natAbs).length) 0*100000000+u.getD (k+(digs V.natAbs).length-1) 0:=⟨_,rfl⟩
    obtain ⟨vt,hvtd⟩:∃vt,vt=(digs V.natAbs).getD ((digs V.natAbs).length-1) 0:=⟨_,rfl⟩
    obtain ⟨g,hg⟩:∃g,(if 99999999<Int.tdiv X vt then 99999999 else Int.tdiv X vt)=g:=⟨_,rfl⟩
    have htd:Int.tdiv X vt=X / vt:=Int.tdiv_eq_ediv_of_nonneg (by omega)
    have hX0:0≤X / vt:=Int.ediv_nonneg (by omega) (by omega)
    have hX1:X / vt≤X:=Int.ediv_le_self _ (by omega)
    have hg0:0≤g:=by rw [← hg,htd];split<;>omega
    have hg1:g<100000000:=by rw [← hg,htd];split<;>omega
    have hUX:vl (u.drop k)<100000000 ^ ((digs V.natAbs).length-1)*(X+1):=by
      have h1:=zh6 u k ((digs V.natAbs).length-1) (by omega)
      have h2:=zf4 (zbr (zdw hd k) ((digs V.natAbs).length-1))
      have h3:((u.drop k).take ((digs V.natAbs).length-1)).length=(digs V.natAbs).length-1:=by simp;omega
      rw [h3] at h2
      have e1:k+((digs V.natAbs).length-1)=k+(digs V.natAbs).length-1:=by omega
      have e2:k+(digs V.natAbs).length-1+1=k+(digs V.natAbs).length:=by omega
      rw [e1,zaO u (k+(digs V.natAbs).length-1),e2,zaO u (k+(digs V.natAbs).length),hhz] at h1
      have e3:u.getD (k+(digs V.natAbs).length-1) 0+100000000*(u.getD (k+(digs V.natAbs).length) 0+100000000*0)=X:=by omega
      rw [e3] at h1
      rw [Int.mul_add,Int.mul_one]
      omega
    have hVvt:100000000 ^ ((digs V.natAbs).length-1)*vt≤(V.natAbs:Int):=by
      have h1:=zdq (digs V.natAbs) ((digs V.natAbs).length-1) (by omega)
      have h2:=LZ (zbr (rZ V.natAbs) ((digs V.natAbs).length-1))
      have e2:(digs V.natAbs).length-1+1=(digs V.natAbs).length:=by omega
      rw [zap,zaO (digs V.natAbs) ((digs V.natAbs).length-1),e2,List.drop_length,← hvtd] at h1
      simp only [vl,Int.mul_zero,Int.add_zero] at h1
      omega
    have hUg:vl (u.drop k)<(g+1)*(V.natAbs:Int):=by
      by_cases hb:99999999<Int.tdiv X vt
      · rw [if_pos hb] at hg
        subst hg
        omega
      · rw [if_neg hb,htd] at hg
        have h1:=Int.lt_ediv_add_one_mul_self X (b:=vt) (by omega)
        rw [hg] at h1
        have h2:100000000 ^ ((digs V.natAbs).length-1)*(X+1)≤100000000 ^ ((digs V.natAbs).length-1)*((g+1)*vt):=Int.mul_le_mul_of_nonneg_left (by omega) (znC _)
        have h3:(g+1)*(100000000 ^ ((digs V.natAbs).length-1)*vt)≤(g+1)*(V.natAbs:Int):=Int.mul_le_mul_of_nonneg_left hVvt (by omega)
        rw [Int.mul_left_comm] at h2
        omega
    obtain ⟨u2,c2,k1,k2,k3,k4,k5,k6,k7,k8⟩:=subL a f n2 V L J k g out hL (by omega) hg0 hg1 (digs V.natAbs).length 0 u 0 (by omega) hd hl (by omega) (by omega)
    have k8':Loops 7 Tryz.prog (pZ Tryz.prog 176 1) (LSb a f n2 V L J k g 0 0 u out) (.exit 2,LSb a f n2 V L J k g c2 ((digs V.natAbs).length:Int) u2 out):=k8
    have ht2:=k6 (k+(digs V.natAbs).length) (Nat.le_refl _)
    have hv:=zgp u2 (k+(digs V.natAbs).length) (u2.getD (k+(digs V.natAbs).length) 0+c2) (by omega)
    obtain ⟨u3,hu3⟩:∃u3,u2.set (k+(digs V.natAbs).length) (u2.getD (k+(digs V.natAbs).length) 0+c2)=u3:=⟨_,rfl⟩
    rw [hu3] at hv
    have hl3:u3.length=L:=by rw [← hu3];simp [k2]
    have hlow3:∀q,q<k→u3.getD q 0=u.getD q 0:=fun q hq=>by
      rw [← hu3,getD_set_ne _ _ _ _ (by omega)];exact k7 q hq
    have hhigh3:vl (u3.drop (k+(digs V.natAbs).length+1))=0:=by
      rw [drop_eq (u:=u) (by rw [hl3,hl]) (fun q hq=>by
        rw [← hu3,getD_set_ne _ _ _ _ (by omega)];exact k6 q (by omega))]
      exact hhz
    have htop3:u3.getD (k+(digs V.natAbs).length) 0=u.getD (k+(digs V.natAbs).length) 0+c2:=by
      rw [← hu3,zbI _ _ _ (by omega),ht2]
    have hd3:Dg u3 (k+(digs V.natAbs).length):=by rw [← hu3];exact(Dg.of k1 _).top _
    have s1:=zdq u k (by omega)
    have hH3:vl (u3.drop k)=vl (u.drop k)-g*(V.natAbs:Int):=by
      have s3:=zdq u3 k (by omega)
      rw [zmM (by rw [hl3,hl]) hlow3] at s3
      have e1:u2.getD (k+(digs V.natAbs).length) 0+c2-u2.getD (k+(digs V.natAbs).length) 0=c2:=by omega
      rw [e1,k5,Nat.add_zero,Int.zero_sub,List.drop_zero,zap] at hv
      have:(100000000:Int) ^ k*vl (u3.drop k)=100000000 ^ k*(vl (u.drop k)-g*(V.natAbs:Int)):=by rw [Int.mul_sub];rw [Int.mul_neg] at hv;omega
      exact ziF this
    obtain ⟨g2,u4,m1,m2,m3,m4,m5,m6,m7,m8⟩:=corL a f n2 V L J k out hL (by omega) (vl (u.drop k)) hU0 g.toNat g u3 (by omega) hg0 hg1 hd3 hl3 hhigh3 hH3 hUg (by rw [htop3];omega) (by rw [htop3];omega)
    have hg':=hg
    rw [htd] at hg'
    have h:=LS.of zoF (loM_0 a f n2 V L J k g g2 c2 ((digs V.natAbs).length:Int) u u2 u4 out) (by
      have hn0:(!decide (vt=0))=true:=by simp;omega
      simp only [hnat,hnat1,hnat2,hnat3,hnat4,← hX,← hvtd,htd,hg',hu3]
      rw [← hu3] at m8
      have hbd:X≤9999999999999999:=by omega
      have hXa:u.getD (k+(digs V.natAbs).length) 0*100000000≤9999999900000000:=by omega
      have hXb:0≤u.getD (k+(digs V.natAbs).length) 0*100000000:=by omega
      have hvl:0<(digs V.natAbs).length:=by omega
      rw [hu3] at m8
      exact(by(repeat' (first | exact AllC.nil | refine AllC.cons ?_ ?_));all_goals (first | ((with_reducible refine inR64.2 ?_);omega) | (with_reducible refine pFl ?_ ?_<;>omega) | ((with_reducible refine decide_eq_true ?_);omega) | ((with_reducible refine decide_eq_false ?_);omega) | omega | (simp [hl,k2,hlo,hvl]<;>omega) | assumption | rfl)))
    rw [hnat3] at h
    have hv2:=zgp out k g2 (by omega)
    rw [hz k (by omega),Int.sub_zero] at hv2
    have s4:=zdq u4 k (by omega)
    rw [zmM (by rw [m4,hl]) (fun q hq=>(m5 q hq).trans (hlow3 q hq)),m6,Int.mul_sub] at s4
    have hA2:vl u4+(V.natAbs:Int)*vl (out.set k g2)=A:=by
      rw [hv2,Int.mul_add]
      have e:(V.natAbs:Int)*(100000000 ^ k*g2)=100000000 ^ k*(g2*(V.natAbs:Int)):=by rw [Int.mul_left_comm,Int.mul_comm (V.natAbs:Int) g2]
      rw [e]
      omega
    obtain ⟨u5,o5,p1,p2,p3,p4,p5,p6,p7⟩:=ih u4 (out.set k g2) (by omega) (by omega) m3 m4 (zeI hdo _ m1 m2) (by simp;omega) (fun q hq=>by
      rw [getD_set_ne _ _ _ _ (by omega)];exact hz q (by omega)) m7 hA2
    exact ⟨u5,o5,p1,p2,p3,p4,p5,p6,Loops.go h p7⟩
noncomputable section
theorem twL_0 (c d:Bool) (a b:Int) (n:Nat) (l:List Int):RndI (dZ Tryz.prog zmf bw [107,150]) 60 (pZ Tryz.prog 150 0) 4 [] [0] [] (TW c d a b n l) [1,1] [] [1,2,3,4,5,6,2,3,7] (Ex.normal) (⟨sp 21 [(0,.own 3 0 ((n:Int)-1).toNat 1)],[.flat [.lit (.bool c),.wd a] true,.flat [.lit (.bool d),.wd b] true,.flat [aF,aN] true,.ints l true],[]⟩) [decide ((n:Int) > 0)=true,inR .i64 ((n:Int)-1)=true,decide (0≤(n:Int)-1)=true,decide ((n:Int)-1<(n:Int))=true,decide (0+((n:Int)-1).toNat*1<l.length)=true,(l.getD (0+((n:Int)-1).toNat*1) 0==0)=true,decide ((n:Int)-1≤(n:Int))=true]:={}
theorem twL_1 (c d:Bool) (a b:Int) (n:Nat) (l:List Int):RndI (dZ Tryz.prog zmf bw [107,150]) 60 (pZ Tryz.prog 150 0) 4 [] [0] [] (TW c d a b n l) [1,0] [] [1,2,3,4,5,6] (Ex.exit 0) (⟨sp 21 [(0,.own 3 0 n 1)],[.flat [.lit (.bool c),.wd a] true,.flat [.lit (.bool d),.wd b] true,.flat [aF,aN] true,.ints l true],[]⟩) [decide ((n:Int) > 0)=true,inR .i64 ((n:Int)-1)=true,decide (0≤(n:Int)-1)=true,decide ((n:Int)-1<(n:Int))=true,decide (0+((n:Int)-1).toNat*1<l.length)=true,(l.getD (0+((n:Int)-1).toNat*1) 0==0)=false]:={}
theorem twL_2 (c d:Bool) (a b:Int) (n:Nat) (l:List Int):RndI (dZ Tryz.prog zmf bw [107,150]) 60 (pZ Tryz.prog 150 0) 4 [] [0] [] (TW c d a b n l) [0] [] [1] (Ex.exit 0) (⟨sp 21 [(0,.own 3 0 n 1)],[.flat [.lit (.bool c),.wd a] true,.flat [.lit (.bool d),.wd b] true,.flat [aF,aN] true,.ints l true],[]⟩) [decide ((n:Int) > 0)=false]:={}
abbrev lg_2_s0 (a f V:Int) (b L J:Nat) (l:List Int):St:=⟨sp 182 [(6,aI f),(7,.own 5 0 L 1),(8,.wd V),(9,aI (↑((digs V.natAbs).length):Int)),(10,.own 6 0 J 1),(11,aI ((J:Int)-1))],[.flat [aF,.wd a] true,.flat [aD f,.wd f] true,.flat [.lit (.bool (!(false==decide (f<0)))),.own 3 0 b 1] true,.dead,.ints [0,0] true,.ints (l.take b++[0,0]) true,.ints (List.replicate J 0) true],[2,3,4,5,6]⟩
abbrev lg_2_s1 (a f:Int) (n:Nat):St:=⟨sp 86 [(2,.ref 0 0),(3,.ref 1 0),(4,.ref 2 0),(5,.own 3 0 n 1),(32,.wd a),(33,aI (↑((digs a.natAbs).length):Int)),(34,aI 0)],[.flat [aF,.wd a] true,.flat [aD f,.wd f] true,.flat [aF,aN] true,.ints (List.replicate n 0) true],[3]⟩
theorem lg_2 (a b i f V:Int) (n c L J:Nat) (l d e:List Int):FunI (dZ Tryz.prog zmf bw [107,150]) 60 176 [.wd a,.wd b] [0,0] [none,some (zev Tryz.prog (pZ Tryz.prog 107 0) [] [2,3,4,5,32,33,34] [3] (TO false (decide (f<0)) a f 0 n (List.replicate n 0)) (.exit 0,TO false (decide (f<0)) a f i n l)),none,some (zev Tryz.prog (pZ Tryz.prog 150 0) [] [0] [] (TW false (decide (f<0)) a f n l) (.exit 0,TW false (decide (f<0)) a f c l)),some dmy,some (zev Tryz.prog (pZ Tryz.prog 176 0) [] [6,7,8,9,10,11] [2,3,4,5,6] (LO a f c V L J ((J:Int)-1) (l.take c++[0,0]) (List.replicate J 0)) (.exit 0,LO a f c V L J (-1) d e)),some dmy,some dmy] [1,2,3,4,5,6,7,8,9,10,11,12,13,14,15,16,17,0,18,19,20,21,0,8,22,0,23,24,25,26,27,28,29,30,31,32,33,34,35,36] (.tup [.sq (trm (e.take J)),.wd (vl (trm (d.take L)) / f)]) [inR .i64 ((↑((digs b.natAbs).length):Int)-1)=true,decide (0≤(↑((digs b.natAbs).length):Int)-1)=true,decide ((↑((digs b.natAbs).length):Int)-1<(↑((digs b.natAbs).length):Int))=true,decide (((↑((digs b.natAbs).length):Int)-1).toNat<(digs b.natAbs).length)=true,inR .i64 ((digs b.natAbs).getD ((↑((digs b.natAbs).length):Int)-1).toNat 0+1)=true,(!decide ((digs b.natAbs).getD ((↑((digs b.natAbs).length):Int)-1).toNat 0+1=0))=true,inR .i64 (Int.tdiv 100000000 ((digs b.natAbs).getD ((↑((digs b.natAbs).length):Int)-1).toNat 0+1))=true,bZ (Int.tdiv 100000000 ((digs b.natAbs).getD ((↑((digs b.natAbs).length):Int)-1).toNat 0+1)),((↑((digs a.natAbs).length):Int)==0)=false,((↑((digs (Int.tdiv 100000000 ((digs b.natAbs).getD ((↑((digs b.natAbs).length):Int)-1).toNat 0+1)).natAbs).length):Int)==0)=false,inR .i64 ((↑((digs a.natAbs).length):Int)+(↑((digs (Int.tdiv 100000000 ((digs b.natAbs).getD ((↑((digs b.natAbs).length):Int)-1).toNat 0+1)).natAbs).length):Int))=true,decide (0≤(↑((digs a.natAbs).length):Int)+(↑((digs (Int.tdiv 100000000 ((digs b.natAbs).getD ((↑((digs b.natAbs).length):Int)-1).toNat 0+1)).natAbs).length):Int))=true,decide ((↑((digs a.natAbs).length):Int)+(↑((digs (Int.tdiv 100000000 ((digs b.natAbs).getD ((↑((digs b.natAbs).length):Int)-1).toNat 0+1)).natAbs).length):Int)≤(↑((digs a.natAbs).length):Int)+(↑((digs (Int.tdiv 100000000 ((digs b.natAbs).getD ((↑((digs b.natAbs).length):Int)-1).toNat 0+1)).natAbs).length):Int))=true,decide (8*((↑((digs a.natAbs).length):Int)+(↑((digs (Int.tdiv 100000000 ((digs b.natAbs).getD ((↑((digs b.natAbs).length):Int)-1).toNat 0+1)).natAbs).length):Int))≤281474976710656)=true,decide ((↑((digs a.natAbs).length):Int)+(↑((digs (Int.tdiv 100000000 ((digs b.natAbs).getD ((↑((digs b.natAbs).length):Int)-1).toNat 0+1)).natAbs).length):Int)≤9223372036854775807)=true,(⟨sp 86 [(2,.ref 0 0),(3,.ref 1 0),(4,.ref 2 0),(5,.own 3 0 ((↑((digs a.natAbs).length):Int)+(↑((digs (Int.tdiv 100000000 ((digs b.natAbs).getD ((↑((digs b.natAbs).length):Int)-1).toNat 0+1)).natAbs).length):Int)).toNat 1),(32,.wd a),(33,aI (↑((digs a.natAbs).length):Int)),(34,aI 0)],[.flat [aF,.wd a] true,.flat [.lit (.bool (decide (Int.tdiv 100000000 ((digs b.natAbs).getD ((↑((digs b.natAbs).length):Int)-1).toNat 0+1)<0))),.wd (Int.tdiv 100000000 ((digs b.natAbs).getD ((↑((digs b.natAbs).length):Int)-1).toNat 0+1))] true,.flat [aF,aN] true,.ints (List.replicate ((↑((digs a.natAbs).length):Int)+(↑((digs (Int.tdiv 100000000 ((digs b.natAbs).getD ((↑((digs b.natAbs).length):Int)-1).toNat 0+1)).natAbs).length):Int)).toNat 0) true],[3]⟩:St)=(lg_2_s1 a f n),Loops 4 Tryz.prog (pZ Tryz.prog 107 0) (lg_2_s1 a f n) (Ex.exit 0,⟨sp 86 [(2,.ref 0 0),(3,.ref 1 0),(4,.ref 2 0),(5,.own 3 0 n 1),(32,.wd a),(33,aI (↑((digs a.natAbs).length):Int)),(34,aI i)],[.flat [aF,.wd a] true,.flat [aD f,.wd f] true,.flat [aF,aN] true,.ints l true],[3]⟩),Loops 4 Tryz.prog (pZ Tryz.prog 150 0) ⟨sp 21 [(0,.own 3 0 n 1)],[.flat [aF,.wd a] true,.flat [aD f,.wd f] true,.flat [aF,aN] true,.ints l true],[]⟩ (Ex.exit 0,⟨sp 21 [(0,.own 3 0 c 1)],[.flat [aF,.wd a] true,.flat [aD f,.wd f] true,.flat [aF,aN] true,.ints l true],[]⟩),decide ((c+2)*8≤140737488355328)=true,decide (c+2≤4611686018427387904)=true,decide (c≤l.length)=true,false=decide (b<0),pDD b (Int.tdiv 100000000 ((digs b.natAbs).getD ((↑((digs b.natAbs).length):Int)-1).toNat 0+1)),inR .i64 ((↑(c+2):Int)-(↑((digs (b*Int.tdiv 100000000 ((digs b.natAbs).getD ((↑((digs b.natAbs).length):Int)-1).toNat 0+1)).natAbs).length):Int))=true,decide (0≤if(↑(c+2):Int)-(↑((digs (b*Int.tdiv 100000000 ((digs b.natAbs).getD ((↑((digs b.natAbs).length):Int)-1).toNat 0+1)).natAbs).length):Int) > 0 then(↑(c+2):Int)-(↑((digs (b*Int.tdiv 100000000 ((digs b.natAbs).getD ((↑((digs b.natAbs).length):Int)-1).toNat 0+1)).natAbs).length):Int) else 0)=true,decide ((if(↑(c+2):Int)-(↑((digs (b*Int.tdiv 100000000 ((digs b.natAbs).getD ((↑((digs b.natAbs).length):Int)-1).toNat 0+1)).natAbs).length):Int) > 0 then(↑(c+2):Int)-(↑((digs (b*Int.tdiv 100000000 ((digs b.natAbs).getD ((↑((digs b.natAbs).length):Int)-1).toNat 0+1)).natAbs).length):Int) else 0)≤if(↑(c+2):Int)-(↑((digs (b*Int.tdiv 100000000 ((digs b.natAbs).getD ((↑((digs b.natAbs).length):Int)-1).toNat 0+1)).natAbs).length):Int) > 0 then(↑(c+2):Int)-(↑((digs (b*Int.tdiv 100000000 ((digs b.natAbs).getD ((↑((digs b.natAbs).length):Int)-1).toNat 0+1)).natAbs).length):Int) else 0)=true,decide ((8*if(↑(c+2):Int)-(↑((digs (b*Int.tdiv 100000000 ((digs b.natAbs).getD ((↑((digs b.natAbs).length):Int)-1).toNat 0+1)).natAbs).length):Int) > 0 then(↑(c+2):Int)-(↑((digs (b*Int.tdiv 100000000 ((digs b.natAbs).getD ((↑((digs b.natAbs).length):Int)-1).toNat 0+1)).natAbs).length):Int) else 0)≤281474976710656)=true,decide ((if(↑(c+2):Int)-(↑((digs (b*Int.tdiv 100000000 ((digs b.natAbs).getD ((↑((digs b.natAbs).length):Int)-1).toNat 0+1)).natAbs).length):Int) > 0 then(↑(c+2):Int)-(↑((digs (b*Int.tdiv 100000000 ((digs b.natAbs).getD ((↑((digs b.natAbs).length):Int)-1).toNat 0+1)).natAbs).length):Int) else 0)≤9223372036854775807)=true,inR .i64 ((↑((if(↑(c+2):Int)-(↑((digs (b*Int.tdiv 100000000 ((digs b.natAbs).getD ((↑((digs b.natAbs).length):Int)-1).toNat 0+1)).natAbs).length):Int) > 0 then(↑(c+2):Int)-(↑((digs (b*Int.tdiv 100000000 ((digs b.natAbs).getD ((↑((digs b.natAbs).length):Int)-1).toNat 0+1)).natAbs).length):Int) else 0).toNat):Int)-1)=true,(⟨sp 182 [(6,aI (Int.tdiv 100000000 ((digs b.natAbs).getD ((↑((digs b.natAbs).length):Int)-1).toNat 0+1))),(7,.own 5 0 (c+2) 1),(8,.wd (b*Int.tdiv 100000000 ((digs b.natAbs).getD ((↑((digs b.natAbs).length):Int)-1).toNat 0+1))),(9,aI (↑((digs (b*Int.tdiv 100000000 ((digs b.natAbs).getD ((↑((digs b.natAbs).length):Int)-1).toNat 0+1)).natAbs).length):Int)),(10,.own 6 0 (if(↑(c+2):Int)-(↑((digs (b*Int.tdiv 100000000 ((digs b.natAbs).getD ((↑((digs b.natAbs).length):Int)-1).toNat 0+1)).natAbs).length):Int) > 0 then(↑(c+2):Int)-(↑((digs (b*Int.tdiv 100000000 ((digs b.natAbs).getD ((↑((digs b.natAbs).length):Int)-1).toNat 0+1)).natAbs).length):Int) else 0).toNat 1),(11,aI ((↑((if(↑(c+2):Int)-(↑((digs (b*Int.tdiv 100000000 ((digs b.natAbs).getD ((↑((digs b.natAbs).length):Int)-1).toNat 0+1)).natAbs).length):Int) > 0 then(↑(c+2):Int)-(↑((digs (b*Int.tdiv 100000000 ((digs b.natAbs).getD ((↑((digs b.natAbs).length):Int)-1).toNat 0+1)).natAbs).length):Int) else 0).toNat):Int)-1))],[.flat [aF,.wd a] true,.flat [aD f,.wd f] true,.flat [.lit (.bool (!(false==decide (f<0)))),.own 3 0 c 1] true,.dead,.ints [0,0] true,.ints (l.take c++List.take 2 [0,0]) true,.ints (List.replicate (if(↑(c+2):Int)-(↑((digs (b*Int.tdiv 100000000 ((digs b.natAbs).getD ((↑((digs b.natAbs).length):Int)-1).toNat 0+1)).natAbs).length):Int) > 0 then(↑(c+2):Int)-(↑((digs (b*Int.tdiv 100000000 ((digs b.natAbs).getD ((↑((digs b.natAbs).length):Int)-1).toNat 0+1)).natAbs).length):Int) else 0).toNat 0) true],[2,3,4,5,6]⟩:St)=(lg_2_s0 a f V c L J l),Loops 7 Tryz.prog (pZ Tryz.prog 176 0) (lg_2_s0 a f V c L J l) (Ex.exit 0,⟨sp 182 [(6,aI f),(7,.own 5 0 L 1),(8,.wd V),(9,aI (↑((digs V.natAbs).length):Int)),(10,.own 6 0 J 1),(11,aI (-1))],[.flat [aF,.wd a] true,.flat [aD f,.wd f] true,.flat [.lit (.bool (!(false==decide (f<0)))),.own 3 0 c 1] true,.dead,.ints [0,0] true,.ints d true,.ints e true],[2,3,4,5,6]⟩),L≤d.length,SZ (d.take L),zgk (trm (d.take L)) f,J≤e.length,SZ (e.take J)]:={}
end
theorem znV:∀l:List Int,l.take (trm l).length=trm l
  | []=>rfl
  | d :: l=>by
    simp only [trm]
    split
    · rfl
    · simp [znV l]
theorem trimO (na nb:Bool) (a b:Int) (l:List Int) (hl:l.length≤4611686018427387904):∀(n:Nat),n≤l.length →
    Loops 4 Tryz.prog (pZ Tryz.prog 150 0) (TW na nb a b n l) (.exit 0,TW na nb a b (trm (l.take n)).length l)
  | 0,hn=>Loops.fin (LS.of zoF (twL_2 na nb a b 0 l) (by(repeat' (first | exact AllC.nil | refine AllC.cons ?_ ?_));all_goals (first | ((with_reducible refine inR64.2 ?_);omega) | (with_reducible refine pFl ?_ ?_<;>omega) | ((with_reducible refine decide_eq_true ?_);omega) | ((with_reducible refine decide_eq_false ?_);omega) | omega | (simp []<;>omega) | assumption | rfl))) (by simp [Ex.toExit])
  | n + 1,hn=>by
    have hnat:0+Int.toNat (((n+1:Nat):Int)-1)*1=n:=by omega
    have hnat2:Int.toNat (((n+1:Nat):Int)-1)=n:=by omega
    have hlt:n<l.length:=by omega
    have hg:l.getD n 0=l[n]:=by simp [List.getD,hlt]
    rw [List.take_succ_eq_append_getElem hlt,← hg]
    by_cases hd:l.getD n 0=0
    · have hx:(l.getD n 0==0)=true:=by rw [hd];rfl
      have h:=LS.of zoF (twL_0 na nb a b (n+1) l) (by
        rw [hnat]
        exact(by(repeat' (first | exact AllC.nil | refine AllC.cons ?_ ?_));all_goals (first | ((with_reducible refine inR64.2 ?_);omega) | (with_reducible refine pFl ?_ ?_<;>omega) | ((with_reducible refine decide_eq_true ?_);omega) | ((with_reducible refine decide_eq_false ?_);omega) | omega | (simp [hx]<;>omega) | assumption | rfl)))
      rw [hnat2] at h
      rw [hd,zgZ]
      exact Loops.go h (trimO na nb a b l hl n (by omega))
    · have hx:(l.getD n 0==0)=false:=by simpa using hd
      have h:=LS.of zoF (twL_1 na nb a b (n+1) l) (by
        rw [hnat]
        exact(by(repeat' (first | exact AllC.nil | refine AllC.cons ?_ ?_));all_goals (first | ((with_reducible refine inR64.2 ?_);omega) | (with_reducible refine pFl ?_ ?_<;>omega) | ((with_reducible refine decide_eq_true ?_);omega) | ((with_reducible refine decide_eq_false ?_);omega) | omega | (simp [hx]<;>omega) | assumption | rfl)))
      rw [zdp _ _ hd]
      have e:(l.take n++[l.getD n 0]).length=n+1:=by simp;omega
      rw [e]
      exact Loops.fin h (by simp [Ex.toExit])
theorem pow_mono {m n:Nat} (h:m≤n):(100000000:Int) ^ m≤100000000 ^ n:=by
  have h2:=Int.ofNat_le.2 (Nat.pow_le_pow_right (show 0<100000000 by decide) h)
  rw [Int.natCast_pow,Int.natCast_pow] at h2
  exact h2
theorem zjU {V:Int} (h:V≠0):(100000000:Int) ^ ((digs V.natAbs).length-1)≤(V.natAbs:Int):=by
  have hp:=zcg h
  rcases Nat.lt_or_ge V.natAbs (100000000 ^ ((digs V.natAbs).length-1)) with h1 | h1
  · have:=TZ _ _ h1
    omega
  · have h2:=Int.ofNat_le.2 h1
    rw [Int.natCast_pow] at h2
    exact h2
theorem znm {m n:Nat} (h:m≤n):(digs m).length≤(digs n).length:=by
  rcases Nat.lt_or_ge (digs n).length (digs m).length with h1 | h1
  · have:=zcJ h1;omega
  · exact h1
theorem digs_one {f:Int} (h0:0<f) (h1:f<100000000):(digs f.natAbs).length=1:=by
  have h2:=TZ f.natAbs 1 (by omega)
  have h3:=zcg (show f≠0 by omega)
  omega
theorem long_nn (a b:Int) (ha:0<a) (hb:0<b) (hfa:zaK a) (hfb:zaK b) (h2:2≤(digs b.natAbs).length):FC Tryz.prog 176 [.wd a,.wd b] (.tup [.wd (a / b),.wd (a % b)]):=by
  have hfa':=hfa
  have hfb':=hfb
  unfold zaK dl at hfa' hfb'
  have hnat2:Int.toNat (((digs b.natAbs).length:Int)-1)=(digs b.natAbs).length-1:=by omega
  obtain ⟨bt,hbt⟩:∃bt,(digs b.natAbs).getD ((digs b.natAbs).length-1) 0=bt:=⟨_,rfl⟩
  have hbt0:=last_ne (n:=b.natAbs) (by omega)
  have hbt1:=(MZ (rZ b.natAbs) ((digs b.natAbs).length-1)).2
  rw [hbt] at hbt0 hbt1
  obtain ⟨f,hfd⟩:∃f,Int.tdiv 100000000 (bt+1)=f:=⟨_,rfl⟩
  have hfe:f=100000000 / (bt+1):=by rw [← hfd];exact Int.tdiv_eq_ediv_of_nonneg (by decide)
  have hf0:1≤f:=by rw [hfe];exact(Int.le_ediv_iff_mul_le (by omega)).2 (by omega)
  have hf1:f≤50000000:=by
    rw [hfe]
    have:100000000 / (bt+1)<50000001:=Int.ediv_lt_of_lt_mul (by omega) (by omega)
    omega
  have hlf:=digs_one (f:=f) (by omega) (by omega)
  have hff:zaK f:=by unfold zaK dl;omega
  obtain ⟨V,hVd⟩:∃V,b*f=V:=⟨_,rfl⟩
  have hVb:b≤V:=by
    have:=Int.mul_le_mul_of_nonneg_left hf0 (show 0≤b by omega)
    omega
  have hV0:V≠0:=by omega
  have hVn:(V.natAbs:Int)=V:=by omega
  have hnv:(digs b.natAbs).length≤(digs V.natAbs).length:=znm (by omega)
  have hnv2:(digs V.natAbs).length≤(digs b.natAbs).length+1:=by
    refine TZ _ _ ?_
    rw [← hVd,Int.natAbs_mul,Nat.pow_succ]
    exact Nat.mul_lt_mul'' (zjr b.natAbs) (by omega)
  obtain ⟨n,hN⟩:∃n,Int.toNat (((digs a.natAbs).length:Int)+((digs f.natAbs).length:Int))=n:=⟨_,rfl⟩
  have hN2:n=(digs a.natAbs).length+(digs f.natAbs).length:=by omega
  have hpa:=zcg (show a≠0 by omega)
  have hna:=zeC (show a≠0 by omega)
  have hnf:=zeC (show f≠0 by omega)
  have hz0:∀m:Nat,Digs (List.replicate m 0):=fun m d hd=>by
    have:=List.eq_of_mem_replicate hd
    omega
  have hvz:∀m:Nat,vl (List.replicate m 0)=0:=by
    intro m
    induction m with
    | zero=>rfl
    | succ m ih=>simp only [List.replicate_succ,vl,ih];rfl
  have hgz:∀m j:Nat,(List.replicate m (0:Int)).getD j 0=0:=fun m j=>by
    simp [List.getD,List.getElem?_replicate];split<;>rfl
  obtain ⟨l,k1,k2,k3,k4⟩:=timesO false (decide (f<0)) a f hfa hff n hN2 (by omega) (digs a.natAbs).length 0 (List.replicate n 0) (by omega) (hz0 n) (by simp) (fun j _=>hgz n j)
  have hvl:vl l=a*f:=by
    rw [k3,hvz,List.drop_zero,zap,Int.pow_zero,Int.one_mul,Int.zero_add]
    rw [show(a.natAbs:Int)=a by omega,show(f.natAbs:Int)=f by omega]
  have k4o:Loops 4 Tryz.prog (pZ Tryz.prog 107 0) (TO false (decide (f<0)) a f 0 n (List.replicate n 0)) (.exit 0,TO false (decide (f<0)) a f ((digs a.natAbs).length:Int) n l):=k4
  have hT:=trimO false (decide (f<0)) a f l (by omega) n (by omega)
  have hln:l.take n=l:=by rw [← k2];exact zaS l
  rw [hln] at hT
  obtain ⟨n2,hn2⟩:∃n2,(trm l).length=n2:=⟨_,rfl⟩
  rw [hn2] at hT
  have hn2l:n2≤l.length:=by rw [← hn2];exact zf3 l
  have htk:l.take n2=trm l:=by rw [← hn2];exact znV l
  obtain ⟨J,hJ⟩:∃J,Int.toNat (if((n2+2:Nat):Int)-((digs V.natAbs).length:Int) > 0 then((n2+2:Nat):Int)-((digs V.natAbs).length:Int) else 0)=J:=⟨_,rfl⟩
  have hJ2:J=n2+2-(digs V.natAbs).length:=by rw [← hJ];split<;>omega
  have hDu:Digs (l.take n2++[0,0]):=by
    rw [htk]
    intro d hd
    rcases List.mem_append.1 hd with h | h
    · exact k1.trm d h
    · simp at h;subst h;omega
  have hvu:vl (l.take n2++[0,0])=a*f:=by
    rw [zba,htk,vl_trm,hvl];simp [vl]
  have hlu:(l.take n2++[(0:Int),0]).length=n2+2:=by simp;omega
  have hwin:vl ((l.take n2++[(0:Int),0]).drop J)<(V.natAbs:Int):=by
    have hJle:J≤(l.take n2).length:=by simp;omega
    rw [List.drop_append_of_le_length hJle,zba]
    have h1:=zf4 (zdw (zbr k1 n2) J)
    have h2:((l.take n2).drop J).length≤(digs V.natAbs).length-1:=by simp;omega
    have h3:=pow_mono h2
    have h4:=zjU hV0
    simp only [vl,Int.mul_zero,Int.add_zero]
    omega
  obtain ⟨u2,o2,p1,p2,p3,p4,p5,p6,p7⟩:=mainL a f n2 V (n2+2) J (by omega) hV0 (by omega) (a*f) J (l.take n2++[0,0]) (List.replicate J 0) (Nat.le_refl _) (by omega) hDu hlu (hz0 J) (by simp) (fun q _=>hgz J q) hwin (by rw [hvz,hvu];simp)
  have e1:List.take (n2+2) u2=u2:=by rw [← p2];exact zaS u2
  have e2:List.take J o2=o2:=by rw [← p4];exact zaS o2
  have hpd:pDD b f:=⟨hfb,hff⟩
  have hps:zgk (trm u2) f:=⟨p1.trm,by have:=zf3 u2;omega,by omega,by omega⟩
  have hbn:false=decide (b<0):=by simp;omega
  have hpf:bZ f:=⟨by omega,by omega⟩
  have hb0:(!decide (bt+1=0))=true:=by simp;omega
  have:=mZ zoF (lg_2 a b ((digs a.natAbs).length:Int) f V n n2 (n2+2) J l u2 o2) (by
    simp only [hnat2,hbt,hfd,hVd,hN,hJ,e1,e2]
    have hif:(if((n2+2:Nat):Int)-((digs V.natAbs).length:Int) > 0 then((n2+2:Nat):Int)-((digs V.natAbs).length:Int) else 0)=(J:Int):=by
      rw [← hJ];split<;>omega
    simp only [hif]
    exact(by(repeat' (first | exact AllC.nil | refine AllC.cons ?_ ?_));all_goals (first | ((with_reducible refine inR64.2 ?_);omega) | (with_reducible refine pFl ?_ ?_<;>omega) | ((with_reducible refine decide_eq_true ?_);omega) | ((with_reducible refine decide_eq_false ?_);omega) | omega | (simp [hna,hnf,p2,p4,SZ]<;>omega) | assumption | rfl)))
  rw [e1,e2] at this
  rw [hVn] at p5 p6
  have hu0:=LZ p1
  have hmul:V*vl o2=b*(f*vl o2):=by rw [← hVd,Int.mul_assoc]
  have hdiv:a / b=vl o2:=by
    rw [← Int.mul_ediv_mul_of_pos_left a b (show 0<f by omega),hVd,← p6,Int.add_mul_ediv_left _ _ hV0,Int.ediv_eq_zero_of_lt hu0 p5,Int.zero_add]
  have hmod:f*(a % b)=vl u2:=by
    rw [← Int.mul_emod_mul_of_pos a b (show 0<f by omega),Int.mul_comm f a,Int.mul_comm f b,hVd,← p6,Int.add_mul_emod_self_left,Int.emod_eq_of_lt hu0 p5]
  have ho0:=LZ p3
  refine this.res fun E v hv=>hv.tup2 (fun u hu=>hu.toWd rfl ?_) (fun u hu=>?_)
  · rw [zaT p3,hdiv];congr 1;omega
  · have:vl (trm u2) / f=a % b:=by rw [vl_trm,← hmod];exact Int.mul_ediv_cancel_left _ (by omega)
    rw [this] at hu
    exact hu
theorem Rd.natAbs {E:Env} {a b:Int} {v:Value} (h:a.natAbs=b.natAbs) (hr:Rd E (.wd a) v):Rd E (.wd b) v:=hr.toWd (l:=digs a.natAbs) rfl (by rw [h])
def zoK (a b:Int):Prop:=a≠0∧zaK a∧zaK b∧2≤(digs b.natAbs).length
theorem long_fc (a b:Int) (h:zoK a b):FC Tryz.prog 176 [.wd a,.wd b] (.tup [.wd ((a.natAbs:Int) / (b.natAbs:Int)),.wd ((a.natAbs:Int) % (b.natAbs:Int))]):=by
  obtain ⟨h0,h1,h2,h3⟩:=h
  have hb0:b≠0:=by
    rintro rfl
    simp [XZ] at h3
  have h1':zaK (a.natAbs:Int):=by unfold zaK dl at *;simpa using h1
  have h2':zaK (b.natAbs:Int):=by unfold zaK dl at *;simpa using h2
  exact(long_nn (a.natAbs:Int) (b.natAbs:Int) (by omega) (by omega) h1' h2' (by simpa using h3)).arg2 (fun E v h=>Rd.natAbs (by simp) h) (fun E v h=>Rd.natAbs (by simp) h)
def zqq:Ctr:=(176,cDD zoK (fun a b=>.tup [.wd ((a.natAbs:Int) / (b.natAbs:Int)),.wd ((a.natAbs:Int) % (b.natAbs:Int))])) :: zmf
theorem zm3:∀p∈zqq,lZ Tryz.prog p.1 p.2:=CAll.cons (cDD_ok long_fc) zm2
theorem ok9:(dZ Tryz.prog zqq bw).OK:=QZ zm3
noncomputable section
theorem ov_0 (c d:Bool) (a b:Int):FunI (dZ Tryz.prog zqq bw) 60 133 [.agg [.lit (.bool c),.wd a],.agg [.lit (.bool d),.wd b]] [1,1,1,1] [] [1,2,3,4,5,0,0,6,5,0,0,6,0,7,0,8,0,9,0,0,0] (.tup [.agg [.lit (.bool (!(c==d))),.wd 1],.agg [.lit (.bool (decide (b + -a<0))),.wd (b + -a)]]) [pDD a b,decide (zdu (a.natAbs:Int) (b.natAbs:Int)<0)=true,c=true,decide ((↑((digs a.natAbs).length):Int) > 0)=true,bZ 1,pDD 0 1,false=decide (a<0),false=decide (b<0),pDD b (-a)]:={}
theorem ov_2 (c d:Bool) (a b:Int):FunI (dZ Tryz.prog zqq bw) 60 133 [.agg [.lit (.bool c),.wd a],.agg [.lit (.bool d),.wd b]] [1,0,0] [] [1,2,3,0,0,0] (.tup [.agg [.ff,aN],.agg [aF,.wd a]]) [pDD a b,decide (zdu (a.natAbs:Int) (b.natAbs:Int)<0)=true,c=false]:={}
theorem ov_3 (c d:Bool) (a b:Int):FunI (dZ Tryz.prog zqq bw) 60 133 [.agg [.lit (.bool c),.wd a],.agg [.lit (.bool d),.wd b]] [0,1,1,1,1] [] [1,2,3,0,4,5,6,7,8,9,10,11,0,12,10,11,0,12,0,0,0,13,0,14,15,0,0] (.tup [.agg [.lit (.bool (!(c==d))),.wd (vl (digs a.natAbs) / (digs b.natAbs).getD 0 0+1)],.agg [.lit (.bool (decide (b + -(vl (digs a.natAbs) % (digs b.natAbs).getD 0 0)<0))),.wd (b + -(vl (digs a.natAbs) % (digs b.natAbs).getD 0 0))]]) [pDD a b,decide (zdu (a.natAbs:Int) (b.natAbs:Int)<0)=false,((↑((digs b.natAbs).length):Int)==1)=true,decide (0<(↑((digs b.natAbs).length):Int))=true,decide (0<(digs b.natAbs).length)=true,zgk (digs a.natAbs) ((digs b.natAbs).getD 0 0),bZ (vl (digs a.natAbs) % (digs b.natAbs).getD 0 0),c=true,decide ((↑((digs (vl (digs a.natAbs) % (digs b.natAbs).getD 0 0).natAbs).length):Int) > 0)=true,bZ 1,false=decide (vl (digs a.natAbs) / (digs b.natAbs).getD 0 0<0),pDD (vl (digs a.natAbs) / (digs b.natAbs).getD 0 0) 1,false=decide (b<0),pDD b (-(vl (digs a.natAbs) % (digs b.natAbs).getD 0 0)),decide ((↑((digs (vl (digs a.natAbs) / (digs b.natAbs).getD 0 0+1).natAbs).length):Int) > 0)=true]:={}
theorem ov_5 (c d:Bool) (a b:Int):FunI (dZ Tryz.prog zqq bw) 60 133 [.agg [.lit (.bool c),.wd a],.agg [.lit (.bool d),.wd b]] [0,1,1,0,1] [] [1,2,3,0,4,5,6,7,8,9,10,0,0] (.tup [.agg [.lit (.bool (!(c==d))),.wd (vl (digs a.natAbs) / (digs b.natAbs).getD 0 0)],.agg [.lit (.bool (decide (vl (digs a.natAbs) % (digs b.natAbs).getD 0 0<0))),.wd (vl (digs a.natAbs) % (digs b.natAbs).getD 0 0)]]) [pDD a b,decide (zdu (a.natAbs:Int) (b.natAbs:Int)<0)=false,((↑((digs b.natAbs).length):Int)==1)=true,decide (0<(↑((digs b.natAbs).length):Int))=true,decide (0<(digs b.natAbs).length)=true,zgk (digs a.natAbs) ((digs b.natAbs).getD 0 0),bZ (vl (digs a.natAbs) % (digs b.natAbs).getD 0 0),c=true,decide ((↑((digs (vl (digs a.natAbs) % (digs b.natAbs).getD 0 0).natAbs).length):Int) > 0)=false,decide ((↑((digs (vl (digs a.natAbs) / (digs b.natAbs).getD 0 0).natAbs).length):Int) > 0)=true]:={}
theorem ov_7 (c d:Bool) (a b:Int):FunI (dZ Tryz.prog zqq bw) 60 133 [.agg [.lit (.bool c),.wd a],.agg [.lit (.bool d),.wd b]] [0,1,0,1] [] [1,2,3,0,4,5,6,7,8,9,0,0] (.tup [.agg [.lit (.bool (!(c==d))),.wd (vl (digs a.natAbs) / (digs b.natAbs).getD 0 0)],.agg [.lit (.bool (decide (vl (digs a.natAbs) % (digs b.natAbs).getD 0 0<0))),.wd (vl (digs a.natAbs) % (digs b.natAbs).getD 0 0)]]) [pDD a b,decide (zdu (a.natAbs:Int) (b.natAbs:Int)<0)=false,((↑((digs b.natAbs).length):Int)==1)=true,decide (0<(↑((digs b.natAbs).length):Int))=true,decide (0<(digs b.natAbs).length)=true,zgk (digs a.natAbs) ((digs b.natAbs).getD 0 0),bZ (vl (digs a.natAbs) % (digs b.natAbs).getD 0 0),c=false,decide ((↑((digs (vl (digs a.natAbs) / (digs b.natAbs).getD 0 0).natAbs).length):Int) > 0)=true]:={}
theorem ov_9 (c d:Bool) (a b:Int):FunI (dZ Tryz.prog zqq bw) 60 133 [.agg [.lit (.bool c),.wd a],.agg [.lit (.bool d),.wd b]] [0,0,1,1,1] [] [1,2,3,4,5,6,7,8,0,9,7,8,0,9,0,10,0,11,0,12,13,0,0] (.tup [.agg [.lit (.bool (!(c==d))),.wd ((a.natAbs:Int) / (b.natAbs:Int)+1)],.agg [.lit (.bool (decide (b + -((a.natAbs:Int) % (b.natAbs:Int))<0))),.wd (b + -((a.natAbs:Int) % (b.natAbs:Int)))]]) [pDD a b,decide (zdu (a.natAbs:Int) (b.natAbs:Int)<0)=false,((↑((digs b.natAbs).length):Int)==1)=false,zoK a b,c=true,decide ((↑((digs ((a.natAbs:Int) % (b.natAbs:Int)).natAbs).length):Int) > 0)=true,bZ 1,false=decide ((a.natAbs:Int) / (b.natAbs:Int)<0),pDD ((a.natAbs:Int) / (b.natAbs:Int)) 1,false=decide ((a.natAbs:Int) % (b.natAbs:Int)<0),false=decide (b<0),pDD b (-((a.natAbs:Int) % (b.natAbs:Int))),decide ((↑((digs ((a.natAbs:Int) / (b.natAbs:Int)+1).natAbs).length):Int) > 0)=true]:={}
theorem ov_11 (c d:Bool) (a b:Int):FunI (dZ Tryz.prog zqq bw) 60 133 [.agg [.lit (.bool c),.wd a],.agg [.lit (.bool d),.wd b]] [0,0,1,0,1] [] [1,2,3,4,5,6,7,0,0] (.tup [.agg [.lit (.bool (!(c==d))),.wd ((a.natAbs:Int) / (b.natAbs:Int))],.agg [aF,.wd ((a.natAbs:Int) % (b.natAbs:Int))]]) [pDD a b,decide (zdu (a.natAbs:Int) (b.natAbs:Int)<0)=false,((↑((digs b.natAbs).length):Int)==1)=false,zoK a b,c=true,decide ((↑((digs ((a.natAbs:Int) % (b.natAbs:Int)).natAbs).length):Int) > 0)=false,decide ((↑((digs ((a.natAbs:Int) / (b.natAbs:Int)).natAbs).length):Int) > 0)=true]:={}
theorem ov_13 (c d:Bool) (a b:Int):FunI (dZ Tryz.prog zqq bw) 60 133 [.agg [.lit (.bool c),.wd a],.agg [.lit (.bool d),.wd b]] [0,0,0,1] [] [1,2,3,4,5,6,0,0] (.tup [.agg [.lit (.bool (!(c==d))),.wd ((a.natAbs:Int) / (b.natAbs:Int))],.agg [aF,.wd ((a.natAbs:Int) % (b.natAbs:Int))]]) [pDD a b,decide (zdu (a.natAbs:Int) (b.natAbs:Int)<0)=false,((↑((digs b.natAbs).length):Int)==1)=false,zoK a b,c=false,decide ((↑((digs ((a.natAbs:Int) / (b.natAbs:Int)).natAbs).length):Int) > 0)=true]:={}
theorem cmpW_0 (a b:Int):FunI (dZ Tryz.prog zqq bw) 60 125 [W a,W b] [] [] [0,0,0,0,1,0,0] (aI (a + -b).sign) [pDD a (-b)]:={}
end
theorem zc2 {a b:Int} (h:zaK b) (hab:a.natAbs≤b.natAbs):zaK a:=by
  unfold zaK dl at *
  have:=znm hab
  omega
theorem fits1:zaK 1:=by unfold zaK dl;decide
theorem Rd_sgW {E:Env} {s:Bool} {m z:Int} {v:Value} (hs:s=decide (z<0)) (hm:m.natAbs=z.natAbs) (h:Rd E (.agg [.lit (.bool s),.wd m]) v):Rd E (W z) v:=
  h.toW (l:=digs m.natAbs) rfl rfl hs (by rw [hm])
theorem over_nn (na nb:Bool) (a b:Int) (ha:0≤a) (hb:0<b) (hna:na=true→0<a) (hfa:zaK a) (hfb:zaK b) :
    FC Tryz.prog 133 [.agg [.lit (.bool na),.wd a],.agg [.lit (.bool nb),.wd b]]
      (.tup [W ((if na then -a else a) / (if nb then -b else b)),W ((if na then -a else a) % (if nb then -b else b))]):=by
  have haa:(a.natAbs:Int)=a:=by omega
  have hbb:(b.natAbs:Int)=b:=by omega
  have hQ0:0≤a / b:=Int.ediv_nonneg ha (by omega)
  have hR0:0≤a % b:=Int.emod_nonneg _ (by omega)
  have hR1:a % b<b:=Int.emod_lt_of_pos _ hb
  have hdm:=Int.mul_ediv_add_emod a b
  have hQle:a / b≤a:=Int.ediv_le_self _ ha
  have hfQ:zaK (a / b):=zc2 hfa (by omega)
  have hfR:zaK (a % b):=zc2 hfb (by omega)
  have hP:pDD a b:=⟨hfa,hfb⟩
  have hP1:pDD (a / b) 1:=⟨hfQ,fits1⟩
  have hqn:false=decide (a / b<0):=by simp;omega
  have hrn:false=decide (a % b<0):=by simp;omega
  have hbn:false=decide (b<0):=by simp;omega
  have han:false=decide (a<0):=by simp;omega
  have hpf1:bZ 1:=by unfold bZ;decide
  have hvla:vl (digs a.natAbs)=a:=by rw [zap,haa]
  have hfR2:zaK (-(a % b)):=zc2 hfb (by omega)
  have hP3:pDD b (-(a % b)):=⟨hfb,hfR2⟩
  have hpos:(a / b=a / b)∧True:=⟨rfl,trivial⟩
  have neg1:0<a % b→(-a) / b = -(a / b+1)∧(-a) % b=b-a % b:=fun h=>
    (Int.ediv_emod_unique hb).2 ⟨by rw [Int.mul_neg,Int.mul_add,Int.mul_one];omega,by omega,by omega⟩
  have neg0:a % b=0→(-a) / b = -(a / b)∧(-a) % b=0:=fun h=>
    (Int.ediv_emod_unique hb).2 ⟨by rw [Int.mul_neg];omega,by omega,by omega⟩
  have fin : ∀(s:Bool) (m r:Int),0≤m→(m=0→s=false)→(if na then -a else a) / b=(if na then -m else m)→(if na then -a else a) % b=r→(s=(!(na==nb))∨m=0) →
      ∀(E:Env) (v:Value) (sr:Bool),sr=decide (r<0)→Rd E (.tup [.agg [.lit (.bool s),.wd m],.agg [.lit (.bool sr),.wd r]]) v →
        Rd E (.tup [W ((if na then -a else a) / (if nb then -b else b)),W ((if na then -a else a) % (if nb then -b else b))]) v:=by
    intro s m r hm hm0 h1 h2 hs E v sr hsr hv
    refine hv.tup2 (fun u hu=>Rd_sgW ?_ ?_ hu) (fun u hu=>Rd_sgW ?_ ?_ hu)
    · by_cases hmz:m=0
      · rw [hm0 hmz]
        cases nb
        · simp only [Bool.false_eq_true,if_false]
          rw [h1,hmz];cases na<;>simp
        · simp only [if_true]
          rw [Int.ediv_neg,h1,hmz];cases na<;>simp
      · rcases hs with hs | hs
        · rw [hs]
          cases nb
          · simp only [Bool.false_eq_true,if_false]
            rw [h1];cases na<;>simp<;>omega
          · simp only [if_true]
            rw [Int.ediv_neg,h1];cases na<;>simp<;>omega
        · exact absurd hs hmz
    · cases nb
      · simp only [Bool.false_eq_true,if_false]
        rw [h1];cases na<;>simp
      · simp only [if_true]
        rw [Int.ediv_neg,h1];cases na<;>simp
    · cases nb
      · simp only [Bool.false_eq_true,if_false];rw [h2];exact hsr
      · simp only [if_true];rw [Int.emod_neg,h2];exact hsr
    · cases nb
      · simp only [Bool.false_eq_true,if_false];rw [h2]
      · simp only [if_true];rw [Int.emod_neg,h2]
  have hsr0:∀r:Int,0≤r→false=decide (r<0):=fun r h=>by simp;omega
  by_cases hab:a<b
  · -- the dividend is the smaller one
    have hq:a / b=0:=Int.ediv_eq_zero_of_lt ha hab
    have hr:a % b=a:=Int.emod_eq_of_lt ha hab
    have hcmp:zdu a b = -1:=by unfold zdu;rw [if_pos hab]
    cases na with
    | true=>
      have ha0:=hna rfl
      have hp:=zcg (show a≠0 by omega)
      have hP0:pDD 0 1:=⟨zc2 fits1 (by decide),fits1⟩
      have hfa2:zaK (-a):=zc2 hfa (by omega)
      have hP4:pDD b (-a):=⟨hfb,hfa2⟩
      have:=mZ ok9 (ov_0 true nb a b) (by
        rw [haa,hbb,hcmp]
        exact(by(repeat' (first | exact AllC.nil | refine AllC.cons ?_ ?_));all_goals (first | ((with_reducible refine inR64.2 ?_);omega) | (with_reducible refine pFl ?_ ?_<;>omega) | ((with_reducible refine decide_eq_true ?_);omega) | ((with_reducible refine decide_eq_false ?_);omega) | omega | (simp []<;>omega) | assumption | rfl)))
      have h1:=neg1 (by omega)
      rw [hq,hr] at h1
      refine this.res fun E v hv=>fin _ 1 (b + -a) (by omega) (by omega) (by simpa using h1.1) (by simpa using (by have:=h1.2;omega:(-a) % b=b + -a)) (.inl rfl) E v _ rfl hv
    | false=>
      have:=mZ ok9 (ov_2 false nb a b) (by
        rw [haa,hbb,hcmp]
        exact(by(repeat' (first | exact AllC.nil | refine AllC.cons ?_ ?_));all_goals (first | ((with_reducible refine inR64.2 ?_);omega) | (with_reducible refine pFl ?_ ?_<;>omega) | ((with_reducible refine decide_eq_true ?_);omega) | ((with_reducible refine decide_eq_false ?_);omega) | omega | (simp []<;>omega) | assumption | rfl)))
      refine this.res fun E v hv=>fin false 0 a (by omega) (fun _=>rfl) (by simpa using hq) (by simpa using hr) (.inr rfl) E v false (hsr0 a ha) ?_
      exact hv.tup2 (fun u hu=>hu.agg2 (fun w hw=>by cases hw;exact .lit _) (fun w hw=>hw.toWd (l:=[]) rfl rfl)) (fun u hu=>hu)
  · have hcmp:decide (zdu a b<0)=false:=by unfold zdu;rw [if_neg hab];split<;>rfl
    have hQ1:1≤a / b:=(Int.le_ediv_iff_mul_le hb).2 (by omega)
    have hQp:=zcg (show a / b≠0 by omega)
    have hQp1:=zcg (show a / b+1≠0 by omega)
    by_cases h1:(digs b.natAbs).length=1
    · -- one digit
      have hd0:(digs b.natAbs).getD 0 0=b:=by
        have hv:=zap b.natAbs
        match hq:digs b.natAbs,h1 with
        | [d],_=>rw [hq] at hv;simp only [vl] at hv;show d=b;omega
      have hbd:=(MZ (rZ b.natAbs) 0).2
      rw [hd0] at hbd
      have hps:zgk (digs a.natAbs) b:=⟨rZ _,by unfold zaK dl at hfa;omega,hb,by omega⟩
      have hpf:bZ (a % b):=⟨by omega,by omega⟩
      cases na with
      | true=>
        by_cases hr:a % b=0
        · have hrz:(digs (a % b).natAbs).length=0:=by rw [hr];rfl
          have:=mZ ok9 (ov_5 true nb a b) (by
            simp only [haa,hbb,hcmp,hvla,hd0]
            exact(by(repeat' (first | exact AllC.nil | refine AllC.cons ?_ ?_));all_goals (first | ((with_reducible refine inR64.2 ?_);omega) | (with_reducible refine pFl ?_ ?_<;>omega) | ((with_reducible refine decide_eq_true ?_);omega) | ((with_reducible refine decide_eq_false ?_);omega) | omega | (simp [h1]<;>omega) | assumption | rfl)))
          simp only [hvla,hd0] at this
          have h2:=neg0 hr
          refine this.res fun E v hv=>fin _ (a / b) (a % b) hQ0 (by omega) (by simpa using h2.1) (by rw [hr];simpa using h2.2) (.inl rfl) E v _ rfl hv
        · have hrp:=zcg hr
          have:=mZ ok9 (ov_3 true nb a b) (by
            simp only [haa,hbb,hcmp,hvla,hd0]
            exact(by(repeat' (first | exact AllC.nil | refine AllC.cons ?_ ?_));all_goals (first | ((with_reducible refine inR64.2 ?_);omega) | (with_reducible refine pFl ?_ ?_<;>omega) | ((with_reducible refine decide_eq_true ?_);omega) | ((with_reducible refine decide_eq_false ?_);omega) | omega | (simp [h1]<;>omega) | assumption | rfl)))
          simp only [hvla,hd0] at this
          have h2:=neg1 (by omega)
          refine this.res fun E v hv=>fin _ (a / b+1) (b + -(a % b)) (by omega) (by omega) (by simpa using h2.1) (by have:=h2.2;simp only [if_true];omega) (.inl rfl) E v _ rfl hv
      | false=>
        have:=mZ ok9 (ov_7 false nb a b) (by
          simp only [haa,hbb,hcmp,hvla,hd0]
          exact(by(repeat' (first | exact AllC.nil | refine AllC.cons ?_ ?_));all_goals (first | ((with_reducible refine inR64.2 ?_);omega) | (with_reducible refine pFl ?_ ?_<;>omega) | ((with_reducible refine decide_eq_true ?_);omega) | ((with_reducible refine decide_eq_false ?_);omega) | omega | (simp [h1]<;>omega) | assumption | rfl)))
        simp only [hvla,hd0] at this
        refine this.res fun E v hv=>fin _ (a / b) (a % b) hQ0 (by omega) (by simp) (by simp) (.inl rfl) E v _ rfl hv
    · have hpb:=zcg (show b≠0 by omega)
      have hpl:zoK a b:=⟨by omega,hfa,hfb,by omega⟩
      cases na with
      | true=>
        by_cases hr:a % b=0
        · have hrz:(digs (a % b).natAbs).length=0:=by rw [hr];rfl
          have:=mZ ok9 (ov_11 true nb a b) (by
            simp only [haa,hbb,hcmp]
            exact(by(repeat' (first | exact AllC.nil | refine AllC.cons ?_ ?_));all_goals (first | ((with_reducible refine inR64.2 ?_);omega) | (with_reducible refine pFl ?_ ?_<;>omega) | ((with_reducible refine decide_eq_true ?_);omega) | ((with_reducible refine decide_eq_false ?_);omega) | omega | (simp [h1]<;>omega) | assumption | rfl)))
          simp only [haa,hbb] at this
          have h2:=neg0 hr
          refine this.res fun E v hv=>fin _ (a / b) (a % b) hQ0 (by omega) (by simpa using h2.1) (by rw [hr];simpa using h2.2) (.inl rfl) E v _ hrn hv
        · have hrp:=zcg hr
          have:=mZ ok9 (ov_9 true nb a b) (by
            simp only [haa,hbb,hcmp]
            exact(by(repeat' (first | exact AllC.nil | refine AllC.cons ?_ ?_));all_goals (first | ((with_reducible refine inR64.2 ?_);omega) | (with_reducible refine pFl ?_ ?_<;>omega) | ((with_reducible refine decide_eq_true ?_);omega) | ((with_reducible refine decide_eq_false ?_);omega) | omega | (simp [h1]<;>omega) | assumption | rfl)))
          simp only [haa,hbb] at this
          have h2:=neg1 (by omega)
          refine this.res fun E v hv=>fin _ (a / b+1) (b + -(a % b)) (by omega) (by omega) (by simpa using h2.1) (by have:=h2.2;simp only [if_true];omega) (.inl rfl) E v _ rfl hv
      | false=>
        have:=mZ ok9 (ov_13 false nb a b) (by
          simp only [haa,hbb,hcmp]
          exact(by(repeat' (first | exact AllC.nil | refine AllC.cons ?_ ?_));all_goals (first | ((with_reducible refine inR64.2 ?_);omega) | (with_reducible refine pFl ?_ ?_<;>omega) | ((with_reducible refine decide_eq_true ?_);omega) | ((with_reducible refine decide_eq_false ?_);omega) | omega | (simp [h1]<;>omega) | assumption | rfl)))
        simp only [haa,hbb] at this
        refine this.res fun E v hv=>fin _ (a / b) (a % b) hQ0 (by omega) (by simp) (by simp) (.inl rfl) E v _ hrn hv
end Go.Proofs.YtloaeinogiplbaaGreatDoor
end
section
open Go Go.Ev
namespace Go.Proofs.YtloaeinogiplbaaGreatDoor
open Go.Proofs
abbrev GC (a b:Int):St:=⟨sp 20 [(2,.ref 0 0),(3,.ref 1 0),(4,.ref 2 0)],[.flat [.lit (.bool (decide (a<0))),.wd a] true,.flat [.lit (.bool (decide (b<0))),.wd b] true,.flat [.lit (.bool false),.lit (.slice none 0 0)] true],[0,1]⟩
def zfV (a b:Int):Prop:=b≠0∧zaK a∧zaK b
instance tstOver {a b:Int}:Tst (zfV a b):=inferInstanceAs (Tst (b≠0∧zaK a∧zaK b))
theorem hpos (x:Int) (h:decide (x<0)=true):0<(x.natAbs:Int):=by
  have:x<0:=by simpa using h
  omega
theorem over_fc (x y:Int) (h:zfV x y):FC Tryz.prog 133 [W x,W y] (.tup [W (x / y),W (x % y)]):=by
  obtain ⟨hy,hx,hfy⟩:=h
  have:=over_nn (decide (x<0)) (decide (y<0)) (x.natAbs:Int) (y.natAbs:Int) (by omega) (by omega) (fun h=>hpos x h) (zc2 hx (by simp)) (zc2 hfy (by simp))
  have e1:(if decide (x<0)=true then -(x.natAbs:Int) else(x.natAbs:Int))=x:=by
    by_cases h:x<0
    · rw [if_pos (by simpa using h)];omega
    · rw [if_neg (by simpa using h)];omega
  have e2:(if decide (y<0)=true then -(y.natAbs:Int) else(y.natAbs:Int))=y:=by
    by_cases h:y<0
    · rw [if_pos (by simpa using h)];omega
    · rw [if_neg (by simpa using h)];omega
  rw [e1,e2] at this
  exact this.arg2 (fun E v h=>h.agg2 (fun _ h=>h) (fun _ h=>Rd.natAbs (by simp) h)) (fun E v h=>h.agg2 (fun _ h=>h) (fun _ h=>Rd.natAbs (by simp) h))
theorem cmpW_fc (a b:Int) (h:pDD a b):FC Tryz.prog 125 [W a,W b] (.lit (.int .i64 (a-b).sign)):=by
  have hb:pDD a (-b):=⟨h.1,zc2 h.2 (by omega)⟩
  have:=mZ ok9 (cmpW_0 a b) (by(repeat' (first | exact AllC.nil | refine AllC.cons ?_ ?_));all_goals (first | exact viaL_ok | ((with_reducible refine inR64.2 ?_);omega) | (with_reducible refine pFl ?_ ?_<;>omega) | ((with_reducible refine decide_eq_true ?_);omega) | ((with_reducible refine decide_eq_false ?_);omega) | omega | (simp []<;>omega) | assumption | rfl))
  rw [show a + -b=a-b by omega] at this
  exact this
def zoj:Ctr:=(133,c2 zfV (fun a b=>.tup [W (a / b),W (a % b)])) :: (125,c2 pDD (fun a b=>.lit (.int .i64 (a-b).sign))) :: zqq
theorem zky:∀p∈zoj,lZ Tryz.prog p.1 p.2:=CAll.cons (c2_ok over_fc)<|CAll.cons (c2_ok cmpW_fc) zm3
theorem ok10:(dZ Tryz.prog zoj bw).OK:=QZ zky
end Go.Proofs.YtloaeinogiplbaaGreatDoor
end
section
open Go Go.Ev Go.RowKit
namespace Go.Proofs.YtloaeinogiplbaaGreatDoor
open Go.Proofs
set_option maxRecDepth 100000
set_option maxHeartbeats 1000000
set_option linter.unusedVariables false
set_option linter.unusedSimpArgs false
noncomputable section
theorem gcL_0 (a b:Int):RndI (dZ Tryz.prog zoj bw) 60 (pZ Tryz.prog 165 0) 3 [] [2,3,4] [0,1] (GC a b) [1] [] [0,0,1,0,0,2] (Ex.normal) (⟨sp 20 [(2,.ref 0 0),(3,.ref 1 0),(4,.ref 2 0)],[.flat [aD b,.wd b] true,.flat [.lit (.bool (decide (a % b<0))),.wd (a % b)] true,.flat [aF,aN] true],[0,1]⟩) [(b.sign != 0)=true,zfV a b]:={}
theorem gcL_1 (a b:Int):RndI (dZ Tryz.prog zoj bw) 60 (pZ Tryz.prog 165 0) 3 [] [2,3,4] [0,1] (GC a b) [0] [] [0,0,1] (Ex.exit 0) (⟨sp 20 [(2,.ref 0 0),(3,.ref 1 0),(4,.ref 2 0)],[.flat [aD a,.wd a] true,.flat [aD b,.wd b] true,.flat [aF,aN] true],[0,1]⟩) [(b.sign != 0)=false]:={}
theorem gcf_0 (a b g:Int):FunI (dZ Tryz.prog zoj bw) 60 165 [W a,W b] [] [some (zev Tryz.prog (pZ Tryz.prog 165 0) [] [2,3,4] [0,1] (GC a b) (.exit 0,GC g 0))] [0,1] (.agg [.ff,.wd g]) [Loops 3 Tryz.prog (pZ Tryz.prog 165 0) ⟨sp 20 [(2,.ref 0 0),(3,.ref 1 0),(4,.ref 2 0)],[.flat [aD a,.wd a] true,.flat [aD b,.wd b] true,.flat [aF,aN] true],[0,1]⟩ (Ex.exit 0,⟨sp 20 [(2,.ref 0 0),(3,.ref 1 0),(4,.ref 2 0)],[.flat [aD g,.wd g] true,.flat [aF,.wd 0] true,.flat [aF,aN] true],[0,1]⟩)]:={}
end
theorem znj (a b:Int):Int.gcd b (a % b)=Int.gcd a b:=by
  have h:=Int.mul_ediv_add_emod a b
  refine Nat.dvd_antisymm (Int.dvd_gcd ?_ ?_) (Int.dvd_gcd ?_ ?_)
  · have h1:=Int.gcd_dvd_left b (a % b)
    have h2:=Int.gcd_dvd_right b (a % b)
    have h3:=Int.dvd_add (Int.dvd_mul_of_dvd_left (c:=a / b) h1) h2
    rwa [h] at h3
  · exact Int.gcd_dvd_left b (a % b)
  · exact Int.gcd_dvd_right a b
  · have h1:=Int.gcd_dvd_left a b
    have h2:=Int.gcd_dvd_right a b
    have h3:=Int.dvd_sub h1 (Int.dvd_mul_of_dvd_left (c:=a / b) h2)
    have e:a-b*(a / b)=a % b:=by omega
    rwa [e] at h3
theorem gcdL:∀(m:Nat) (a b:Int),b.natAbs≤m→zaK a→zaK b →
    ∃g:Int,g.natAbs=Int.gcd a b∧Loops 3 Tryz.prog (pZ Tryz.prog 165 0) (GC a b) (.exit 0,GC g 0):=by
  intro m
  induction m with
  | zero=>
    intro a b hb ha hfb
    obtain rfl:b=0:=by omega
    exact ⟨a,(Int.gcd_zero_right a).symm,Loops.fin (LS.of ok10 (gcL_1 a 0) (by(repeat' (first | exact AllC.nil | refine AllC.cons ?_ ?_));all_goals (first | ((with_reducible refine inR64.2 ?_);omega) | (with_reducible refine pFl ?_ ?_<;>omega) | ((with_reducible refine decide_eq_true ?_);omega) | ((with_reducible refine decide_eq_false ?_);omega) | omega | (simp []<;>omega) | assumption | rfl))) (by simp [Ex.toExit])⟩
  | succ m ih=>
    intro a b hb ha hfb
    by_cases h0:b=0
    · subst h0
      exact ⟨a,(Int.gcd_zero_right a).symm,Loops.fin (LS.of ok10 (gcL_1 a 0) (by(repeat' (first | exact AllC.nil | refine AllC.cons ?_ ?_));all_goals (first | ((with_reducible refine inR64.2 ?_);omega) | (with_reducible refine pFl ?_ ?_<;>omega) | ((with_reducible refine decide_eq_true ?_);omega) | ((with_reducible refine decide_eq_false ?_);omega) | omega | (simp []<;>omega) | assumption | rfl))) (by simp [Ex.toExit])⟩
    · have hs:(Int.sign b != 0)=true:=by
        rw [bne_iff_ne];intro h;exact h0 (Int.sign_eq_zero_iff_zero.1 h)
      have hp:zfV a b:=⟨h0,ha,hfb⟩
      have h:=LS.of ok10 (gcL_0 a b) (by(repeat' (first | exact AllC.nil | refine AllC.cons ?_ ?_));all_goals (first | ((with_reducible refine inR64.2 ?_);omega) | (with_reducible refine pFl ?_ ?_<;>omega) | ((with_reducible refine decide_eq_true ?_);omega) | ((with_reducible refine decide_eq_false ?_);omega) | omega | (simp []<;>omega) | assumption | rfl))
      have hr0:=Int.emod_nonneg a h0
      have hr1:a % b<b.natAbs:=Int.emod_lt a h0
      obtain ⟨g,h1,h2⟩:=ih b (a % b) (by omega) hfb (zc2 hfb (by omega))
      exact ⟨g,by rw [h1,znj],Loops.go h h2⟩
theorem common_fc (a b:Int) (h:pDD a b):FC Tryz.prog 165 [W a,W b] (W (Int.gcd a b:Int)):=by
  obtain ⟨g,h1,h2⟩:=gcdL b.natAbs a b (Nat.le_refl _) h.1 h.2
  have:=mZ ok10 (gcf_0 a b g) (.cons h2 .nil)
  exact this.res fun E v hv=>hv.toW (b:=false) (l:=digs g.natAbs) rfl rfl (by simp) (by rw [h1];simp)
def zbc:Ctr:=(165,c2 pDD (fun a b=>W (Int.gcd a b:Int))) :: zoj
theorem zeN:∀p∈zbc,lZ Tryz.prog p.1 p.2:=CAll.cons (c2_ok common_fc) zky
theorem zhx:(dZ Tryz.prog zbc bw).OK:=QZ zeN
noncomputable section
theorem sa0_0 (a b:Int):FunI (dZ Tryz.prog zbc bw) 60 153 [.sl (yZ .W []) 0,W a,W b] [] [] [1,0,0,0] (aI 0) [bZ 1]:={}
theorem sa1_0 (c a b:Int):FunI (dZ Tryz.prog zbc bw) 60 153 [.sl (yZ .W [c]) 1,W a,W b] [] [] [1,0,0,0,2,0,0,3,0,0,4,0,0,5,0,0] (aI (0*a+c*1).sign) [bZ 1,pDD 0 a,pDD c 1,pDD (0*a) (c*1),pDD 1 b]:={}
theorem sa2_0 (c d a b:Int):FunI (dZ Tryz.prog zbc bw) 60 153 [.sl (yZ .W [c,d]) 2,W a,W b] [] [] [1,0,0,0,2,0,0,3,0,0,4,0,0,5,0,0,6,0,0,7,0,0,8,0,0,9,0,0] (aI ((0*a+d*1)*a+c*(1*b)).sign) [bZ 1,pDD 0 a,pDD d 1,pDD (0*a) (d*1),pDD 1 b,pDD (0*a+d*1) a,pDD c (1*b),pDD ((0*a+d*1)*a) (c*(1*b)),pDD (1*b) b]:={}
theorem sa3_0 (c d e a b:Int):FunI (dZ Tryz.prog zbc bw) 60 153 [.sl (yZ .W [c,d,e]) 3,W a,W b] [] [] [1,0,0,0,2,0,0,3,0,0,4,0,0,5,0,0,6,0,0,7,0,0,8,0,0,9,0,0,10,0,0,11,0,0,12,0,0,13,0,0] (aI (((0*a+e*1)*a+d*(1*b))*a+c*(1*b*b)).sign) [bZ 1,pDD 0 a,pDD e 1,pDD (0*a) (e*1),pDD 1 b,pDD (0*a+e*1) a,pDD d (1*b),pDD ((0*a+e*1)*a) (d*(1*b)),pDD (1*b) b,pDD ((0*a+e*1)*a+d*(1*b)) a,pDD c (1*b*b),pDD (((0*a+e*1)*a+d*(1*b))*a) (c*(1*b*b)),pDD (1*b*b) b]:={}
theorem sa4_0 (c d e f a b:Int):FunI (dZ Tryz.prog zbc bw) 60 153 [.sl (yZ .W [c,d,e,f]) 4,W a,W b] [] [] [1,0,0,0,2,0,0,3,0,0,4,0,0,5,0,0,6,0,0,7,0,0,8,0,0,9,0,0,10,0,0,11,0,0,12,0,0,13,0,0,14,0,0,15,0,0,16,0,0,17,0,0] (aI ((((0*a+f*1)*a+e*(1*b))*a+d*(1*b*b))*a+c*(1*b*b*b)).sign) [bZ 1,pDD 0 a,pDD f 1,pDD (0*a) (f*1),pDD 1 b,pDD (0*a+f*1) a,pDD e (1*b),pDD ((0*a+f*1)*a) (e*(1*b)),pDD (1*b) b,pDD ((0*a+f*1)*a+e*(1*b)) a,pDD d (1*b*b),pDD (((0*a+f*1)*a+e*(1*b))*a) (d*(1*b*b)),pDD (1*b*b) b,pDD (((0*a+f*1)*a+e*(1*b))*a+d*(1*b*b)) a,pDD c (1*b*b*b),pDD ((((0*a+f*1)*a+e*(1*b))*a+d*(1*b*b))*a) (c*(1*b*b*b)),pDD (1*b*b*b) b]:={}
theorem sa5_0 (c d e f g a b:Int):FunI (dZ Tryz.prog zbc bw) 60 153 [.sl (yZ .W [c,d,e,f,g]) 5,W a,W b] [] [] [1,0,0,0,2,0,0,3,0,0,4,0,0,5,0,0,6,0,0,7,0,0,8,0,0,9,0,0,10,0,0,11,0,0,12,0,0,13,0,0,14,0,0,15,0,0,16,0,0,17,0,0,18,0,0,19,0,0,20,0,0,21,0,0] (aI (((((0*a+g*1)*a+f*(1*b))*a+e*(1*b*b))*a+d*(1*b*b*b))*a+c*(1*b*b*b*b)).sign) [bZ 1,pDD 0 a,pDD g 1,pDD (0*a) (g*1),pDD 1 b,pDD (0*a+g*1) a,pDD f (1*b),pDD ((0*a+g*1)*a) (f*(1*b)),pDD (1*b) b,pDD ((0*a+g*1)*a+f*(1*b)) a,pDD e (1*b*b),pDD (((0*a+g*1)*a+f*(1*b))*a) (e*(1*b*b)),pDD (1*b*b) b,pDD (((0*a+g*1)*a+f*(1*b))*a+e*(1*b*b)) a,pDD d (1*b*b*b),pDD ((((0*a+g*1)*a+f*(1*b))*a+e*(1*b*b))*a) (d*(1*b*b*b)),pDD (1*b*b*b) b,pDD ((((0*a+g*1)*a+f*(1*b))*a+e*(1*b*b))*a+d*(1*b*b*b)) a,pDD c (1*b*b*b*b),pDD (((((0*a+g*1)*a+f*(1*b))*a+e*(1*b*b))*a+d*(1*b*b*b))*a) (c*(1*b*b*b*b)),pDD (1*b*b*b*b) b]:={}
end
theorem nZ {x y:Int} {j k:Nat} [hx:SzC x j] [hy:SzC y k] (hj:j≤1048576) (hk:k≤1048576):pDD x y:=⟨zd4 hj,zd4 hk⟩
def zlO (a b:Int):List Int→Int × Int
  | []=>(0,1)
  | c :: l=>((zlO a b l).1*a+c*(zlO a b l).2,(zlO a b l).2*b)
def zag (l:List Int) (a b:Int):Int:=(zlO a b l).1
def zdc (l:List Int) (a b:Int):Prop:=Nat.ble l.length 5=true∧SzL 20000 l∧Sz 20000 a∧Sz 20000 b
instance tstPoly {l:List Int} {a b:Int}:Tst (zdc l a b):=inferInstanceAs (Tst (_∧SzL 20000 l∧Sz 20000 a∧Sz 20000 b))
theorem zhY (l:List Int) (a b:Int) (h:zdc l a b):FC Tryz.prog 153 [.zl .W l,W a,W b] (.lit (.int .i64 (zag l a b).sign)):=by
  obtain ⟨hl,hz,ha,hb⟩:=h
  have ia:SzC a 20000:=⟨ha⟩
  have ib:SzC b 20000:=⟨hb⟩
  match l,hl,hz with
  | [],_,_=>
    exact(mZ zhx (sa0_0  a b) (by(repeat' (first | exact AllC.nil | refine AllC.cons ?_ ?_));all_goals (first | (with_reducible rfl) | exact nZ (by decide) (by decide) | trivial | exact ⟨by decide,by decide⟩))).le (.cons (Le.zl_sl .W []) (LeL.refl _)) (Le.refl _)
  | [c0],_,⟨h0,_⟩=>
    have i0:SzC c0 20000:=⟨h0⟩
    exact(mZ zhx (sa1_0 c0 a b) (by(repeat' (first | exact AllC.nil | refine AllC.cons ?_ ?_));all_goals (first | (with_reducible rfl) | exact nZ (by decide) (by decide) | trivial | exact ⟨by decide,by decide⟩))).le (.cons (Le.zl_sl .W [c0]) (LeL.refl _)) (Le.refl _)
  | [c0,c1],_,⟨h0,h1,_⟩=>
    have i0:SzC c0 20000:=⟨h0⟩
    have i1:SzC c1 20000:=⟨h1⟩
    exact(mZ zhx (sa2_0 c0 c1 a b) (by(repeat' (first | exact AllC.nil | refine AllC.cons ?_ ?_));all_goals (first | (with_reducible rfl) | exact nZ (by decide) (by decide) | trivial | exact ⟨by decide,by decide⟩))).le (.cons (Le.zl_sl .W [c0,c1]) (LeL.refl _)) (Le.refl _)
  | [c0,c1,c2],_,⟨h0,h1,h2,_⟩=>
    have i0:SzC c0 20000:=⟨h0⟩
    have i1:SzC c1 20000:=⟨h1⟩
    have i2:SzC c2 20000:=⟨h2⟩
    exact(mZ zhx (sa3_0 c0 c1 c2 a b) (by(repeat' (first | exact AllC.nil | refine AllC.cons ?_ ?_));all_goals (first | (with_reducible rfl) | exact nZ (by decide) (by decide) | trivial | exact ⟨by decide,by decide⟩))).le (.cons (Le.zl_sl .W [c0,c1,c2]) (LeL.refl _)) (Le.refl _)
  | [c0,c1,c2,c3],_,⟨h0,h1,h2,h3,_⟩=>
    have i0:SzC c0 20000:=⟨h0⟩
    have i1:SzC c1 20000:=⟨h1⟩
    have i2:SzC c2 20000:=⟨h2⟩
    have i3:SzC c3 20000:=⟨h3⟩
    exact(mZ zhx (sa4_0 c0 c1 c2 c3 a b) (by(repeat' (first | exact AllC.nil | refine AllC.cons ?_ ?_));all_goals (first | (with_reducible rfl) | exact nZ (by decide) (by decide) | trivial | exact ⟨by decide,by decide⟩))).le (.cons (Le.zl_sl .W [c0,c1,c2,c3]) (LeL.refl _)) (Le.refl _)
  | [c0,c1,c2,c3,c4],_,⟨h0,h1,h2,h3,h4,_⟩=>
    have i0:SzC c0 20000:=⟨h0⟩
    have i1:SzC c1 20000:=⟨h1⟩
    have i2:SzC c2 20000:=⟨h2⟩
    have i3:SzC c3 20000:=⟨h3⟩
    have i4:SzC c4 20000:=⟨h4⟩
    exact(mZ zhx (sa5_0 c0 c1 c2 c3 c4 a b) (by(repeat' (first | exact AllC.nil | refine AllC.cons ?_ ?_));all_goals (first | (with_reducible rfl) | exact nZ (by decide) (by decide) | trivial | exact ⟨by decide,by decide⟩))).le (.cons (Le.zl_sl .W [c0,c1,c2,c3,c4]) (LeL.refl _)) (Le.refl _)
  | _ :: _ :: _ :: _ :: _ :: _ :: _,hl,_=>simp [Nat.ble_eq] at hl
def ctr12:Ctr:=(153,cPWW zdc (fun l a b=>.lit (.int .i64 (zag l a b).sign))) :: zbc
theorem zhc:∀p∈ctr12,lZ Tryz.prog p.1 p.2:=CAll.cons (cPWW_ok zhY) zeN
theorem ok12:(dZ Tryz.prog ctr12 bw).OK:=QZ zhc
noncomputable section
theorem lw_0 (a b c e d:Int):FunI (dZ Tryz.prog ctr12 bw) 60 126 [nuA a b c e d] [1,1,1,1,0,1,1,1,1,0] [] [0,0,0,0,0,1,0,0,0,0,0,0,2,0,0,0,0,0,0,3,0,0,0,0,0,0,4,0,0,0,0,0,0,0,5,0,0,0,0,0,0,0,0,6,0,0,0,0,0,0,0,0,7,0,0,0,0,0,0,0,0,8,0,0,0,0,0,0,9] (.agg [.lit (.bool (decide (a / (↑(Int.gcd (↑(Int.gcd (↑(Int.gcd (↑(Int.gcd d a):Int) b):Int) c):Int) e):Int)<0))),.wd (a / (↑(Int.gcd (↑(Int.gcd (↑(Int.gcd (↑(Int.gcd d a):Int) b):Int) c):Int) e):Int)),.lit (.bool (decide (b / (↑(Int.gcd (↑(Int.gcd (↑(Int.gcd (↑(Int.gcd d a):Int) b):Int) c):Int) e):Int)<0))),.wd (b / (↑(Int.gcd (↑(Int.gcd (↑(Int.gcd (↑(Int.gcd d a):Int) b):Int) c):Int) e):Int)),.lit (.bool (decide (c / (↑(Int.gcd (↑(Int.gcd (↑(Int.gcd (↑(Int.gcd d a):Int) b):Int) c):Int) e):Int)<0))),.wd (c / (↑(Int.gcd (↑(Int.gcd (↑(Int.gcd (↑(Int.gcd d a):Int) b):Int) c):Int) e):Int)),.lit (.bool (decide (e / (↑(Int.gcd (↑(Int.gcd (↑(Int.gcd (↑(Int.gcd d a):Int) b):Int) c):Int) e):Int)<0))),.wd (e / (↑(Int.gcd (↑(Int.gcd (↑(Int.gcd (↑(Int.gcd d a):Int) b):Int) c):Int) e):Int)),.lit (.bool (decide (d / (↑(Int.gcd (↑(Int.gcd (↑(Int.gcd (↑(Int.gcd d a):Int) b):Int) c):Int) e):Int)<0))),.wd (d / (↑(Int.gcd (↑(Int.gcd (↑(Int.gcd (↑(Int.gcd d a):Int) b):Int) c):Int) e):Int))]) [pDD d a,pDD (↑(Int.gcd d a):Int) b,pDD (↑(Int.gcd (↑(Int.gcd d a):Int) b):Int) c,pDD (↑(Int.gcd (↑(Int.gcd (↑(Int.gcd d a):Int) b):Int) c):Int) e,zfV a (↑(Int.gcd (↑(Int.gcd (↑(Int.gcd (↑(Int.gcd d a):Int) b):Int) c):Int) e):Int),zfV b (↑(Int.gcd (↑(Int.gcd (↑(Int.gcd (↑(Int.gcd d a):Int) b):Int) c):Int) e):Int),zfV c (↑(Int.gcd (↑(Int.gcd (↑(Int.gcd (↑(Int.gcd d a):Int) b):Int) c):Int) e):Int),zfV e (↑(Int.gcd (↑(Int.gcd (↑(Int.gcd (↑(Int.gcd d a):Int) b):Int) c):Int) e):Int),zfV d (↑(Int.gcd (↑(Int.gcd (↑(Int.gcd (↑(Int.gcd d a):Int) b):Int) c):Int) e):Int)]:={}
end
def gc5 (a b c e d:Int):Int:=(Int.gcd (Int.gcd (Int.gcd (Int.gcd d a:Int) b:Int) c:Int) e:Int)
theorem szGcd {k:Nat} {x y:Int} (hx:Sz k x) (h0:x≠0):Sz k (Int.gcd x y:Int):=by
  refine hx.le ?_
  have h1:Int.gcd x y∣x.natAbs:=Int.natAbs_dvd_natAbs.2 (Int.gcd_dvd_left x y)
  exact Nat.le_of_dvd (by omega) h1
theorem zni {x y:Int} (h0:x≠0):(Int.gcd x y:Int)≠0:=by
  intro h
  have h1:=Int.gcd_dvd_left x y
  rw [h] at h1
  exact h0 (Int.zero_dvd.1 h1)
def pNu (a b c e d:Int):Prop:=d≠0∧Sz 50000 a∧Sz 50000 b∧Sz 50000 c∧Sz 50000 e∧Sz 50000 d
instance tstNu {a b c e d:Int}:Tst (pNu a b c e d):=inferInstanceAs (Tst (d≠0∧Sz 50000 a∧Sz 50000 b∧Sz 50000 c∧Sz 50000 e∧Sz 50000 d))
def loA (a b c e d:Int):AV:=nuA (a / gc5 a b c e d) (b / gc5 a b c e d) (c / gc5 a b c e d) (e / gc5 a b c e d) (d / gc5 a b c e d)
theorem pDD_of {x y:Int} (h:zaK x) (k:zaK y):pDD x y:=⟨h,k⟩
theorem pOver_of {x y:Int} (h0:y≠0) (h:zaK x) (k:zaK y):zfV x y:=⟨h0,h,k⟩
theorem zk7 (a b c e d:Int) (h:pNu a b c e d):FC Tryz.prog 126 [nuA a b c e d] (loA a b c e d):=by
  obtain ⟨h0,ha,hb,hc,he,hd⟩:=h
  have n1:=zni (y:=a) h0
  have n2:=zni (y:=b) n1
  have n3:=zni (y:=c) n2
  have n4:=zni (y:=e) n3
  have s1:=szGcd (y:=a) hd h0
  have s2:=szGcd (y:=b) s1 n1
  have s3:=szGcd (y:=c) s2 n2
  have s4:=szGcd (y:=e) s3 n3
  have f:∀ {z:Int},Sz 50000 z→zaK z:=fun h=>vZ h (by decide)
  exact mZ ok12 (lw_0 a b c e d) (by(repeat' (first | exact AllC.nil | refine AllC.cons ?_ ?_));all_goals (first | (with_reducible rfl) | (with_reducible exact pDD_of (f (by assumption)) (f (by assumption))) | (with_reducible exact pOver_of n4 (f (by assumption)) (f (by assumption))) | rfl | trivial))
def cNu (p:Int→Int→Int→Int→Int→Prop) [∀a b c e d,Tst (p a b c e d)] (r:Int→Int→Int→Int→Int→AV) (args:List AV):M AV:=match args with
  | [x]=>do
    let q ← zqn x
    match q with
    | (a,b,c,e,d)=>do
      tellD (p a b c e d) (Tst.b (p a b c e d))
      gives (r a b c e d)
  | _=>fail 260
theorem cNu_ok {P:Program} {f:FuncId} {p:Int→Int→Int→Int→Int→Prop} [∀a b c e d,Tst (p a b c e d)] {r:Int→Int→Int→Int→Int→AV} (h:∀a b c e d,p a b c e d→FC P f [nuA a b c e d] (r a b c e d)):lZ P f (cNu p r):=by
  intro args _
  unfold cNu
  split
  · exact Spec.bind (asNu_spec.mono fun q hq=>Spec.bind (Spec.tellD Tst.ok fun hp=>Spec.gives ((h _ _ _ _ _ hp).le (.cons hq .nil) (Le.refl _))))
  · exact Spec.fail
def ctrL:Ctr:=(126,cNu pNu loA) :: ctr12
theorem zm8:∀p∈ctrL,lZ Tryz.prog p.1 p.2:=CAll.cons (cNu_ok zk7) zhc
theorem okL:(dZ Tryz.prog ctrL bw).OK:=QZ zm8
end Go.Proofs.YtloaeinogiplbaaGreatDoor
end
