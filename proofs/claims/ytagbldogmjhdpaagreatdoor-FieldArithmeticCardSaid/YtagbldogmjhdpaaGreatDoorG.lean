/- Part of a proof about a given program: see the last module of the claim. -/
import Derived.Test.YtagbldogmjhdpaaGreatDoorF
import Derived.Test.YtagbldogmjhdpaaGreatDoorD
import Derived.Test.YtagbldogmjhdpaaGreatDoorC
section
open Go Go.Ev Go.RowKit
namespace Go.Proofs.YtagbldogmjhdpaaGreatDoor
open Go.Proofs
set_option maxRecDepth 100000
set_option maxHeartbeats 1000000
set_option linter.unusedVariables false
set_option linter.unusedSimpArgs false
noncomputable section
theorem dv_0 (p:List Int) (h1:r64 ((p.length:Int)-1)) (h2:(p.length:Int)-1=1):FC tP 110 [.sq p] (.ff):=dZ za6 60 [1] (.i h1<|.c (beq_iff_eq.2 h2)<|.e) [1,2]
theorem dv_1 (p:List Int) (h1:r64 ((p.length:Int)-1)) (h2:(p.length:Int)-1≠1) (h3:0<(p.length:Int)) (h4:0<p.length) (h5:p.getD 0 0=0):FC tP 110 [.sq p] (.tt):=dZ za6 60 [0,1] (.i h1<|.c (beq_false_of_ne h2)<|.t h3<|.t h4<|.c (beq_iff_eq.2 h5)<|.e) [1,2,0,3,4,5]
abbrev zbk (s:St) (r:Ex × St):Prop:=Loops 1 tP (kZ tP 148 0) s r
abbrev zae (a:Int) (b:List Int) (c:Int):St:=⟨sp 29 [(0,aI a),(1,.fn 149 [.ref 0 0]),(5,aI c)],[.flat [.sq b] true],[]⟩
abbrev zbY (a:Int) (b:List Int) (c:Int):St:=⟨sp 29 [(0,aI a),(1,.fn 149 [.ref 0 0]),(5,aI c)],[.flat [.sq b] false],[]⟩
abbrev zcm (a:Int) (b:List Int):St:=⟨sp 29 [(4,.tt)],[.flat [.sq b] false],[]⟩
abbrev zcn (a:Int) (b:List Int) (c:Int):St:=⟨sp 29 [(0,aI a),(1,.fn 149 [.ref 0 0]),(5,aI c)],[.flat [.sq b] true],[]⟩
abbrev zco (a:Int) (b:List Int) (c:Int):St:=⟨sp 29 [(0,aI a),(1,.fn 149 [.ref 0 0]),(5,aI c)],[.flat [.sq b] false],[]⟩
theorem dv_L0_0_0 (a:Int) (b:List Int) (d:Int) (h1:r64 (0-a)) (h2:d≤if 0-a > a then 0-a else a) (h3:¬(d=0)) (h4:Int.tmod a d=0) (h5:pPv b d) (h6:pv b d=0):zbk (zae a b d) (Ex.ret,(zcm a b)):=LF (LS.at za6 60 [] [4] [] [1,1,1] (.i h1<|.t h2<|.y h3<|.c (beq_iff_eq.2 h4)<|.c h5<|.c (beq_iff_eq.2 h6)<|.e) [1,2,3,4,5,6])
theorem dv_L0_0_1 (a:Int) (b:List Int) (d:Int) (h1:r64 (0-a)) (h2:d≤if 0-a > a then 0-a else a) (h3:¬(d=0)) (h4:Int.tmod a d=0) (h5:pPv b d) (h6:pv b d≠0) (h7:r64 (0-d)) (h8:pPv b (0-d)) (h9:pv b (0-d)=0):zbk (zae a b d) (Ex.ret,(zcm a b)):=LF (LS.at za6 60 [] [4] [] [1,1,0,1] (.i h1<|.t h2<|.y h3<|.c (beq_iff_eq.2 h4)<|.c h5<|.c (beq_false_of_ne h6)<|.i h7<|.c h8<|.c (beq_iff_eq.2 h9)<|.e) [1,2,3,4,5,6,7,8,9])
theorem dv_L0_0_2 (a:Int) (b:List Int) (d:Int) (h1:r64 (0-a)) (h2:d≤if 0-a > a then 0-a else a) (h3:¬(d=0)) (h4:Int.tmod a d=0) (h5:pPv b d) (h6:pv b d≠0) (h7:r64 (0-d)) (h8:pPv b (0-d)) (h9:pv b (0-d)≠0) (h10:r64 (d+1)):LG zbk (zae a b d) (zbY a b (d+1)):=Loops.go (LS.at za6 60 [] [0,1,5] [] [1,1,0,0] (.i h1<|.t h2<|.y h3<|.c (beq_iff_eq.2 h4)<|.c h5<|.c (beq_false_of_ne h6)<|.i h7<|.c h8<|.c (beq_false_of_ne h9)<|.i h10<|.e) [1,2,3,4,5,6,7,8,9,10])
theorem dv_L0_0_3 (a:Int) (b:List Int) (d:Int) (h1:r64 (0-a)) (h2:d≤if 0-a > a then 0-a else a) (h3:¬(d=0)) (h4:Int.tmod a d≠0) (h5:r64 (d+1)):LG zbk (zae a b d) (zae a b (d+1)):=Loops.go (LS.at za6 60 [] [0,1,5] [] [1,0] (.i h1<|.t h2<|.y h3<|.c (beq_false_of_ne h4)<|.i h5<|.e) [1,2,3,4,5])
theorem dv_L0_0_4 (a:Int) (b:List Int) (c:Int) (h1:r64 (0-a)) (h2:¬(c≤if 0-a > a then 0-a else a)):zbk (zae a b c) (Ex.exit 0,(zcn a b c)):=LF (LS.at za6 60 [] [0,1,5] [] [0] (.i h1<|.f h2<|.e) [1,2])
theorem dv_L0_1_0 (a:Int) (b:List Int) (d:Int) (h1:r64 (0-a)) (h2:d≤if 0-a > a then 0-a else a) (h3:¬(d=0)) (h4:Int.tmod a d=0) (h5:pPv b d) (h6:pv b d=0):zbk (zbY a b d) (Ex.ret,(zcm a b)):=LF (LS.at za6 60 [] [4] [] [1,1,1] (.i h1<|.t h2<|.y h3<|.c (beq_iff_eq.2 h4)<|.c h5<|.c (beq_iff_eq.2 h6)<|.e) [1,2,3,4,5,6])
theorem dv_L0_1_1 (a:Int) (b:List Int) (d:Int) (h1:r64 (0-a)) (h2:d≤if 0-a > a then 0-a else a) (h3:¬(d=0)) (h4:Int.tmod a d=0) (h5:pPv b d) (h6:pv b d≠0) (h7:r64 (0-d)) (h8:pPv b (0-d)) (h9:pv b (0-d)=0):zbk (zbY a b d) (Ex.ret,(zcm a b)):=LF (LS.at za6 60 [] [4] [] [1,1,0,1] (.i h1<|.t h2<|.y h3<|.c (beq_iff_eq.2 h4)<|.c h5<|.c (beq_false_of_ne h6)<|.i h7<|.c h8<|.c (beq_iff_eq.2 h9)<|.e) [1,2,3,4,5,6,7,8,9])
theorem dv_L0_1_2 (a:Int) (b:List Int) (d:Int) (h1:r64 (0-a)) (h2:d≤if 0-a > a then 0-a else a) (h3:¬(d=0)) (h4:Int.tmod a d=0) (h5:pPv b d) (h6:pv b d≠0) (h7:r64 (0-d)) (h8:pPv b (0-d)) (h9:pv b (0-d)≠0) (h10:r64 (d+1)):LG zbk (zbY a b d) (zbY a b (d+1)):=Loops.go (LS.at za6 60 [] [0,1,5] [] [1,1,0,0] (.i h1<|.t h2<|.y h3<|.c (beq_iff_eq.2 h4)<|.c h5<|.c (beq_false_of_ne h6)<|.i h7<|.c h8<|.c (beq_false_of_ne h9)<|.i h10<|.e) [1,2,3,4,5,6,7,8,9,10])
theorem dv_L0_1_3 (a:Int) (b:List Int) (d:Int) (h1:r64 (0-a)) (h2:d≤if 0-a > a then 0-a else a) (h3:¬(d=0)) (h4:Int.tmod a d≠0) (h5:r64 (d+1)):LG zbk (zbY a b d) (zbY a b (d+1)):=Loops.go (LS.at za6 60 [] [0,1,5] [] [1,0] (.i h1<|.t h2<|.y h3<|.c (beq_false_of_ne h4)<|.i h5<|.e) [1,2,3,4,5])
theorem dv_L0_1_4 (a:Int) (b:List Int) (c:Int) (h1:r64 (0-a)) (h2:¬(c≤if 0-a > a then 0-a else a)):zbk (zbY a b c) (Ex.exit 0,(zco a b c)):=LF (LS.at za6 60 [] [0,1,5] [] [0] (.i h1<|.f h2<|.e) [1,2])
theorem dv_2 (p:List Int) (h1:r64 ((p.length:Int)-1)) (h2:(p.length:Int)-1≠1) (h3:0<(p.length:Int)) (h4:0<p.length) (h5:p.getD 0 0≠0) (hL1:zbk (zae (p.getD 0 0) p (1)) (Ex.ret,(zcm (p.getD 0 0) p))):FC tP 110 [.sq p] (.tt):=dZ za6 60 [0,0] (.i h1<|.c (beq_false_of_ne h2)<|.t h3<|.t h4<|.c (beq_false_of_ne h5)<|.v [0,1,5] [] hL1<|.e) [1,2,0,3,4,5,0,3,4,0,6]
theorem dv_3 (p:List Int) (a:Int) (h1:r64 ((p.length:Int)-1)) (h2:(p.length:Int)-1≠1) (h3:0<(p.length:Int)) (h4:0<p.length) (h5:p.getD 0 0≠0) (hL1:zbk (zae (p.getD 0 0) p (1)) (Ex.exit 0,(zcn (p.getD 0 0) p a))) (h7:(p.length:Int)-1<4):FC tP 110 [.sq p] (.ff):=dZ za6 60 [0,0,1] (.i h1<|.c (beq_false_of_ne h2)<|.t h3<|.t h4<|.c (beq_false_of_ne h5)<|.v [0,1,5] [] hL1<|.t h7<|.e) [1,2,0,3,4,5,0,3,4,0,6,7]
abbrev zcp (s:St) (r:Ex × St):Prop:=Loops 1 tP (kZ tP 148 0) s r
abbrev zaP (a:Int) (b:List Int) (c:Int):St:=⟨sp 29 [(0,aI a),(1,.fn 151 [.ref 0 0]),(5,aI c)],[.flat [.sq b] true],[]⟩
abbrev zbZ (a:Int) (b:List Int) (c:Int):St:=⟨sp 29 [(0,aI a),(1,.fn 151 [.ref 0 0]),(5,aI c)],[.flat [.sq b] false],[]⟩
abbrev zcq (a:Int) (b:List Int):St:=⟨sp 29 [(4,.tt)],[.flat [.sq b] false],[]⟩
abbrev zgr (a:Int) (b:List Int) (c:Int):St:=⟨sp 29 [(0,aI a),(1,.fn 151 [.ref 0 0]),(5,aI c)],[.flat [.sq b] true],[]⟩
abbrev zev (a:Int) (b:List Int) (c:Int):St:=⟨sp 29 [(0,aI a),(1,.fn 151 [.ref 0 0]),(5,aI c)],[.flat [.sq b] false],[]⟩
theorem dv_L1_0_0 (a:Int) (b:List Int) (d:Int) (h1:r64 (0-a)) (h2:d≤if 0-a > a then 0-a else a) (h3:¬(d=0)) (h4:Int.tmod a d=0) (h5:pD2 b d) (h6:q2 b d=true):zcp (zaP a b d) (Ex.ret,(zcq a b)):=LF (LS.at za6 60 [] [4] [] [1,1,1] (.i h1<|.t h2<|.y h3<|.c (beq_iff_eq.2 h4)<|.c h5<|.c h6<|.e) [1,2,3,4,5,6])
theorem dv_L1_0_1 (a:Int) (b:List Int) (d:Int) (h1:r64 (0-a)) (h2:d≤if 0-a > a then 0-a else a) (h3:¬(d=0)) (h4:Int.tmod a d=0) (h5:pD2 b d) (h6:q2 b d=false) (h7:r64 (0-d)) (h8:pD2 b (0-d)) (h9:q2 b (0-d)=true):zcp (zaP a b d) (Ex.ret,(zcq a b)):=LF (LS.at za6 60 [] [4] [] [1,1,0,1] (.i h1<|.t h2<|.y h3<|.c (beq_iff_eq.2 h4)<|.c h5<|.c h6<|.i h7<|.c h8<|.c h9<|.e) [1,2,3,4,5,6,7,8,9])
theorem dv_L1_0_2 (a:Int) (b:List Int) (d:Int) (h1:r64 (0-a)) (h2:d≤if 0-a > a then 0-a else a) (h3:¬(d=0)) (h4:Int.tmod a d=0) (h5:pD2 b d) (h6:q2 b d=false) (h7:r64 (0-d)) (h8:pD2 b (0-d)) (h9:q2 b (0-d)=false) (h10:r64 (d+1)):LG zcp (zaP a b d) (zbZ a b (d+1)):=Loops.go (LS.at za6 60 [] [0,1,5] [] [1,1,0,0] (.i h1<|.t h2<|.y h3<|.c (beq_iff_eq.2 h4)<|.c h5<|.c h6<|.i h7<|.c h8<|.c h9<|.i h10<|.e) [1,2,3,4,5,6,7,8,9,10])
theorem dv_L1_0_3 (a:Int) (b:List Int) (d:Int) (h1:r64 (0-a)) (h2:d≤if 0-a > a then 0-a else a) (h3:¬(d=0)) (h4:Int.tmod a d≠0) (h5:r64 (d+1)):LG zcp (zaP a b d) (zaP a b (d+1)):=Loops.go (LS.at za6 60 [] [0,1,5] [] [1,0] (.i h1<|.t h2<|.y h3<|.c (beq_false_of_ne h4)<|.i h5<|.e) [1,2,3,4,5])
theorem dv_L1_0_4 (a:Int) (b:List Int) (c:Int) (h1:r64 (0-a)) (h2:¬(c≤if 0-a > a then 0-a else a)):zcp (zaP a b c) (Ex.exit 0,(zgr a b c)):=LF (LS.at za6 60 [] [0,1,5] [] [0] (.i h1<|.f h2<|.e) [1,2])
theorem dv_L1_1_0 (a:Int) (b:List Int) (d:Int) (h1:r64 (0-a)) (h2:d≤if 0-a > a then 0-a else a) (h3:¬(d=0)) (h4:Int.tmod a d=0) (h5:pD2 b d) (h6:q2 b d=true):zcp (zbZ a b d) (Ex.ret,(zcq a b)):=LF (LS.at za6 60 [] [4] [] [1,1,1] (.i h1<|.t h2<|.y h3<|.c (beq_iff_eq.2 h4)<|.c h5<|.c h6<|.e) [1,2,3,4,5,6])
theorem dv_L1_1_1 (a:Int) (b:List Int) (d:Int) (h1:r64 (0-a)) (h2:d≤if 0-a > a then 0-a else a) (h3:¬(d=0)) (h4:Int.tmod a d=0) (h5:pD2 b d) (h6:q2 b d=false) (h7:r64 (0-d)) (h8:pD2 b (0-d)) (h9:q2 b (0-d)=true):zcp (zbZ a b d) (Ex.ret,(zcq a b)):=LF (LS.at za6 60 [] [4] [] [1,1,0,1] (.i h1<|.t h2<|.y h3<|.c (beq_iff_eq.2 h4)<|.c h5<|.c h6<|.i h7<|.c h8<|.c h9<|.e) [1,2,3,4,5,6,7,8,9])
theorem dv_L1_1_2 (a:Int) (b:List Int) (d:Int) (h1:r64 (0-a)) (h2:d≤if 0-a > a then 0-a else a) (h3:¬(d=0)) (h4:Int.tmod a d=0) (h5:pD2 b d) (h6:q2 b d=false) (h7:r64 (0-d)) (h8:pD2 b (0-d)) (h9:q2 b (0-d)=false) (h10:r64 (d+1)):LG zcp (zbZ a b d) (zbZ a b (d+1)):=Loops.go (LS.at za6 60 [] [0,1,5] [] [1,1,0,0] (.i h1<|.t h2<|.y h3<|.c (beq_iff_eq.2 h4)<|.c h5<|.c h6<|.i h7<|.c h8<|.c h9<|.i h10<|.e) [1,2,3,4,5,6,7,8,9,10])
theorem dv_L1_1_3 (a:Int) (b:List Int) (d:Int) (h1:r64 (0-a)) (h2:d≤if 0-a > a then 0-a else a) (h3:¬(d=0)) (h4:Int.tmod a d≠0) (h5:r64 (d+1)):LG zcp (zbZ a b d) (zbZ a b (d+1)):=Loops.go (LS.at za6 60 [] [0,1,5] [] [1,0] (.i h1<|.t h2<|.y h3<|.c (beq_false_of_ne h4)<|.i h5<|.e) [1,2,3,4,5])
theorem dv_L1_1_4 (a:Int) (b:List Int) (c:Int) (h1:r64 (0-a)) (h2:¬(c≤if 0-a > a then 0-a else a)):zcp (zbZ a b c) (Ex.exit 0,(zev a b c)):=LF (LS.at za6 60 [] [0,1,5] [] [0] (.i h1<|.f h2<|.e) [1,2])
theorem dv_4 (p:List Int) (a:Int) (h1:r64 ((p.length:Int)-1)) (h2:(p.length:Int)-1≠1) (h3:0<(p.length:Int)) (h4:0<p.length) (h5:p.getD 0 0≠0) (hL1:zbk (zae (p.getD 0 0) p (1)) (Ex.exit 0,(zcn (p.getD 0 0) p a))) (h7:¬((p.length:Int)-1<4)) (hL2:zcp (zaP (p.getD 0 0) p (1)) (Ex.ret,(zcq (p.getD 0 0) p))):FC tP 110 [.sq p] (.tt):=dZ za6 60 [0,0,0] (.i h1<|.c (beq_false_of_ne h2)<|.t h3<|.t h4<|.c (beq_false_of_ne h5)<|.v [0,1,5] [] hL1<|.f h7<|.v [0,1,5] [] hL2<|.e) [1,2,0,3,4,5,0,3,4,0,6,7,0,3,4,0,8]
theorem dv_5 (p:List Int) (a b:Int) (h1:r64 ((p.length:Int)-1)) (h2:(p.length:Int)-1≠1) (h3:0<(p.length:Int)) (h4:0<p.length) (h5:p.getD 0 0≠0) (hL1:zbk (zae (p.getD 0 0) p (1)) (Ex.exit 0,(zcn (p.getD 0 0) p a))) (h7:¬((p.length:Int)-1<4)) (hL2:zcp (zaP (p.getD 0 0) p (1)) (Ex.exit 0,(zgr (p.getD 0 0) p b))):FC tP 110 [.sq p] (.ff):=dZ za6 60 [0,0,0] (.i h1<|.c (beq_false_of_ne h2)<|.t h3<|.t h4<|.c (beq_false_of_ne h5)<|.v [0,1,5] [] hL1<|.f h7<|.v [0,1,5] [] hL2<|.e) [1,2,0,3,4,5,0,3,4,0,6,7,0,3,4,0,8]
theorem dv_6 (p:List Int) (a b:Int) (h1:r64 ((p.length:Int)-1)) (h2:(p.length:Int)-1≠1) (h3:0<(p.length:Int)) (h4:0<p.length) (h5:p.getD 0 0≠0) (hL1:zbk (zae (p.getD 0 0) p (1)) (Ex.exit 0,(zcn (p.getD 0 0) p a))) (h7:¬((p.length:Int)-1<4)) (hL2:zcp (zaP (p.getD 0 0) p (1)) (Ex.exit 0,(zev (p.getD 0 0) p b))):FC tP 110 [.sq p] (.ff):=dZ za6 60 [0,0,0] (.i h1<|.c (beq_false_of_ne h2)<|.t h3<|.t h4<|.c (beq_false_of_ne h5)<|.v [0,1,5] [] hL1<|.f h7<|.v [0,1,5] [] hL2<|.e) [1,2,0,3,4,5,0,3,4,0,6,7,0,3,4,0,8]
theorem dv_7 (p:List Int) (a:Int) (h1:r64 ((p.length:Int)-1)) (h2:(p.length:Int)-1≠1) (h3:0<(p.length:Int)) (h4:0<p.length) (h5:p.getD 0 0≠0) (hL1:zbk (zae (p.getD 0 0) p (1)) (Ex.exit 0,(zco (p.getD 0 0) p a))) (h7:(p.length:Int)-1<4):FC tP 110 [.sq p] (.ff):=dZ za6 60 [0,0,1] (.i h1<|.c (beq_false_of_ne h2)<|.t h3<|.t h4<|.c (beq_false_of_ne h5)<|.v [0,1,5] [] hL1<|.t h7<|.e) [1,2,0,3,4,5,0,3,4,0,6,7]
abbrev ziz (s:St) (r:Ex × St):Prop:=Loops 1 tP (kZ tP 148 0) s r
abbrev za9 (a:Int) (b:List Int) (c:Int):St:=⟨sp 29 [(0,aI a),(1,.fn 151 [.ref 0 0]),(5,aI c)],[.flat [.sq b] false],[]⟩
abbrev zgs (a:Int) (b:List Int):St:=⟨sp 29 [(4,.tt)],[.flat [.sq b] false],[]⟩
abbrev zgt (a:Int) (b:List Int) (c:Int):St:=⟨sp 29 [(0,aI a),(1,.fn 151 [.ref 0 0]),(5,aI c)],[.flat [.sq b] false],[]⟩
theorem dv_L2_0_0 (a:Int) (b:List Int) (d:Int) (h1:r64 (0-a)) (h2:d≤if 0-a > a then 0-a else a) (h3:¬(d=0)) (h4:Int.tmod a d=0) (h5:pD2 b d) (h6:q2 b d=true):ziz (za9 a b d) (Ex.ret,(zgs a b)):=LF (LS.at za6 60 [] [4] [] [1,1,1] (.i h1<|.t h2<|.y h3<|.c (beq_iff_eq.2 h4)<|.c h5<|.c h6<|.e) [1,2,3,4,5,6])
theorem dv_L2_0_1 (a:Int) (b:List Int) (d:Int) (h1:r64 (0-a)) (h2:d≤if 0-a > a then 0-a else a) (h3:¬(d=0)) (h4:Int.tmod a d=0) (h5:pD2 b d) (h6:q2 b d=false) (h7:r64 (0-d)) (h8:pD2 b (0-d)) (h9:q2 b (0-d)=true):ziz (za9 a b d) (Ex.ret,(zgs a b)):=LF (LS.at za6 60 [] [4] [] [1,1,0,1] (.i h1<|.t h2<|.y h3<|.c (beq_iff_eq.2 h4)<|.c h5<|.c h6<|.i h7<|.c h8<|.c h9<|.e) [1,2,3,4,5,6,7,8,9])
theorem dv_L2_0_2 (a:Int) (b:List Int) (d:Int) (h1:r64 (0-a)) (h2:d≤if 0-a > a then 0-a else a) (h3:¬(d=0)) (h4:Int.tmod a d=0) (h5:pD2 b d) (h6:q2 b d=false) (h7:r64 (0-d)) (h8:pD2 b (0-d)) (h9:q2 b (0-d)=false) (h10:r64 (d+1)):LG ziz (za9 a b d) (za9 a b (d+1)):=Loops.go (LS.at za6 60 [] [0,1,5] [] [1,1,0,0] (.i h1<|.t h2<|.y h3<|.c (beq_iff_eq.2 h4)<|.c h5<|.c h6<|.i h7<|.c h8<|.c h9<|.i h10<|.e) [1,2,3,4,5,6,7,8,9,10])
theorem dv_L2_0_3 (a:Int) (b:List Int) (d:Int) (h1:r64 (0-a)) (h2:d≤if 0-a > a then 0-a else a) (h3:¬(d=0)) (h4:Int.tmod a d≠0) (h5:r64 (d+1)):LG ziz (za9 a b d) (za9 a b (d+1)):=Loops.go (LS.at za6 60 [] [0,1,5] [] [1,0] (.i h1<|.t h2<|.y h3<|.c (beq_false_of_ne h4)<|.i h5<|.e) [1,2,3,4,5])
theorem dv_L2_0_4 (a:Int) (b:List Int) (c:Int) (h1:r64 (0-a)) (h2:¬(c≤if 0-a > a then 0-a else a)):ziz (za9 a b c) (Ex.exit 0,(zgt a b c)):=LF (LS.at za6 60 [] [0,1,5] [] [0] (.i h1<|.f h2<|.e) [1,2])
theorem dv_8 (p:List Int) (a:Int) (h1:r64 ((p.length:Int)-1)) (h2:(p.length:Int)-1≠1) (h3:0<(p.length:Int)) (h4:0<p.length) (h5:p.getD 0 0≠0) (hL1:zbk (zae (p.getD 0 0) p (1)) (Ex.exit 0,(zco (p.getD 0 0) p a))) (h7:¬((p.length:Int)-1<4)) (hL2:ziz (za9 (p.getD 0 0) p (1)) (Ex.ret,(zgs (p.getD 0 0) p))):FC tP 110 [.sq p] (.tt):=dZ za6 60 [0,0,0] (.i h1<|.c (beq_false_of_ne h2)<|.t h3<|.t h4<|.c (beq_false_of_ne h5)<|.v [0,1,5] [] hL1<|.f h7<|.v [0,1,5] [] hL2<|.e) [1,2,0,3,4,5,0,3,4,0,6,7,0,3,4,0,8]
theorem dv_9 (p:List Int) (a b:Int) (h1:r64 ((p.length:Int)-1)) (h2:(p.length:Int)-1≠1) (h3:0<(p.length:Int)) (h4:0<p.length) (h5:p.getD 0 0≠0) (hL1:zbk (zae (p.getD 0 0) p (1)) (Ex.exit 0,(zco (p.getD 0 0) p a))) (h7:¬((p.length:Int)-1<4)) (hL2:ziz (za9 (p.getD 0 0) p (1)) (Ex.exit 0,(zgt (p.getD 0 0) p b))):FC tP 110 [.sq p] (.ff):=dZ za6 60 [0,0,0] (.i h1<|.c (beq_false_of_ne h2)<|.t h3<|.t h4<|.c (beq_false_of_ne h5)<|.v [0,1,5] [] hL1<|.f h7<|.v [0,1,5] [] hL2<|.e) [1,2,0,3,4,5,0,3,4,0,6,7,0,3,4,0,8]
theorem re_0 (p:List Int) (h1:r64 ((p.length:Int)-1)) (h2:(p.length:Int)-1=1):FC tP 98 [.sq p] (.ff):=dZ za6 60 [1] (.i h1<|.c (beq_iff_eq.2 h2)<|.e) [1,2]
abbrev zka (s:St) (r:Ex × St):Prop:=Loops 0 tP (kZ tP 98 0) s r
abbrev zb1 (a:List Int) (b c:Int):St:=⟨sp 78 [(0,.sq a),(3,aI b),(4,aI c)],[],[]⟩
abbrev zkb (a:List Int) (b:Int):St:=⟨sp 78 [(2,.tt)],[],[]⟩
abbrev zeS (a:List Int) (b c:Int):St:=⟨sp 78 [(0,.sq a),(3,aI b),(4,aI c)],[],[]⟩
theorem re_L0_0_0 (a:List Int) (b d:Int) (h1:d≤1001) (h2:pPv a d) (h3:pv a d=0):zka (zb1 a b d) (Ex.ret,(zkb a b)):=LF (LS.at za6 60 [] [2] [] [1,1] (.t h1<|.c h2<|.c (beq_iff_eq.2 h3)<|.e) [1,2,3])
theorem re_L0_0_1 (a:List Int) (b d:Int) (h1:d≤1001) (h2:pPv a d) (h3:pv a d≠0) (h4:r64 (d+1)):LG zka (zb1 a b d) (zb1 a b (d+1)):=Loops.go (LS.at za6 60 [] [0,3,4] [] [1,0] (.t h1<|.c h2<|.c (beq_false_of_ne h3)<|.i h4<|.e) [1,2,3,4])
theorem re_L0_0_2 (a:List Int) (b c:Int) (h1:¬(c≤1001)):zka (zb1 a b c) (Ex.exit 0,(zeS a b c)):=LF (LS.at za6 60 [] [0,3,4] [] [0] (.f h1<|.e) [1])
theorem re_1 (p:List Int) (h1:r64 ((p.length:Int)-1)) (h2:(p.length:Int)-1≠1) (hL1:zka (zb1 p ((p.length:Int)-1) (-1001)) (Ex.ret,(zkb p ((p.length:Int)-1)))):FC tP 98 [.sq p] (.tt):=dZ za6 60 [0] (.i h1<|.c (beq_false_of_ne h2)<|.v [0,3,4] [] hL1<|.e) [1,2,0,3]
abbrev zhI (s:St) (r:Ex × St):Prop:=Loops 0 tP (kZ tP 98 1) s r
abbrev zaF (a:List Int) (b c:Int):St:=⟨sp 78 [(0,.sq a),(3,aI b),(5,aI c)],[],[]⟩
abbrev zke (a:List Int) (b:Int):St:=⟨sp 78 [(2,.tt)],[],[]⟩
abbrev zeT (a:List Int) (b c:Int):St:=⟨sp 78 [(0,.sq a),(3,aI b),(5,aI c)],[],[]⟩
theorem re_L3_0_0 (a:List Int) (b d:Int) (h1:d≤1000) (h2:b=4) (h3:d=0) (h4:r64 (d+1)):LG zhI (zaF a b d) (zaF a b (d+1)):=Loops.go (LS.at za6 60 [] [0,3,5] [] [1,1,1] (.t h1<|.c (beq_iff_eq.2 h2)<|.c (beq_iff_eq.2 h3)<|.i h4<|.e) [1,2,3,4])
theorem re_L3_0_1 (a:List Int) (b d:Int) (h1:d≤1000) (h2:b=4) (h3:d≠0) (h4:0<(a.length:Int)) (h5:0<a.length) (h6:¬(d=0)) (h7:Int.tmod (a.getD 0 0) d≠0) (h8:r64 (d+1)):LG zhI (zaF a b d) (zaF a b (d+1)):=Loops.go (LS.at za6 60 [] [0,3,5] [] [1,1,0,1] (.t h1<|.c (beq_iff_eq.2 h2)<|.c (beq_false_of_ne h3)<|.t h4<|.t h5<|.y h6<|.c (bne_iff_ne.2 h7)<|.i h8<|.e) [1,2,3,0,4,5,6,7,8])
abbrev zkc (s:St) (r:Ex × St):Prop:=Loops 0 tP (kZ tP 98 2) s r
abbrev zbC (a:List Int) (b c d:Int):St:=⟨sp 78 [(0,.sq a),(3,aI b),(5,aI c),(6,aI d)],[],[]⟩
abbrev zkd (a:List Int) (b c:Int):St:=⟨sp 78 [(2,.tt)],[],[]⟩
abbrev zgD (a:List Int) (b c d:Int):St:=⟨sp 78 [(0,.sq a),(3,aI b),(5,aI c),(6,aI d)],[],[]⟩
theorem re_L2_0_0 (a:List Int) (b d f:Int) (h1:f≤2002) (h2:3<(a.length:Int)) (h3:3<a.length) (h4:r64 (a.getD 3 0-f)) (h5:2<(a.length:Int)) (h6:2<a.length) (h7:r64 (a.getD 2 0-d)) (h8:r64 (f*(a.getD 3 0-f))) (h9:r64 (a.getD 2 0-d-f*(a.getD 3 0-f))) (h10:r64 (d*(a.getD 2 0-d-f*(a.getD 3 0-f)))) (h11:0<(a.length:Int)) (h12:0<a.length) (h13:d*(a.getD 2 0-d-f*(a.getD 3 0-f))=a.getD 0 0) (h14:r64 (f*(a.getD 2 0-d-f*(a.getD 3 0-f)))) (h15:r64 (d*(a.getD 3 0-f))) (h16:r64 (f*(a.getD 2 0-d-f*(a.getD 3 0-f))+d*(a.getD 3 0-f))) (h17:1<(a.length:Int)) (h18:1<a.length) (h19:f*(a.getD 2 0-d-f*(a.getD 3 0-f))+d*(a.getD 3 0-f)=a.getD 1 0):zkc (zbC a b d f) (Ex.ret,(zkd a b d)):=LF (LS.at za6 60 [] [2] [] [1,1,1] (.t h1<|.t h2<|.t h3<|.i h4<|.t h5<|.t h6<|.i h7<|.i h8<|.i h9<|.i h10<|.t h11<|.t h12<|.c (beq_iff_eq.2 h13)<|.i h14<|.i h15<|.i h16<|.t h17<|.t h18<|.c (beq_iff_eq.2 h19)<|.e) [1,0,2,3,4,0,5,6,7,8,9,10,0,11,12,13,14,15,16,0,17,18,19])
theorem re_L2_0_1 (a:List Int) (b d f:Int) (h1:f≤2002) (h2:3<(a.length:Int)) (h3:3<a.length) (h4:r64 (a.getD 3 0-f)) (h5:2<(a.length:Int)) (h6:2<a.length) (h7:r64 (a.getD 2 0-d)) (h8:r64 (f*(a.getD 3 0-f))) (h9:r64 (a.getD 2 0-d-f*(a.getD 3 0-f))) (h10:r64 (d*(a.getD 2 0-d-f*(a.getD 3 0-f)))) (h11:0<(a.length:Int)) (h12:0<a.length) (h13:d*(a.getD 2 0-d-f*(a.getD 3 0-f))=a.getD 0 0) (h14:r64 (f*(a.getD 2 0-d-f*(a.getD 3 0-f)))) (h15:r64 (d*(a.getD 3 0-f))) (h16:r64 (f*(a.getD 2 0-d-f*(a.getD 3 0-f))+d*(a.getD 3 0-f))) (h17:1<(a.length:Int)) (h18:1<a.length) (h19:f*(a.getD 2 0-d-f*(a.getD 3 0-f))+d*(a.getD 3 0-f)≠a.getD 1 0) (h20:r64 (f+1)):LG zkc (zbC a b d f) (zbC a b d (f+1)):=Loops.go (LS.at za6 60 [] [0,3,5,6] [] [1,1,0] (.t h1<|.t h2<|.t h3<|.i h4<|.t h5<|.t h6<|.i h7<|.i h8<|.i h9<|.i h10<|.t h11<|.t h12<|.c (beq_iff_eq.2 h13)<|.i h14<|.i h15<|.i h16<|.t h17<|.t h18<|.c (beq_false_of_ne h19)<|.i h20<|.e) [1,0,2,3,4,0,5,6,7,8,9,10,0,11,12,13,14,15,16,0,17,18,19,20])
theorem re_L2_0_2 (a:List Int) (b d f:Int) (h1:f≤2002) (h2:3<(a.length:Int)) (h3:3<a.length) (h4:r64 (a.getD 3 0-f)) (h5:2<(a.length:Int)) (h6:2<a.length) (h7:r64 (a.getD 2 0-d)) (h8:r64 (f*(a.getD 3 0-f))) (h9:r64 (a.getD 2 0-d-f*(a.getD 3 0-f))) (h10:r64 (d*(a.getD 2 0-d-f*(a.getD 3 0-f)))) (h11:0<(a.length:Int)) (h12:0<a.length) (h13:d*(a.getD 2 0-d-f*(a.getD 3 0-f))≠a.getD 0 0) (h14:r64 (f+1)):LG zkc (zbC a b d f) (zbC a b d (f+1)):=Loops.go (LS.at za6 60 [] [0,3,5,6] [] [1,0] (.t h1<|.t h2<|.t h3<|.i h4<|.t h5<|.t h6<|.i h7<|.i h8<|.i h9<|.i h10<|.t h11<|.t h12<|.c (beq_false_of_ne h13)<|.i h14<|.e) [1,0,2,3,4,0,5,6,7,8,9,10,0,11,12,13,14])
theorem re_L2_0_3 (a:List Int) (b c d:Int) (h1:¬(d≤2002)):zkc (zbC a b c d) (Ex.exit 4,(zgD a b c d)):=LF (LS.at za6 60 [] [0,3,5,6] [] [0] (.f h1<|.e) [1])
theorem re_L3_0_2 (a:List Int) (b d:Int) (h1:d≤1000) (h2:b=4) (h3:d≠0) (h4:0<(a.length:Int)) (h5:0<a.length) (h6:¬(d=0)) (h7:Int.tmod (a.getD 0 0) d=0) (hL1:zkc (zbC a b d (-2002)) (Ex.ret,(zkd a b d))):zhI (zaF a b d) (Ex.ret,(zke a b)):=LF (LS.at za6 60 [] [2] [] [1,1,0,0] (.t h1<|.c (beq_iff_eq.2 h2)<|.c (beq_false_of_ne h3)<|.t h4<|.t h5<|.y h6<|.c (bne_eq_false_iff_eq.2 h7)<|.v [0,3,5,6] [] hL1<|.e) [1,2,3,0,4,5,6,7,0,8])
theorem re_L3_0_3 (a:List Int) (b d f:Int) (h1:d≤1000) (h2:b=4) (h3:d≠0) (h4:0<(a.length:Int)) (h5:0<a.length) (h6:¬(d=0)) (h7:Int.tmod (a.getD 0 0) d=0) (hL1:zkc (zbC a b d (-2002)) (Ex.exit 4,(zgD a b d f))) (h9:r64 (d+1)):LG zhI (zaF a b d) (zaF a b (d+1)):=Loops.go (LS.at za6 60 [] [0,3,5] [] [1,1,0,0] (.t h1<|.c (beq_iff_eq.2 h2)<|.c (beq_false_of_ne h3)<|.t h4<|.t h5<|.y h6<|.c (bne_eq_false_iff_eq.2 h7)<|.v [0,3,5,6] [] hL1<|.i h9<|.e) [1,2,3,0,4,5,6,7,0,8,9])
theorem re_L3_0_4 (a:List Int) (b d:Int) (h1:d≤1000) (h2:b≠4):zhI (zaF a b d) (Ex.exit 2,(zeT a b d)):=LF (LS.at za6 60 [] [0,3,5] [] [1,0] (.t h1<|.c (beq_false_of_ne h2)<|.e) [1,2])
theorem re_L3_0_5 (a:List Int) (b c:Int) (h1:¬(c≤1000)):zhI (zaF a b c) (Ex.exit 2,(zeT a b c)):=LF (LS.at za6 60 [] [0,3,5] [] [0] (.f h1<|.e) [1])
theorem re_2 (p:List Int) (a:Int) (h1:r64 ((p.length:Int)-1)) (h2:(p.length:Int)-1≠1) (hL1:zka (zb1 p ((p.length:Int)-1) (-1001)) (Ex.exit 0,(zeS p ((p.length:Int)-1) a))) (hL2:zhI (zaF p ((p.length:Int)-1) (-1000)) (Ex.ret,(zke p ((p.length:Int)-1)))):FC tP 98 [.sq p] (.tt):=dZ za6 60 [0] (.i h1<|.c (beq_false_of_ne h2)<|.v [0,3,4] [] hL1<|.v [0,3,5] [] hL2<|.e) [1,2,0,3,0,4]
theorem re_3 (p:List Int) (a b:Int) (h1:r64 ((p.length:Int)-1)) (h2:(p.length:Int)-1≠1) (hL1:zka (zb1 p ((p.length:Int)-1) (-1001)) (Ex.exit 0,(zeS p ((p.length:Int)-1) a))) (hL2:zhI (zaF p ((p.length:Int)-1) (-1000)) (Ex.exit 2,(zeT p ((p.length:Int)-1) b))):FC tP 98 [.sq p] (.ff):=dZ za6 60 [0] (.i h1<|.c (beq_false_of_ne h2)<|.v [0,3,4] [] hL1<|.v [0,3,5] [] hL2<|.e) [1,2,0,3,0,4]
end
theorem zd6 {R:Type} (B:Int→R→Prop) (G:Int→Prop) (lo hi:Int) (e0:R) (e2:Int→R) (h0:∀t,lo≤t→t≤hi→G t→B t e0) (h1:∀t,lo≤t→t≤hi→¬G t→∀r,B (t+1) r→B t r) (h2:B (hi+1) (e2 (hi+1))) :
 ∀(n:Nat) (t:Int),t+n=hi+1→lo≤t→(∃a,t≤a∧a≤hi∧G a)∧B t e0∨(¬ ∃a,t≤a∧a≤hi∧G a)∧B t (e2 (hi+1))
 | 0,t,ht,_=>by
  grind
 | n + 1,t,ht,hm=>by
  by_cases e:G t
  ·grind
  ·have go:=h1 t hm (by omega) e
   rcases zd6 B G lo hi e0 e2 h0 h1 h2 n (t+1) (by omega) (by omega) with ⟨⟨a,h1,h2,h3⟩,k⟩ | ⟨hn,k⟩
   ·grind
   grind
theorem zjw {R:Type} (A B:Int→R→Prop) (G:Int→Prop) (lo hi:Int) (e0:R) (e1 e2:Int→R) (hB:∀(n:Nat) (t:Int),t+n=hi+1→lo≤t→(∃a,t≤a∧a≤hi∧G a)∧B t e0∨(¬ ∃a,t≤a∧a≤hi∧G a)∧B t (e2 (hi+1)))
 (h0:∀t,lo≤t→t≤hi→G t→A t e0) (h1:∀t,lo≤t→t≤hi→¬G t→(∀r,B (t+1) r→A t r)∨(∀r,A (t+1) r→A t r)) (h2:A (hi+1) (e1 (hi+1))) :
 ∀(n:Nat) (t:Int),t+n=hi+1→lo≤t→(∃a,t≤a∧a≤hi∧G a)∧A t e0∨(¬ ∃a,t≤a∧a≤hi∧G a)∧(A t (e1 (hi+1))∨A t (e2 (hi+1)))
 | 0,t,ht,_=>by
  grind
 | n + 1,t,ht,hm=>by
  have up:(¬ ∃a,t+1≤a∧a≤hi∧G a)→¬G t→¬ ∃a,t≤a∧a≤hi∧G a:=fun hn e ⟨a,h1,h2,h3⟩=>by
   grind
  by_cases e:G t
  ·grind
  ·rcases h1 t hm (by omega) e with go | go
   ·grind
   ·rcases zjw A B G lo hi e0 e1 e2 hB h0 h1 h2 n (t+1) (by omega) (by omega) with ⟨⟨a,h1,h2,h3⟩,k⟩ | ⟨hn,k | k⟩
    ·grind
    ·simp_all
    simp_all
def Red (p:List Int):Prop:=p.length≠2∧((∃x,pv p x=0)∨p.length=5∧∃b,b≠0∧b∣p.getD 0 0∧Q2 p b)
noncomputable def red (p:List Int):Bool:=@decide (Red p) (Classical.propDecidable _)
theorem zqc {p:List Int} (h:Red p):AV.lit (.bool (red p))=.lit (.bool true):=by unfold red;simp_all
theorem ziI {p:List Int} (h:¬Red p):AV.lit (.bool (red p))=.lit (.bool false):=by unfold red;simp_all
def zcx (p:List Int):Prop:=2≤p.length∧p.length≤5∧(∀c∈p,c.natAbs≤1000)
instance tRed {p:List Int}:Tst (zcx p):=⟨false,fun h=>by cases h⟩
theorem pv_dvd {p:List Int} {x:Int} (h:pv p x=0):x∣p.getD 0 0:=by
 cases p with
 | nil=>simp
 | cons c l=>exact ⟨- pv l x,by simp only [pv] at h;simp;grind⟩
theorem zj4 {p:List Int} (h:p.getD 0 0=0):pv p 0=0:=by
 cases p with
 | nil=>rfl
 | cons c l=>simp only [pv];simp at h;omega
theorem dvdB {x a:Int} (h:x∣a) (h0:a≠0):x.natAbs≤a.natAbs:=Nat.le_of_dvd (by omega) (Int.natAbs_dvd_natAbs.2 h)
theorem ttT {P:Program} {f:FuncId} {a:List AV} {b:Bool} (h:FC P f a .tt) (e:AV.lit (.bool b)=.lit (.bool true)):FC P f a (.lit (.bool b)):=by rw [e];exact h.res fun E v hv=>by cases hv;exact .lit _
theorem ffF {P:Program} {f:FuncId} {a:List AV} {b:Bool} (h:FC P f a .ff) (e:AV.lit (.bool b)=.lit (.bool false)):FC P f a (.lit (.bool b)):=by rw [e];exact h.res fun E v hv=>by cases hv;exact .lit _
def Dv (n:Int) (H:Int→Prop) (t:Int):Prop:=Int.tmod n t=0∧(H t∨H (0-t))
theorem dv_ex {n:Int} (h0:n≠0) {H:Int→Prop} {m:Int} (hm:m=(if 0-n > n then 0-n else n)):(∃a,1≤a∧a≤m∧Dv n H a)↔∃b,b≠0∧b∣n∧H b:=by
 constructor
 ·rintro ⟨a,h1,h2,h3,h4⟩
  have hd:=Int.dvd_of_tmod_eq_zero h3
  rcases h4 with h | h
  ·grind
  ·exact ⟨0-a,by omega,by simp_all,h⟩
 ·rintro ⟨b,h1,h2,h3⟩
  have hb:=dvdB h2 h0
  have hm':(m:Int)=n.natAbs:=by subst hm;split<;>omega
  rcases Int.lt_or_le 0 b with h | h
  ·exact ⟨b,by omega,by omega,Int.tmod_eq_zero_of_dvd h2,.inl h3⟩
  ·refine ⟨-b,by omega,by omega,Int.tmod_eq_zero_of_dvd ((Int.neg_dvd).2 h2),.inr ?_⟩
   simp_all
theorem dv0 {p:List Int} (h:zcx p) (h0:p.getD 0 0≠0) {m:Int} (hm:m=(if 0-p.getD 0 0 > p.getD 0 0 then 0-p.getD 0 0 else p.getD 0 0)) :
 (∃b,b≠0∧b∣p.getD 0 0∧pv p b=0)∧zbk (zae (p.getD 0 0) p 1) (Ex.ret,zcm (p.getD 0 0) p) ∨
 (¬ ∃b,b≠0∧b∣p.getD 0 0∧pv p b=0)∧(zbk (zae (p.getD 0 0) p 1) (Ex.exit 0,zcn (p.getD 0 0) p (m+1))∨zbk (zae (p.getD 0 0) p 1) (Ex.exit 0,zco (p.getD 0 0) p (m+1))):=by
 obtain ⟨h2,h5,ha⟩:=h
 have g0:=zeb ha 0
 have hm':(m:Int)=(p.getD 0 0).natAbs:=by subst hm;split<;>omega
 have pp:∀t:Int,t.natAbs≤1000→pPv p t:=fun t ht=>⟨h2,h5,ha,by omega⟩
 rw [← dv_ex h0 hm]
 refine zjw (fun t=>zbk (zae (p.getD 0 0) p t)) (fun t=>zbk (zbY (p.getD 0 0) p t)) (Dv (p.getD 0 0) fun t=>pv p t=0) 1 m (Ex.ret,zcm (p.getD 0 0) p) (fun t=>(Ex.exit 0,zcn (p.getD 0 0) p t)) (fun t=>(Ex.exit 0,zco (p.getD 0 0) p t)) ?_ ?_ ?_ ?_ m.toNat 1 (by omega) (by omega)
 ·refine zd6 (fun t=>zbk (zbY (p.getD 0 0) p t)) _ 1 m _ (fun t=>(Ex.exit 0,zco (p.getD 0 0) p t)) ?_ ?_ ?_
  ·rintro t t1 t2 ⟨k1,k2⟩
   by_cases k3:pv p t=0
   ·exact dv_L0_1_0 _ _ t (by omega) (by omega) (by omega) k1 (pp _ (by omega)) k3
   ·exact dv_L0_1_1 _ _ t (by omega) (by omega) (by omega) k1 (pp _ (by omega)) k3 (by omega) (pp _ (by omega)) (k2.resolve_left k3)
  ·intro t t1 t2 hn r k
   by_cases k1:Int.tmod (p.getD 0 0) t=0
   ·have n1:pv p t≠0:=fun e=>hn ⟨k1,.inl e⟩
    have n2:pv p (0-t)≠0:=fun e=>hn ⟨k1,.inr e⟩
    exact dv_L0_1_2 _ _ t (by omega) (by omega) (by omega) k1 (pp _ (by omega)) n1 (by omega) (pp _ (by omega)) n2 (by omega) k
   ·exact dv_L0_1_3 _ _ t (by omega) (by omega) (by omega) k1 (by omega) k
  ·exact dv_L0_1_4 _ _ _ (by omega) (by omega)
 ·rintro t t1 t2 ⟨k1,k2⟩
  by_cases k3:pv p t=0
  ·exact dv_L0_0_0 _ _ t (by omega) (by omega) (by omega) k1 (pp _ (by omega)) k3
  ·exact dv_L0_0_1 _ _ t (by omega) (by omega) (by omega) k1 (pp _ (by omega)) k3 (by omega) (pp _ (by omega)) (k2.resolve_left k3)
 ·intro t t1 t2 hn
  by_cases k1:Int.tmod (p.getD 0 0) t=0
  ·have n1:pv p t≠0:=fun e=>hn ⟨k1,.inl e⟩
   have n2:pv p (0-t)≠0:=fun e=>hn ⟨k1,.inr e⟩
   exact .inl fun r k=>dv_L0_0_2 _ _ t (by omega) (by omega) (by omega) k1 (pp _ (by omega)) n1 (by omega) (pp _ (by omega)) n2 (by omega) k
  ·exact .inr fun r k=>dv_L0_0_3 _ _ t (by omega) (by omega) (by omega) k1 (by omega) k
 ·exact dv_L0_0_4 _ _ _ (by omega) (by omega)
theorem dv1 {p:List Int} (h:zcx p) (hl:p.length=5) (h0:p.getD 0 0≠0) {m:Int} (hm:m=(if 0-p.getD 0 0 > p.getD 0 0 then 0-p.getD 0 0 else p.getD 0 0)) :
 (∃b,b≠0∧b∣p.getD 0 0∧Q2 p b)∧zcp (zaP (p.getD 0 0) p 1) (Ex.ret,zcq (p.getD 0 0) p) ∨
 (¬ ∃b,b≠0∧b∣p.getD 0 0∧Q2 p b)∧(zcp (zaP (p.getD 0 0) p 1) (Ex.exit 0,zgr (p.getD 0 0) p (m+1))∨zcp (zaP (p.getD 0 0) p 1) (Ex.exit 0,zev (p.getD 0 0) p (m+1))):=by
 obtain ⟨h2,_,ha⟩:=h
 have h5:=hl
 have g0:=zeb ha 0
 have hm':(m:Int)=(p.getD 0 0).natAbs:=by subst hm;split<;>omega
 have pp:∀t:Int,t≠0→t.natAbs≤1000→pD2 p t:=fun t h1 ht=>⟨h5,ha,h1,ht⟩
 rw [← dv_ex h0 hm]
 refine zjw (fun t=>zcp (zaP (p.getD 0 0) p t)) (fun t=>zcp (zbZ (p.getD 0 0) p t)) (Dv (p.getD 0 0) fun t=>Q2 p t) 1 m (Ex.ret,zcq (p.getD 0 0) p) (fun t=>(Ex.exit 0,zgr (p.getD 0 0) p t)) (fun t=>(Ex.exit 0,zev (p.getD 0 0) p t)) ?_ ?_ ?_ ?_ m.toNat 1 (by omega) (by omega)
 ·refine zd6 (fun t=>zcp (zbZ (p.getD 0 0) p t)) _ 1 m _ (fun t=>(Ex.exit 0,zev (p.getD 0 0) p t)) ?_ ?_ ?_
  ·rintro t t1 t2 ⟨k1,k2⟩
   by_cases k3:Q2 p t
   ·exact dv_L1_1_0 _ _ t (by omega) (by omega) (by omega) k1 (pp _ (by omega) (by omega)) (q2_t k3)
   ·exact dv_L1_1_1 _ _ t (by omega) (by omega) (by omega) k1 (pp _ (by omega) (by omega)) (zrW k3) (by omega) (pp _ (by omega) (by omega)) (q2_t (k2.resolve_left k3))
  ·intro t t1 t2 hn r k
   by_cases k1:Int.tmod (p.getD 0 0) t=0
   ·have n1:=zrW fun(e:Q2 p t)=>hn ⟨k1,.inl e⟩
    have n2:=zrW fun(e:Q2 p (0-t))=>hn ⟨k1,.inr e⟩
    exact dv_L1_1_2 _ _ t (by omega) (by omega) (by omega) k1 (pp _ (by omega) (by omega)) n1 (by omega) (pp _ (by omega) (by omega)) n2 (by omega) k
   ·exact dv_L1_1_3 _ _ t (by omega) (by omega) (by omega) k1 (by omega) k
  ·exact dv_L1_1_4 _ _ _ (by omega) (by omega)
 ·rintro t t1 t2 ⟨k1,k2⟩
  by_cases k3:Q2 p t
  ·exact dv_L1_0_0 _ _ t (by omega) (by omega) (by omega) k1 (pp _ (by omega) (by omega)) (q2_t k3)
  ·exact dv_L1_0_1 _ _ t (by omega) (by omega) (by omega) k1 (pp _ (by omega) (by omega)) (zrW k3) (by omega) (pp _ (by omega) (by omega)) (q2_t (k2.resolve_left k3))
 ·intro t t1 t2 hn
  by_cases k1:Int.tmod (p.getD 0 0) t=0
  ·have n1:=zrW fun(e:Q2 p t)=>hn ⟨k1,.inl e⟩
   have n2:=zrW fun(e:Q2 p (0-t))=>hn ⟨k1,.inr e⟩
   exact .inl fun r k=>dv_L1_0_2 _ _ t (by omega) (by omega) (by omega) k1 (pp _ (by omega) (by omega)) n1 (by omega) (pp _ (by omega) (by omega)) n2 (by omega) k
  ·exact .inr fun r k=>dv_L1_0_3 _ _ t (by omega) (by omega) (by omega) k1 (by omega) k
 ·exact dv_L1_0_4 _ _ _ (by omega) (by omega)
theorem dv2 {p:List Int} (h:zcx p) (hl:p.length=5) (h0:p.getD 0 0≠0) {m:Int} (hm:m=(if 0-p.getD 0 0 > p.getD 0 0 then 0-p.getD 0 0 else p.getD 0 0)) :
 (∃b,b≠0∧b∣p.getD 0 0∧Q2 p b)∧ziz (za9 (p.getD 0 0) p 1) (Ex.ret,zgs (p.getD 0 0) p) ∨
 (¬ ∃b,b≠0∧b∣p.getD 0 0∧Q2 p b)∧ziz (za9 (p.getD 0 0) p 1) (Ex.exit 0,zgt (p.getD 0 0) p (m+1)):=by
 obtain ⟨h2,_,ha⟩:=h
 have g0:=zeb ha 0
 have hm':(m:Int)=(p.getD 0 0).natAbs:=by subst hm;split<;>omega
 have pp:∀t:Int,t≠0→t.natAbs≤1000→pD2 p t:=fun t h1 ht=>⟨hl,ha,h1,ht⟩
 rw [← dv_ex h0 hm]
 refine zd6 (fun t=>ziz (za9 (p.getD 0 0) p t)) (Dv (p.getD 0 0) fun t=>Q2 p t) 1 m _ (fun t=>(Ex.exit 0,zgt (p.getD 0 0) p t)) ?_ ?_ ?_ m.toNat 1 (by omega) (by omega)
 ·rintro t t1 t2 ⟨k1,k2⟩
  by_cases k3:Q2 p t
  ·exact dv_L2_0_0 _ _ t (by omega) (by omega) (by omega) k1 (pp _ (by omega) (by omega)) (q2_t k3)
  ·exact dv_L2_0_1 _ _ t (by omega) (by omega) (by omega) k1 (pp _ (by omega) (by omega)) (zrW k3) (by omega) (pp _ (by omega) (by omega)) (q2_t (k2.resolve_left k3))
 ·intro t t1 t2 hn r k
  by_cases k1:Int.tmod (p.getD 0 0) t=0
  ·have n1:=zrW fun(e:Q2 p t)=>hn ⟨k1,.inl e⟩
   have n2:=zrW fun(e:Q2 p (0-t))=>hn ⟨k1,.inr e⟩
   exact dv_L2_0_2 _ _ t (by omega) (by omega) (by omega) k1 (pp _ (by omega) (by omega)) n1 (by omega) (pp _ (by omega) (by omega)) n2 (by omega) k
  ·exact dv_L2_0_3 _ _ t (by omega) (by omega) (by omega) k1 (by omega) k
 ·exact dv_L2_0_4 _ _ _ (by omega) (by omega)
theorem zoZ (p:List Int) (h:zcx p):FC tP 110 [.sq p] (.lit (.bool (red p))):=by
 have h':=h
 obtain ⟨h2,h5,ha⟩:=h'
 have g0:=zeb ha 0
 by_cases e2:p.length=2
 ·exact ffF (dv_0 p (by omega) (by omega)) (ziI fun k=>k.1 e2)
 by_cases e0:p.getD 0 0=0
 ·exact ttT (dv_1 p (by omega) (by omega) (by omega) (by omega) e0) (zqc ⟨e2,.inl ⟨0,zj4 e0⟩⟩)
 have q1:-9223372036854775808≤(p.length:Int)-1∧(p.length:Int)-1≤9223372036854775807:=by omega
 have q2:(p.length:Int)-1≠1:=by omega
 have q3:(0:Int)<p.length:=by omega
 have q4:0<p.length:=by omega
 have q5:p.length=5→¬((p.length:Int)-1<4):=fun h=>by omega
 have q6:p.length≠5→(p.length:Int)-1<4:=fun h=>by omega
 have hr:(∃x,pv p x=0)↔∃b,b≠0∧b∣p.getD 0 0∧pv p b=0:=
  ⟨fun ⟨x,hx⟩=>⟨x,fun e=>e0 (by have:=pv_dvd hx;simp_all),pv_dvd hx,hx⟩,fun ⟨b,_,_,hb⟩=>⟨b,hb⟩⟩
 rcases dv0 h e0 rfl with ⟨ex,k⟩ | ⟨nx,k⟩
 ·exact ttT (dv_2 p q1 q2 q3 q4 e0 k) (zqc ⟨e2,.inl (hr.2 ex)⟩)
 by_cases e5:p.length=5
 ·rcases k with k | k
  ·rcases dv1 h e5 e0 rfl with ⟨ex,j⟩ | ⟨ny,j⟩
   ·exact ttT (dv_4 p _ q1 q2 q3 q4 e0 k (q5 e5) j) (zqc ⟨e2,.inr ⟨e5,ex⟩⟩)
   ·have nr:¬Red p:=fun r=>r.2.elim (fun hx=>nx (hr.1 hx)) fun hx=>ny hx.2
    rcases j with j | j
    ·exact ffF (dv_5 p _ _ q1 q2 q3 q4 e0 k (q5 e5) j) (ziI nr)
    ·exact ffF (dv_6 p _ _ q1 q2 q3 q4 e0 k (q5 e5) j) (ziI nr)
  ·rcases dv2 h e5 e0 rfl with ⟨ex,j⟩ | ⟨ny,j⟩
   ·exact ttT (dv_8 p _ q1 q2 q3 q4 e0 k (q5 e5) j) (zqc ⟨e2,.inr ⟨e5,ex⟩⟩)
   ·exact ffF (dv_9 p _ _ q1 q2 q3 q4 e0 k (q5 e5) j) (ziI fun r=>r.2.elim (fun hx=>nx (hr.1 hx)) fun hx=>ny hx.2)
 ·have nr:¬Red p:=fun r=>r.2.elim (fun hx=>nx (hr.1 hx)) fun hx=>e5 hx.1
  rcases k with k | k
  ·exact ffF (dv_3 p _ q1 q2 q3 q4 e0 k (q6 e5)) (ziI nr)
  ·exact ffF (dv_7 p _ q1 q2 q3 q4 e0 k (q6 e5)) (ziI nr)
def Eq2 (p:List Int) (b a:Int):Prop:=b*(p.getD 2 0-b-a*(p.getD 3 0-a))=p.getD 0 0∧a*(p.getD 2 0-b-a*(p.getD 3 0-a))+b*(p.getD 3 0-a)=p.getD 1 0
theorem re2 {p:List Int} (hl:p.length=5) (ha:∀c∈p,c.natAbs≤1000) {b:Int} (hb:b.natAbs≤1000) :
 (∃a,-2002≤a∧a≤2002∧Eq2 p b a)∧zkc (zbC p 4 b (-2002)) (Ex.ret,zkd p 4 b)∨(¬ ∃a,-2002≤a∧a≤2002∧Eq2 p b a)∧zkc (zbC p 4 b (-2002)) (Ex.exit 4,zgD p 4 b 2003):=by
 have g0:=zeb ha 0
 have g1:=zeb ha 1
 have g2:=zeb ha 2
 have g3:=zeb ha 3
 refine zd6 (fun t=>zkc (zbC p 4 b t)) (Eq2 p b) (-2002) 2002 _ (fun t=>(Ex.exit 4,zgD p 4 b t)) ?_ ?_ ?_ 4005 (-2002) (by omega) (by omega)
 ·rintro t t1 t2 ⟨k1,k2⟩
  have m1:=zlp (a:=t) (b:=p.getD 3 0-t) (A:=2002) (B:=3002) (by omega) (by omega)
  have m2:=zlp (a:=b) (b:=p.getD 2 0-b-t*(p.getD 3 0-t)) (A:=1000) (B:=6012004) (by omega) (by omega)
  have m3:=zlp (a:=t) (b:=p.getD 2 0-b-t*(p.getD 3 0-t)) (A:=2002) (B:=6012004) (by omega) (by omega)
  have m4:=zlp (a:=b) (b:=p.getD 3 0-t) (A:=1000) (B:=3002) (by omega) (by omega)
  exact re_L2_0_0 p 4 b t (by omega) (by omega) (by omega) (by omega) (by omega) (by omega) (by omega) (by omega) (by omega) (by omega) (by omega) (by omega) k1 (by omega) (by omega) (by omega) (by omega) (by omega) k2
 ·intro t t1 t2 hn r k
  have m1:=zlp (a:=t) (b:=p.getD 3 0-t) (A:=2002) (B:=3002) (by omega) (by omega)
  have m2:=zlp (a:=b) (b:=p.getD 2 0-b-t*(p.getD 3 0-t)) (A:=1000) (B:=6012004) (by omega) (by omega)
  have m3:=zlp (a:=t) (b:=p.getD 2 0-b-t*(p.getD 3 0-t)) (A:=2002) (B:=6012004) (by omega) (by omega)
  have m4:=zlp (a:=b) (b:=p.getD 3 0-t) (A:=1000) (B:=3002) (by omega) (by omega)
  by_cases k1:b*(p.getD 2 0-b-t*(p.getD 3 0-t))=p.getD 0 0
  ·exact re_L2_0_1 p 4 b t (by omega) (by omega) (by omega) (by omega) (by omega) (by omega) (by omega) (by omega) (by omega) (by omega) (by omega) (by omega) k1 (by omega) (by omega) (by omega) (by omega) (by omega) (fun k2=>hn ⟨k1,k2⟩) (by omega) k
  ·exact re_L2_0_2 p 4 b t (by omega) (by omega) (by omega) (by omega) (by omega) (by omega) (by omega) (by omega) (by omega) (by omega) (by omega) (by omega) k1 (by omega) k
 ·exact re_L2_0_3 p 4 b _ (by omega)
theorem eq2_iff {p:List Int} (ha:∀c∈p,c.natAbs≤1000) (h0:p.getD 0 0≠0) {b:Int} (hb0:b≠0) (hd:b∣p.getD 0 0):(∃a,-2002≤a∧a≤2002∧Eq2 p b a)↔Q2 p b:=by
 have g0:=zeb ha 0
 have g2:=zeb ha 2
 have g3:=zeb ha 3
 have hm:=Int.mul_tdiv_cancel' hd
 have hb:=dvdB hd h0
 have hq:=tdivB (p.getD 0 0) b
 constructor
 ·rintro ⟨a,_,_,k1,k2⟩
  have e:p.getD 2 0-b-a*(p.getD 3 0-a)=Int.tdiv (p.getD 0 0) b:=Int.eq_of_mul_eq_mul_left hb0 (by rw [k1,hm])
  rw [e] at k2
  exact ⟨a,by omega,k2⟩
 ·rintro ⟨a,k1,k2⟩
  have e:p.getD 2 0-b-a*(p.getD 3 0-a)=Int.tdiv (p.getD 0 0) b:=by omega
  have hr:-2002≤a∧a≤2002:=by
   by_cases hr:-2002≤a∧a≤2002
   ·exact hr
   ·have m1:(a*(p.getD 3 0-a)).natAbs≤3000:=by omega
    rw [Int.natAbs_mul] at m1
    have m2:2003*1003≤a.natAbs*(p.getD 3 0-a).natAbs:=Nat.mul_le_mul (by omega) (by omega)
    omega
  exact ⟨a,hr.1,hr.2,by rw [Eq2,e];exact ⟨hm,k2⟩⟩
theorem re0 {p:List Int} (h:zcx p) (n:Int):(∃x,pv p x=0)∧zka (zb1 p n (-1001)) (Ex.ret,zkb p n)∨(¬ ∃x,pv p x=0)∧zka (zb1 p n (-1001)) (Ex.exit 0,zeS p n 1002):=by
 obtain ⟨h2,h5,ha⟩:=h
 have g0:=zeb ha 0
 have pp:∀t:Int,t.natAbs≤1001→pPv p t:=fun t ht=>⟨h2,h5,ha,by omega⟩
 have hr:(∃x,pv p x=0)↔∃x,-1001≤x∧x≤1001∧pv p x=0:=by
  constructor
  ·rintro ⟨x,hx⟩
   by_cases e:p.getD 0 0=0
   ·exact ⟨0,by omega,by omega,zj4 e⟩
   ·have:=dvdB (pv_dvd hx) e
    grind
  grind
 rw [hr]
 refine zd6 (fun t=>zka (zb1 p n t)) (fun x=>pv p x=0) (-1001) 1001 _ (fun t=>(Ex.exit 0,zeS p n t)) ?_ ?_ ?_ 2003 (-1001) (by omega) (by omega)
 ·intro t t1 t2 k;exact re_L0_0_0 p n t (by omega) (pp t (by omega)) k
 ·intro t t1 t2 k r j;exact re_L0_0_1 p n t (by omega) (pp t (by omega)) k (by omega) j
 ·exact re_L0_0_2 p n _ (by omega)
theorem re3 {p:List Int} (h:zcx p) (hl:p.length=5) (h0:p.getD 0 0≠0):(∃b,b≠0∧b∣p.getD 0 0∧Q2 p b)∧zhI (zaF p 4 (-1000)) (Ex.ret,zke p 4)∨(¬ ∃b,b≠0∧b∣p.getD 0 0∧Q2 p b)∧zhI (zaF p 4 (-1000)) (Ex.exit 2,zeT p 4 1001):=by
 obtain ⟨h2,h5,ha⟩:=h
 have g0:=zeb ha 0
 have hr:(∃b,b≠0∧b∣p.getD 0 0∧Q2 p b)↔∃b,-1000≤b∧b≤1000∧(b≠0∧b∣p.getD 0 0∧Q2 p b):=
  ⟨fun ⟨b,k⟩=>⟨b,by have:=dvdB k.2.1 h0;omega,by have:=dvdB k.2.1 h0;omega,k⟩,fun ⟨b,_,_,k⟩=>⟨b,k⟩⟩
 rw [hr]
 refine zd6 (fun t=>zhI (zaF p 4 t)) (fun b=>b≠0∧b∣p.getD 0 0∧Q2 p b) (-1000) 1000 _ (fun t=>(Ex.exit 2,zeT p 4 t)) ?_ ?_ ?_ 2001 (-1000) (by omega) (by omega)
 ·rintro t t1 t2 ⟨k1,k2,k3⟩
  rcases re2 hl ha (b:=t) (by omega) with ⟨ex,j⟩ | ⟨nx,j⟩
  ·exact re_L3_0_2 p 4 t (by omega) rfl k1 (by omega) (by omega) k1 (Int.tmod_eq_zero_of_dvd k2) j
  ·exact absurd ((eq2_iff ha h0 k1 k2).2 k3) nx
 ·intro t t1 t2 hn r k
  by_cases k1:t=0
  ·exact re_L3_0_0 p 4 t (by omega) rfl k1 (by omega) k
  by_cases k2:Int.tmod (p.getD 0 0) t=0
  ·rcases re2 hl ha (b:=t) (by omega) with ⟨ex,j⟩ | ⟨nx,j⟩
   ·exact absurd ⟨k1,Int.dvd_of_tmod_eq_zero k2,(eq2_iff ha h0 k1 (Int.dvd_of_tmod_eq_zero k2)).1 ex⟩ hn
   ·exact re_L3_0_3 p 4 t _ (by omega) rfl k1 (by omega) (by omega) k1 k2 j (by omega) k
  ·exact re_L3_0_1 p 4 t (by omega) rfl k1 (by omega) (by omega) k1 k2 (by omega) k
 ·exact re_L3_0_5 p 4 _ (by omega)
theorem zkA (p:List Int) (h:zcx p):FC tP 98 [.sq p] (.lit (.bool (red p))):=by
 have h':=h
 obtain ⟨h2,h5,ha⟩:=h'
 by_cases e2:p.length=2
 ·exact ffF (re_0 p (by omega) (by omega)) (ziI fun k=>k.1 e2)
 rcases re0 h ((p.length:Int)-1) with ⟨ex,k⟩ | ⟨nx,k⟩
 ·exact ttT (re_1 p (by omega) (by omega) k) (zqc ⟨e2,.inl ex⟩)
 have e0:p.getD 0 0≠0:=fun e=>nx ⟨0,zj4 e⟩
 by_cases e5:p.length=5
 ·have e4:(p.length:Int)-1=4:=by omega
  have r2:=fun t4=>re_2 p t4 (by omega) (by omega)
  have r3:=fun t4 t5=>re_3 p t4 t5 (by omega) (by omega)
  rw [e4] at k r2 r3
  rcases re3 h e5 e0 with ⟨ex,j⟩ | ⟨ny,j⟩
  ·exact ttT (r2 _ k j) (zqc ⟨e2,.inr ⟨e5,ex⟩⟩)
  ·exact ffF (r3 _ _ k j) (ziI fun r=>r.2.elim nx fun hx=>ny hx.2)
 ·exact ffF (re_3 p _ _ (by omega) (by omega) k (re_L3_0_4 p _ _ (by omega) (by omega))) (ziI fun r=>r.2.elim nx fun hx=>e5 hx.1)
noncomputable def ctrH3:Ctr:=(110,cL zcx (fun p=>.lit (.bool (red p)))) :: (98,cL zcx (fun p=>.lit (.bool (red p)))) :: ctrH
theorem zkW:∀p∈ctrH3,jZ tP p.1 p.2:=CAll.cons (zjt zoZ) (CAll.cons (zjt zkA) zjx)
abbrev kdW:List (TypeId × EK):=[(97,.whole)]
theorem ziG:(eZ tP ctrH3 bw [] kdW).OK:=vZ zaC mixed zkW zaA
noncomputable section
abbrev zpD (s:St) (r:Ex × St):Prop:=Loops 1 tP (kZ tP 101 0) s r
abbrev zmZ (a:List Int) (b c d e:Int):St:=⟨sp 20 [(3,aN),(7,.sq a),(8,aI b),(9,aI 0)],[.flat [.sq a,aI c,aI d,aI e] true],[]⟩
abbrev zhA (a:List Int) (b c d e:Int) (f:Nat) (g:Int) (i:List Int):St:=⟨sp 20 [(3,.own 1 0 f 2),(7,.sq a),(8,aI b),(9,aI g)],[.flat [.sq a,aI c,aI d,aI e] true,.lst EK.whole i true],[]⟩
abbrev po_L0_E0 (a:List Int) (b c d e:Int):St:=⟨sp 20 [(3,aN),(7,.sq a),(8,aI b),(9,aI 0)],[.flat [.sq a,aI c,aI d,aI e] true],[]⟩
abbrev zj2 (a:List Int) (b c d e:Int) (f:Nat) (g:Int) (i:List Int):St:=⟨sp 20 [(3,.own 1 0 f 2),(7,.sq a),(8,aI b),(9,aI g)],[.flat [.sq a,aI c,aI d,aI e] true,.lst EK.whole i true],[]⟩
theorem po_L0_0_0 (a:List Int) (b d f g:Int) (h1:0<b) (h2:0<(a.length:Int)) (h3:0<a.length) (h4:cZ (a.getD 0 0)) (h5:1≤List.length [a.getD 0 0]) (h6:0<(List.take 1 [a.getD 0 0]).length) (h7:(List.take 1 [a.getD 0 0]).length*32≤140737488355328) (h8:(List.take 1 [a.getD 0 0]).length≤4611686018427387904):LG zpD (zmZ a b d f g) (zhA a b d f g (1) (1) ([a.getD 0 0])):=Loops.go (LS.at ziG 60 [2] [3,7,8,9] [] [1] (.t h1<|.t h2<|.t h3<|.c h4<|.c h5<|.t h6<|.t h7<|.t h8<|.e) [1,0,2,3,4,0,5,6,7,8,0])
theorem po_L0_0_1 (a:List Int) (b c d g:Int) (h1:¬(0<b)):zpD (zmZ a b c d g) (Ex.exit 0,(po_L0_E0 a b c d g)):=LF (LS.at ziG 60 [] [3,7,8,9] [] [0] (.f h1<|.e) [1])
theorem po_L0_1_0 (a:List Int) (b d f g:Int) (j:Nat) (l:Int) (m:List Int) (h1:l<b) (h2:0≤l) (h3:l<(a.length:Int)) (h4:l.toNat<a.length) (h5:cZ (a.getD l.toNat 0)) (h6:1≤List.length [a.getD l.toNat 0]) (h7:(j+(List.take 1 [a.getD l.toNat 0]).length)*32≤140737488355328) (h8:j+(List.take 1 [a.getD l.toNat 0]).length≤4611686018427387904) (h9:j≤m.length) (h10:r64 (l+1)):LG zpD (zhA a b d f g j l m) (zhA a b d f g (j+(List.take 1 [a.getD l.toNat 0]).length) (l+1) (m.take j++List.take 1 [a.getD l.toNat 0])):=Loops.go (LS.at ziG 60 [3] [3,7,8,9] [] [1] (.t h1<|.t h2<|.t h3<|.t h4<|.c h5<|.c h6<|.t h7<|.t h8<|.t h9<|.i h10<|.e) [1,2,3,4,5,0,6,7,8,9,10])
theorem po_L0_1_1 (a:List Int) (b c d g:Int) (i:Nat) (j:Int) (l:List Int) (h1:¬(j<b)):zpD (zhA a b c d g i j l) (Ex.exit 0,(zj2 a b c d g i j l)):=LF (LS.at ziG 60 [1] [3,7,8,9] [] [0] (.f h1<|.e) [1])
theorem po_1 (p:List Int) (a b c:Int) (d:Nat) (f:Int) (g:List Int) (hL1:zpD (zmZ p ((p.length:Int)) a b c) (Ex.exit 0,(zj2 p ((p.length:Int)) a b c d f g))) (h2:d≤g.length):FC tP 101 [.agg [.sq p,lI a,lI b,lI c]] (.lst EK.whole (g.take d)):=dZ ziG 60 [] (.v [3,7,8,9] [] hL1<|.c h2<|.e) [0,1,2]
abbrev zmC (s:St) (r:Ex × St):Prop:=Loops 0 tP (kZ tP 180 0) s r
abbrev zhc (a:List Int) (b c:Int):St:=⟨sp 24 [(3,aN),(6,.lst EK.whole a),(7,aI b),(8,aI c)],[],[]⟩
abbrev zhd (a:List Int) (b:Int) (c:Nat) (d:Int) (e:List Int):St:=⟨sp 24 [(3,.own 0 0 c 2),(6,.lst EK.whole a),(7,aI b),(8,aI d)],[.lst EK.whole e true],[]⟩
abbrev zgq (a:List Int) (b:Int) (c:Nat) (d:Int) (e:List Int):St:=⟨sp 24 [(3,.own 0 0 c 2),(6,.lst EK.whole a),(7,aI b),(8,aI d)],[.lst EK.whole e true],[]⟩
theorem dr_L0_0_0 (a:List Int) (b d:Int) (h1:d<b) (h2:0≤d) (h3:d<(a.length:Int)) (h4:d > 0) (h5:cZ d) (h6:decide (a.getD d.toNat 0<OfNat.ofNat 0)=decide (a.getD d.toNat 0<0)) (h7:pDD (a.getD d.toNat 0) d) (h8:1≤List.length [a.getD d.toNat 0*d]) (h9:0<(List.take 1 [a.getD d.toNat 0*d]).length) (h10:(List.take 1 [a.getD d.toNat 0*d]).length*32≤140737488355328) (h11:(List.take 1 [a.getD d.toNat 0*d]).length≤4611686018427387904) (h12:r64 (d+1)):LG zmC (zhc a b d) (zhd a b (1) (d+1) ([a.getD d.toNat 0*d])):=Loops.go (LS.at ziG 60 [2] [3,6,7,8] [] [1,1] (.t h1<|.t h2<|.t h3<|.t h4<|.c h5<|.c h6<|.c h7<|.c h8<|.t h9<|.t h10<|.t h11<|.i h12<|.e) [1,2,3,4,5,6,0,7,0,8,9,10,11,12])
theorem dr_L0_0_1 (a:List Int) (b c:Int) (h1:c<b) (h2:0≤c) (h3:c<(a.length:Int)) (h4:¬(c > 0)) (h5:r64 (c+1)):LG zmC (zhc a b c) (zhc a b (c+1)):=Loops.go (LS.at ziG 60 [] [3,6,7,8] [] [1,0] (.t h1<|.t h2<|.t h3<|.f h4<|.i h5<|.e) [1,2,3,4,5])
theorem dr_L0_1_0 (a:List Int) (b:Int) (d:Nat) (f:Int) (g:List Int) (h1:f<b) (h2:0≤f) (h3:f<(a.length:Int)) (h4:f > 0) (h5:cZ f) (h6:decide (a.getD f.toNat 0<OfNat.ofNat 0)=decide (a.getD f.toNat 0<0)) (h7:pDD (a.getD f.toNat 0) f) (h8:1≤List.length [a.getD f.toNat 0*f]) (h9:(d+(List.take 1 [a.getD f.toNat 0*f]).length)*32≤140737488355328) (h10:d+(List.take 1 [a.getD f.toNat 0*f]).length≤4611686018427387904) (h11:d≤g.length) (h12:r64 (f+1)):LG zmC (zhd a b d f g) (zhd a b (d+(List.take 1 [a.getD f.toNat 0*f]).length) (f+1) (g.take d++List.take 1 [a.getD f.toNat 0*f])):=Loops.go (LS.at ziG 60 [3] [3,6,7,8] [] [1,1] (.t h1<|.t h2<|.t h3<|.t h4<|.c h5<|.c h6<|.c h7<|.c h8<|.t h9<|.t h10<|.t h11<|.i h12<|.e) [1,2,3,4,5,6,0,7,0,8,9,10,11,12])
theorem dr_L0_1_2 (a:List Int) (b:Int) (c:Nat) (d:Int) (g:List Int) (h1:¬(d<b)):zmC (zhd a b c d g) (Ex.exit 0,(zgq a b c d g)):=LF (LS.at ziG 60 [0] [3,6,7,8] [] [0] (.f h1<|.e) [1])
theorem dr_1 (p:List Int) (a:Nat) (b:Int) (d:List Int) (hL1:zmC (zhc p ((p.length:Int)) (0)) (Ex.exit 0,(zgq p ((p.length:Int)) a b d))) (h2:a≤d.length):FC tP 180 [.lst .whole p] (.lst EK.whole (d.take a)):=dZ ziG 60 [] (.v [3,6,7,8] [] hL1<|.c h2<|.e) [0,1,2]
end
theorem zoz {l:List Int} {k:Nat} (h:k<l.length):List.take k (List.take k l)++List.take 1 [l.getD k 0]=l.take (k+1):=by
 rw [List.take_take,Nat.min_self,List.take_succ_eq_append_getElem h]
 simp [List.getD,h]
theorem flB {x:Int} (h:x.natAbs≤1000):cZ x:=by unfold cZ;omega
theorem po_loop {p:List Int} (h:zcx p) (a b c:Int):∀(n k:Nat),k+n=p.length→1≤k→zpD (zhA p p.length a b c k k (p.take k)) (Ex.exit 0,zj2 p p.length a b c p.length p.length p)
 | 0,k,hk,_=>by
  obtain rfl:k=p.length:=by omega
  have:=po_L0_1_1 p p.length a b c p.length p.length (p.take p.length) (by omega)
  rw [List.take_length] at this ⊢
  exact this
 | n+1,k,hk,h1=>by
  have hlt:k<p.length:=by omega
  have hl:=h.2.1
  have ih:=po_loop h a b c n (k+1) (by omega) (by omega)
  rw [← zoz hlt] at ih
  have hg:=zeb h.2.2 k
  have e:Int.toNat (k:Int)=k:=by omega
  refine po_L0_1_0 p p.length a b c k k (p.take k) (by omega) (by omega) (by omega) (by omega) (flB (by rw [e];exact hg)) (by simp) (by simp;omega) (by simp;omega) (by simp;omega) (by omega) ?_
  rw [e]
  exact ih
theorem zhB (p:List Int) (a b c:Int) (h:zcx p):FC tP 101 [.agg [.sq p,lI a,lI b,lI c]] (.lst .whole p):=by
 have hl:=h.1
 have hg:=zeb h.2.2 0
 have k:=po_loop h a b c (p.length-1) 1 (by omega) (by omega)
 have e1:p.take 1=[p.getD 0 0]:=by
  rw [← zoz (k:=0) (by omega)];rfl
 have s:=po_L0_0_0 p p.length a b c (by omega) (by omega) (by omega) (flB hg) (by simp) (by simp) (by simp) (by simp) (by rw [e1] at k;exact k)
 have:=po_1 p a b c p.length p.length p s (by omega)
 rw [List.take_length] at this
 exact this
def der (p:List Int):List Int:=(List.range (p.length-1)).map fun i=>p.getD (i+1) 0*((i+1:Nat):Int)
theorem der_get {p:List Int} {k:Nat} (h:k+1<p.length):(der p).getD k 0=p.getD (k+1) 0*((k+1:Nat):Int):=by
 unfold der
 rw [List.getD_eq_getElem?_getD,List.getElem?_map,List.getElem?_range (by omega)]
 rfl
theorem zd7 (p:List Int):(der p).length=p.length-1:=by simp [der]
theorem dr_loop {p:List Int} (h:zcx p):∀(n k:Nat),k+n=p.length→2≤k→zmC (zhd p p.length (k-1) k ((der p).take (k-1))) (Ex.exit 0,zgq p p.length (p.length-1) p.length (der p))
 | 0,k,hk,_=>by
  obtain rfl:k=p.length:=by omega
  have:=dr_L0_1_2 p p.length (p.length-1) p.length ((der p).take (p.length-1)) (by omega)
  rw [← zd7,List.take_length] at this ⊢
  exact this
 | n+1,k,hk,h2=>by
  have hlt:k<p.length:=by omega
  have hl:=h.2.1
  obtain ⟨j,rfl⟩:∃j,k=j+1:=⟨k-1,by omega⟩
  have ih:=dr_loop h n (j+1+1) (by omega) (by omega)
  have hd:j<(der p).length:=by rw [zd7];omega
  rw [show j+1+1-1=j+1 by omega,← zoz hd,der_get hlt] at ih
  have hg:=zeb h.2.2 (j+1)
  have e:Int.toNat ((j+1:Nat):Int)=j+1:=by omega
  have s1:Sz 3 (p.getD (j+1) 0):=by unfold Sz;omega
  have s2:Sz 3 ((j+1:Nat):Int):=by unfold Sz;omega
  have hD:pDD (p.getD (j+1) 0) ((j+1:Nat):Int):=⟨rZ s1 (by decide),rZ s2 (by decide)⟩
  rw [show j+1-1=j by omega]
  refine dr_L0_1_0 p p.length j ((j+1:Nat):Int) ((der p).take j) (by omega) (by omega) (by omega) (by omega) (by unfold cZ;omega) rfl (by rw [e];exact hD) (by simp) (by simp;omega) (by simp;omega) (by simp;omega) (by omega) ?_
  rw [e]
  exact ih
theorem zoY (p:List Int) (h:zcx p):FC tP 180 [.lst .whole p] (.lst .whole (der p)):=by
 have hl:=h.1
 have hg:=zeb h.2.2 1
 have k:=dr_loop h (p.length-2) 2 (by omega) (by omega)
 have s1:Sz 3 (p.getD 1 0):=by unfold Sz;omega
 have hD:pDD (p.getD 1 0) 1:=⟨rZ s1 (by decide),rZ (k:=3) (by unfold Sz;omega) (by decide)⟩
 have e1:(der p).take 1=[p.getD 1 0*1]:=by
  have hd:0<(der p).length:=by rw [zd7];omega
  have:=zoz hd
  rw [der_get (by omega)] at this
  rw [← this];rfl
 have s0:zmC (zhc p p.length 1) (Ex.exit 0,zgq p p.length (p.length-1:Nat) p.length (der p)):=
  dr_L0_0_0 p p.length 1 (by omega) (by omega) (by omega) (by omega) (by unfold cZ;omega) rfl hD (by simp) (by simp) (by simp) (by simp) (by omega) (by rw [show(2:Nat)-1=1 by rfl,e1] at k;exact k)
 have s:=dr_L0_0_1 p p.length 0 (by omega) (by omega) (by omega) (by omega) (by omega) s0
 have:=dr_1 p (p.length-1:Nat) p.length (der p) s (by rw [zd7];omega)
 rw [← zd7,List.take_length] at this
 exact this
end Go.Proofs.YtagbldogmjhdpaaGreatDoor
end
section
namespace Go.Kf
set_option linter.unusedVariables false
set_option linter.unusedSimpArgs false
def agC (q:List Int) (sq first:Int) (shift i:Nat) (x:Int):Int:=if shift≤i then x*sq + -(first*q.getD (i-shift) 0) else x*sq
def agR (q:List Int) (sq first:Int) (shift:Nat) (r:List Int):Nat→List Int
 | 0=>r
 | i+1=>(agR q sq first shift r i).set i (agC q sq first shift i (r.getD i 0))
theorem zgU (q:List Int) (sq first:Int) (shift:Nat) (r:List Int):∀i,(agR q sq first shift r i).length=r.length
 | 0=>rfl
 | i+1=>by simp [agR,zgU q sq first shift r i]
theorem zgT (q:List Int) (sq first:Int) (shift:Nat) (r:List Int):∀i j,i≤r.length→(agR q sq first shift r i).getD j 0=if j<i then agC q sq first shift j (r.getD j 0) else r.getD j 0
 | 0,j,_=>by simp [agR]
 | i+1,j,h=>by
  have ih:=zgT q sq first shift r i j (by omega)
  have hl:=zgU q sq first shift r i
  unfold agR
  grind
def cutN (r:List Int):Nat→Nat
 | 0=>0
 | m+1=>if r.getD m 0=0 then cutN r m else m+1
theorem zg7 (r:List Int):∀n,cutN r n≤n
 | 0=>Nat.le_refl _
 | m+1=>by
  unfold cutN
  split
  ·exact Nat.le_succ_of_le (zg7 r m)
  ·exact Nat.le_refl _
def agN (q:List Int):Nat→Nat→List Int→Nat × List Int
 | 0,n,r=>(n,r)
 | k + 1,n,r=>if q.length≤n then
  let t:=q.getD (q.length-1) 0
  let r':=agR q (t*t) (r.getD (n-1) 0*t) (n-q.length) r n
  agN q k (cutN r' n) r'
  else(n,r)
def ngR (r:List Int):Nat→List Int
 | 0=>r
 | i+1=>(ngR r i).set i (-(r.getD i 0))
theorem zfJ (r:List Int):∀i,(ngR r i).length=r.length
 | 0=>rfl
 | i+1=>by simp [ngR,zfJ r i]
theorem zjV (r:List Int):∀i j,i≤r.length→(ngR r i).getD j 0=if j<i then -(r.getD j 0) else r.getD j 0
 | 0,j,_=>by simp [ngR]
 | i+1,j,h=>by
  have ih:=zjV r i j (by omega)
  have hl:=zfJ r i
  unfold ngR
  grind
def agst (p q:List Int):List Int:=(ngR (agN q p.length p.length p).2 (agN q p.length p.length p).1).take (agN q p.length p.length p).1
end Go.Kf
end
section
open Go Go.Ev Go.RowKit
namespace Go.Proofs.YtagbldogmjhdpaaGreatDoor
open Go.Proofs
set_option maxRecDepth 100000
set_option maxHeartbeats 1000000
set_option linter.unusedVariables false
set_option linter.unusedSimpArgs false
noncomputable section
abbrev ag_L2 (s:St) (r:Ex × St):Prop:=Loops 4 tP (kZ tP 181 0) s r
abbrev zgV (a:List Int) (b c:Int) (d:Nat) (e:List Int):St:=⟨sp 93 [(1,.lst EK.whole a),(5,.own 1 0 d 2),(6,.ref 2 0),(7,.ref 3 0)],[.dead,.lst EK.whole e true,.flat [aD b,.wd b] true,.flat [aD c,.wd c] true],[3,2,1,0]⟩
abbrev zjq (a:List Int) (b c:Int) (d:Nat) (e:List Int):St:=⟨sp 93 [(1,.lst EK.whole a),(5,.own 1 0 d 2),(6,.ref 2 0),(7,.ref 3 0)],[.dead,.lst EK.whole e true,.flat [aD b,.wd b] true,.flat [aD c,.wd c] true],[3,2,1,0]⟩
abbrev ag_L0 (s:St) (r:Ex × St):Prop:=Loops 5 tP (kZ tP 181 1) s r
abbrev zd0 (a:List Int) (b:Nat) (c d e f g i:Int) (j:List Int):St:=⟨sp 93 [(1,.lst EK.whole a),(5,.own 1 0 b 2),(6,.ref 2 0),(7,.ref 3 0),(8,.ref 4 0),(9,aI c),(42,aI d),(43,aI i)],[.dead,.lst EK.whole j true,.flat [aD e,.wd e] true,.flat [aD f,.wd f] true,.flat [aD g,.wd g] true],[0,1,2,3]⟩
abbrev zen (a:List Int) (b:Nat) (c d e f g i:Int) (j:List Int):St:=⟨sp 93 [(1,.lst EK.whole a),(5,.own 1 0 b 2),(6,.ref 2 0),(7,.ref 3 0),(8,.ref 4 0),(9,aI c),(42,aI d),(43,aI i)],[.dead,.lst EK.whole j true,.flat [aD e,.wd e] true,.flat [aD f,.wd f] true,.flat [aD g,.wd g] true],[0,1,2,3]⟩
theorem ag_L0_0_0 (a:List Int) (b:Nat) (d f g j l m:Int) (n:List Int) (h1:m<f) (h2:0≤m) (h3:m<(b:Int)) (h4:m.toNat<n.length) (h5:decide (n.getD m.toNat 0<OfNat.ofNat 0)=decide (n.getD m.toNat 0<0)) (h6:pDD (n.getD m.toNat 0) j) (h7:m≥d) (h8:r64 (m-d)) (h9:0≤m-d) (h10:m-d<(a.length:Int)) (h11:m.toNat<(n.set m.toNat (n.getD m.toNat 0*j)).length) (h12:decide (a.getD (m-d).toNat 0<OfNat.ofNat 0)=decide (a.getD (m-d).toNat 0<0)) (h13:pDD l (a.getD (m-d).toNat 0)) (h14:decide ((n.set m.toNat (n.getD m.toNat 0*j)).getD m.toNat 0<OfNat.ofNat 0)=decide ((n.set m.toNat (n.getD m.toNat 0*j)).getD m.toNat 0<0)) (h15:pDD ((n.set m.toNat (n.getD m.toNat 0*j)).getD m.toNat 0) (-(l*a.getD (m-d).toNat 0))) (h16:r64 (m+1)):LG ag_L0 (zd0 a b d f g j l m n) (zd0 a b d f g j l (m+1) ((n.set m.toNat (n.getD m.toNat 0*j)).set m.toNat ((n.set m.toNat (n.getD m.toNat 0*j)).getD m.toNat 0 + -(l*a.getD (m-d).toNat 0)))):=Loops.go (LS.at ziG 60 [] [1,5,6,7,8,9,42,43] [0,1,2,3] [1,1] (.t h1<|.t h2<|.t h3<|.t h4<|.c h5<|.c h6<|.t h7<|.i h8<|.t h9<|.t h10<|.t h11<|.c h12<|.c h13<|.c h14<|.c h15<|.i h16<|.e) [1,2,3,4,5,0,6,2,3,4,0,7,2,3,8,9,10,11,0,12,13,0,0,14,0,15,2,3,11,0,0,12,13,11,0,0,14,0,15,2,3,11,0,0,0,11,14,0,15,2,3,11,0,0,0,16])
theorem ag_L0_0_1 (a:List Int) (b:Nat) (d g j l m n:Int) (o:List Int) (h1:n<g) (h2:0≤n) (h3:n<(b:Int)) (h4:n.toNat<o.length) (h5:decide (o.getD n.toNat 0<OfNat.ofNat 0)=decide (o.getD n.toNat 0<0)) (h6:pDD (o.getD n.toNat 0) l) (h7:¬(n≥d)) (h8:r64 (n+1)):LG ag_L0 (zd0 a b d g j l m n o) (zd0 a b d g j l m (n+1) (o.set n.toNat (o.getD n.toNat 0*l))):=Loops.go (LS.at ziG 60 [] [1,5,6,7,8,9,42,43] [0,1,2,3] [1,0] (.t h1<|.t h2<|.t h3<|.t h4<|.c h5<|.c h6<|.f h7<|.i h8<|.e) [1,2,3,4,5,0,6,2,3,4,0,7,8])
theorem ag_L0_0_2 (a:List Int) (b:Nat) (c d g i j l:Int) (m:List Int) (h1:¬(l<d)):ag_L0 (zd0 a b c d g i j l m) (Ex.exit 2,(zen a b c d g i j l m)):=LF (LS.at ziG 60 [] [1,5,6,7,8,9,42,43] [0,1,2,3] [0] (.f h1<|.e) [1])
abbrev ag_L1 (s:St) (r:Ex × St):Prop:=Loops 5 tP (kZ tP 193 0) s r
abbrev zfy (a:List Int) (b c d:Int) (e:Nat):St:=⟨sp 22 [(0,.own 1 0 e 2)],[.dead,.lst EK.whole a true,.flat [aD b,.wd b] true,.flat [aD c,.wd c] true,.flat [aD d,.wd d] true],[0,1,2,3]⟩
abbrev zeo (a:List Int) (b c d:Int) (e:Nat):St:=⟨sp 22 [(0,.own 1 0 e 2)],[.dead,.lst EK.whole a true,.flat [aD b,.wd b] true,.flat [aD c,.wd c] true,.flat [aD d,.wd d] true],[0,1,2,3]⟩
theorem ag_L1_0_0 (a:List Int) (b d f:Int) (g:Nat) (h1:(g:Int) > 0) (h2:r64 ((g:Int)-1)) (h3:0≤(g:Int)-1) (h4:(g:Int)-1<(g:Int)) (h5:((g:Int)-1).toNat<a.length) (h6:decide (a.getD ((g:Int)-1).toNat 0<OfNat.ofNat 0)=decide (a.getD ((g:Int)-1).toNat 0<0)) (h7:(a.getD ((g:Int)-1).toNat 0).sign=0) (h8:(g:Int)-1≤(g:Int)):LG ag_L1 (zfy a b d f g) (zfy a b d f ((g:Int)-1).toNat):=Loops.go (LS.at ziG 60 [] [0] [0,1,2,3] [1,1] (.t h1<|.i h2<|.t h3<|.t h4<|.t h5<|.c h6<|.c (beq_iff_eq.2 h7)<|.t h8<|.e) [1,2,3,4,5,6,0,7,2,3,8])
theorem ag_L1_0_1 (a:List Int) (b d f:Int) (g:Nat) (h1:(g:Int) > 0) (h2:r64 ((g:Int)-1)) (h3:0≤(g:Int)-1) (h4:(g:Int)-1<(g:Int)) (h5:((g:Int)-1).toNat<a.length) (h6:decide (a.getD ((g:Int)-1).toNat 0<OfNat.ofNat 0)=decide (a.getD ((g:Int)-1).toNat 0<0)) (h7:(a.getD ((g:Int)-1).toNat 0).sign≠0):ag_L1 (zfy a b d f g) (Ex.exit 0,(zeo a b d f g)):=LF (LS.at ziG 60 [] [0] [0,1,2,3] [1,0] (.t h1<|.i h2<|.t h3<|.t h4<|.t h5<|.c h6<|.c (beq_false_of_ne h7)<|.e) [1,2,3,4,5,6,0,7])
theorem ag_L1_0_2 (a:List Int) (b c d:Int) (g:Nat) (h1:¬((g:Int) > 0)):ag_L1 (zfy a b c d g) (Ex.exit 0,(zeo a b c d g)):=LF (LS.at ziG 60 [] [0] [0,1,2,3] [0] (.f h1<|.e) [1])
theorem ag_L2_0_0 (a:List Int) (b d:Int) (f:Nat) (g:List Int) (j:Int) (l:List Int) (m:Nat) (h1:(f:Int)≥(a.length:Int)) (h2:r64 ((f:Int)-1)) (h3:0≤(f:Int)-1) (h4:(f:Int)-1<(f:Int)) (h5:((f:Int)-1).toNat<g.length) (h6:decide (g.getD ((f:Int)-1).toNat 0<OfNat.ofNat 0)=decide (g.getD ((f:Int)-1).toNat 0<0)) (h7:pDD (g.getD ((f:Int)-1).toNat 0) b) (h8:r64 ((f:Int)-(a.length:Int))) (hL1:ag_L0 (zd0 a f ((f:Int)-(a.length:Int)) ((f:Int)) b d (g.getD ((f:Int)-1).toNat 0*b) (0) g) (Ex.exit 2,(zen a f ((f:Int)-(a.length:Int)) ((f:Int)) b d (g.getD ((f:Int)-1).toNat 0*b) j l))) (hL2:ag_L1 (zfy l b d (g.getD ((f:Int)-1).toNat 0*b) f) (Ex.exit 0,(zeo l b d (g.getD ((f:Int)-1).toNat 0*b) m))):LG ag_L2 (zgV a b d f g) (zgV a b d m l):=Loops.go (LS.at ziG 60 [] [1,5,6,7] [3,2,1,0] [1] (.t h1<|.i h2<|.t h3<|.t h4<|.t h5<|.c h6<|.c h7<|.i h8<|.v [1,5,6,7,8,9,42,43] [0,1,2,3] hL1<|.v [0] [0,1,2,3] hL2<|.e) [1,2,3,4,5,6,0,7,6,0,7,0,8,0,9,0,10])
theorem ag_L2_0_1 (a:List Int) (b c:Int) (d:Nat) (g:List Int) (h1:¬((d:Int)≥(a.length:Int))):ag_L2 (zgV a b c d g) (Ex.exit 0,(zjq a b c d g)):=LF (LS.at ziG 60 [] [1,5,6,7] [3,2,1,0] [0] (.f h1<|.e) [1])
abbrev ag_L3 (s:St) (r:Ex × St):Prop:=Loops 4 tP (kZ tP 181 2) s r
abbrev zfz (a:Nat) (b c d e:Int) (f:List Int):St:=⟨sp 93 [(5,.own 1 0 a 2),(79,aI b),(80,aI e)],[.dead,.lst EK.whole f true,.flat [aD c,.wd c] true,.flat [aD d,.wd d] true],[3,2,1,0]⟩
abbrev zgn (a:Nat) (b c d e:Int) (f:List Int):St:=⟨sp 93 [(5,.own 1 0 a 2),(79,aI b),(80,aI e)],[.dead,.lst EK.whole f true,.flat [aD c,.wd c] true,.flat [aD d,.wd d] true],[3,2,1,0]⟩
theorem ag_L3_0_0 (a:Nat) (b d f g:Int) (j:List Int) (h1:g<b) (h2:0≤g) (h3:g<(a:Int)) (h4:g.toNat<j.length) (h5:decide (j.getD g.toNat 0<OfNat.ofNat 0)=decide (j.getD g.toNat 0<0)) (h6:r64 (g+1)):LG ag_L3 (zfz a b d f g j) (zfz a b d f (g+1) (j.set g.toNat (-j.getD g.toNat 0))):=Loops.go (LS.at ziG 60 [] [5,79,80] [3,2,1,0] [1] (.t h1<|.t h2<|.t h3<|.t h4<|.c h5<|.i h6<|.e) [1,2,3,4,5,0,2,3,4,0,6])
theorem ag_L3_0_1 (a:Nat) (b c d g:Int) (i:List Int) (h1:¬(g<b)):ag_L3 (zfz a b c d g i) (Ex.exit 4,(zgn a b c d g i)):=LF (LS.at ziG 60 [] [5,79,80] [3,2,1,0] [0] (.f h1<|.e) [1])
theorem ag_0 (p q:List Int) (a:Nat) (b:List Int) (d:Int) (f:List Int) (h1:p≠[]) (h2:(0+p.length)*32≤140737488355328) (h3:0+p.length≤4611686018427387904) (h4:r64 ((q.length:Int)-1)) (h5:0≤(q.length:Int)-1) (h6:(q.length:Int)-1<(q.length:Int)) (h7:decide (q.getD ((q.length:Int)-1).toNat 0<OfNat.ofNat 0)=decide (q.getD ((q.length:Int)-1).toNat 0<0)) (h8:pDD (q.getD ((q.length:Int)-1).toNat 0) (q.getD ((q.length:Int)-1).toNat 0)) (hL1:ag_L2 (zgV q (q.getD ((q.length:Int)-1).toNat 0) (q.getD ((q.length:Int)-1).toNat 0*q.getD ((q.length:Int)-1).toNat 0) (0+p.length) (List.take 0 []++p)) (Ex.exit 0,(zjq q (q.getD ((q.length:Int)-1).toNat 0) (q.getD ((q.length:Int)-1).toNat 0*q.getD ((q.length:Int)-1).toNat 0) a b))) (hL2:ag_L3 (zfz a ((a:Int)) (q.getD ((q.length:Int)-1).toNat 0) (q.getD ((q.length:Int)-1).toNat 0*q.getD ((q.length:Int)-1).toNat 0) (0) b) (Ex.exit 4,(zgn a ((a:Int)) (q.getD ((q.length:Int)-1).toNat 0) (q.getD ((q.length:Int)-1).toNat 0*q.getD ((q.length:Int)-1).toNat 0) d f))) (h11:a≤f.length):FC tP 181 [.lst .whole p,.lst .whole q] (.lst EK.whole (f.take a)):=dZ ziG 60 [] (.c (congrArg Bool.not (zaV h1))<|.t h2<|.t h3<|.i h4<|.t h5<|.t h6<|.c h7<|.c h8<|.v [1,5,6,7] [3,2,1,0] hL1<|.v [5,79,80] [3,2,1,0] hL2<|.c h11<|.e) [1,2,3,0,4,5,6,7,7,8,0,9,0,10,11]
end
open Go.Kf
theorem getD_agR {q r:List Int} {sq first:Int} {shift i:Nat} (h:i≤r.length):(agR q sq first shift r i).getD i 0=r.getD i 0:=by
 rw [zgT _ _ _ _ _ _ _ h,if_neg (Nat.lt_irrefl i)]
theorem getDsetS {l:List Int} {i:Nat} {v:Int} (h:i<l.length):(l.set i v).getD i 0=v:=by
 simp_all
theorem ag_l0 {q r:List Int} {n shift:Nat} {top sq first t9:Int} {k:Nat} (hn:n≤r.length) (hm:n≤100000) (h9:t9=(shift:Int)) (hs:shift+q.length=n) (hk:k≤400000) (hr:∀j,Sz k (r.getD j 0)) (hsq:Sz k sq) (hf:Sz k first) (hq:∀j,Sz k (q.getD j 0)) :
    ∀(m i:Nat),i+m=n→ag_L0 (zd0 q n t9 n top sq first i (agR q sq first shift r i)) (Ex.exit 2,zen q n t9 n top sq first n (agR q sq first shift r n))
  | 0,i,hi=>by
    obtain rfl:i=n:=by omega
    exact ag_L0_0_2 q i t9 i top sq first i _ (by omega)
  | m + 1, i,hi=>by
    have hlen:=zgU q sq first shift r i
    have hg:=getD_agR (q:=q) (sq:=sq) (first:=first) (shift:=shift) (r:=r) (i:=i) (by omega)
    have ih:=ag_l0 (top:=top) hn hm h9 hs hk hr hsq hf hq m (i+1) (by omega)
    have fz:∀ {z:Int} {j:Nat},Sz j z→j≤1048576→zag z:=fun h h2=>rZ h h2
    have e1:Int.toNat (i:Int)=i:=rfl
    by_cases hsh:shift≤i
    · have e2:Int.toNat ((i:Int)-t9)=i-shift:=by omega
      have hset:((agR q sq first shift r i).set i (r.getD i 0*sq)).getD i 0=r.getD i 0*sq:=getDsetS (by omega)
      have key:agR q sq first shift r (i+1)=((agR q sq first shift r i).set i (r.getD i 0*sq)).set i (r.getD i 0*sq + -(first*q.getD (i-shift) 0)):=by
        rw [List.set_set]
        show(agR q sq first shift r i).set i (agC q sq first shift i (r.getD i 0))=_
        unfold agC;rw [if_pos hsh]
      rw [key] at ih
      have go:=@ag_L0_0_0 q n t9 n top sq first i (agR q sq first shift r i) (by omega) (by omega) (by omega) (by rw [e1,hlen];omega) rfl (by rw [e1];show pDD ((agR q sq first shift r i).getD i 0) sq;rw [hg];exact ⟨fz (hr i) (by omega),fz hsq (by omega)⟩) (by omega) (by omega) (by omega) (by omega)
        (by grind) rfl (by rw [e2];exact ⟨fz hf (by omega),fz (hq _) (by omega)⟩) rfl
        (by
          rw [e1,e2]
          show pDD (((agR q sq first shift r i).set i ((agR q sq first shift r i).getD i 0*sq)).getD i 0) (-(first*q.getD (i-shift) 0))
          rw [hg,hset]
          exact ⟨fz ((hr i).mul hsq) (by omega),fz ((hf.mul (hq _)).neg) (by omega)⟩) (by omega) (Ex.exit 2,zen q n t9 n top sq first n (agR q sq first shift r n))
      grind
    · have key:agR q sq first shift r (i+1)=(agR q sq first shift r i).set i (r.getD i 0*sq):=by
        show(agR q sq first shift r i).set i (agC q sq first shift i (r.getD i 0))=_
        unfold agC;rw [if_neg hsh]
      rw [key] at ih
      have go:=@ag_L0_0_1 q n t9 n top sq first i (agR q sq first shift r i) (by omega) (by omega) (by omega) (by rw [e1,hlen];omega) rfl (by rw [e1];show pDD ((agR q sq first shift r i).getD i 0) sq;rw [hg];exact ⟨fz (hr i) (by omega),fz hsq (by omega)⟩) (by omega) (by omega) (Ex.exit 2,zen q n t9 n top sq first n (agR q sq first shift r n))
      grind
theorem ag_l1 {r:List Int} {a b c:Int}:∀(n:Nat),n≤r.length→n≤100000→ag_L1 (zfy r a b c n) (Ex.exit 0,zeo r a b c (cutN r n))
 | 0,_,_=>ag_L1_0_2 r a b c 0 (by omega)
 | n + 1,h,hm=>by
  have e1:Int.toNat (((n+1:Nat):Int)-1)=n:=by omega
  unfold cutN
  by_cases hz:r.getD n 0=0
  ·rw [if_pos hz]
   have ih:=ag_l1 (r:=r) (a:=a) (b:=b) (c:=c) n (by omega) (by omega)
   have go:=@ag_L1_0_0 r a b c (n+1) (by omega) (by omega) (by omega) (by omega) (by omega) rfl (by grind) (by omega) (Ex.exit 0,zeo r a b c (cutN r n))
   simp_all
  ·rw [if_neg hz]
   exact ag_L1_0_1 r a b c (n+1) (by omega) (by omega) (by omega) (by omega) (by omega) rfl (by grind)
theorem ag_l3 {r:List Int} {n:Nat} {a b:Int} (hn:n≤r.length) (hm:n≤100000):∀(m i:Nat),i+m=n→ag_L3 (zfz n n a b i (ngR r i)) (Ex.exit 4,zgn n n a b n (ngR r n))
 | 0,i,hi=>by
  obtain rfl:i=n:=by omega
  exact ag_L3_0_1 i i a b i _ (by omega)
 | m+1,i,hi=>by
  have hlen:=zfJ r i
  have hg:(ngR r i).getD i 0=r.getD i 0:=by rw [zjV _ _ _ (by omega),if_neg (Nat.lt_irrefl i)]
  have ih:=ag_l3 (a:=a) (b:=b) hn hm m (i+1) (by omega)
  have e1:Int.toNat (i:Int)=i:=rfl
  have go:=@ag_L3_0_0 n n a b i (ngR r i) (by omega) (by omega) (by omega) (by rw [e1,hlen];omega) rfl (by omega) (Ex.exit 4,zgn n n a b n (ngR r n))
  rw [e1] at go
  refine go ?_
  show ag_L3 (zfz n n a b ((i:Int)+1) ((ngR r i).set i (-((ngR r i).getD i 0)))) _
  rw [hg]
  exact ih
theorem agC_sz {q:List Int} {sq first x:Int} {shift i a b c d m:Nat} (hx:Sz a x) (hs:Sz b sq) (hf:Sz c first) (hq:∀j,Sz d (q.getD j 0)) (h1:a+b<m) (h2:c+d<m):Sz m (agC q sq first shift i x):=by
 unfold agC
 split
 ·exact Sz.add (hx.mul hs) ((hf.mul (hq _)).neg) h1 h2
 ·exact(hx.mul hs).mono (by omega)
theorem agR_sz {q r:List Int} {sq first:Int} {shift n a b c d m:Nat} (hn:n≤r.length) (hr:∀j,Sz a (r.getD j 0)) (hs:Sz b sq) (hf:Sz c first) (hq:∀j,Sz d (q.getD j 0)) (h1:a+b<m) (h2:c+d<m) (j:Nat):Sz m ((agR q sq first shift r n).getD j 0):=by
 rw [zgT _ _ _ _ _ _ _ hn]
 split
 ·exact agC_sz (hr j) hs hf hq h1 h2
 ·exact(hr j).mono (by omega)
theorem znD {r:List Int} {n:Nat} (h:r.getD n 0=0):cutN r (n+1)≤n:=by
 unfold cutN;rw [if_pos h];exact zg7 r n
theorem ag_l2 {q:List Int} {d:Nat} (hq0:1≤q.length) (hq:∀j,Sz d (q.getD j 0)):∀(k n:Nat) (r:List Int) (a:Nat),n≤k→n≤r.length→n≤1000→(∀j,Sz a (r.getD j 0))→a+k*(2*d+1)≤300000→d≤50000 →
    ag_L2 (zgV q (q.getD (q.length-1) 0) (q.getD (q.length-1) 0*q.getD (q.length-1) 0) n r) (Ex.exit 0,zjq q (q.getD (q.length-1) 0) (q.getD (q.length-1) 0*q.getD (q.length-1) 0) (agN q k n r).1 (agN q k n r).2) ∧
      (agN q k n r).1≤(agN q k n r).2.length∧(agN q k n r).1≤n∧(agN q k n r).2.length=r.length∧(q.length≤n→(agN q k n r).1<q.length)∧(∀j,Sz (a+k*(2*d+1)) ((agN q k n r).2.getD j 0))
  | k, n,r,a,hk,hn,hm,hr,hs,hd=>by
    by_cases hc:q.length≤n
    · obtain ⟨k,rfl⟩:∃j,k=j+1:=⟨k-1,by omega⟩
      obtain ⟨m,rfl⟩:∃j,n=j+1:=⟨n-1,by omega⟩
      have hmul:(k+1)*(2*d+1)=k*(2*d+1)+(2*d+1):=Nat.succ_mul _ _
      have ht:=hq (q.length-1)
      generalize htt:q.getD (q.length-1) 0=t at ht
      have hsq:Sz (d+d) (t*t):=ht.mul ht
      have hf:Sz (a+d) (r.getD m 0*t):=(hr m).mul ht
      have hR:∀j,Sz (a+(2*d+1)) ((agR q (t*t) (r.getD m 0*t) (m+1-q.length) r (m+1)).getD j 0):=agR_sz hn hr hsq hf hq (by omega) (by omega)
      have hl:=zgU q (t*t) (r.getD m 0*t) (m+1-q.length) r (m+1)
      have htop:(agR q (t*t) (r.getD m 0*t) (m+1-q.length) r (m+1)).getD m 0=0:=by
        rw [zgT _ _ _ _ _ _ _ hn,if_pos (by omega)]
        unfold agC
        grind
      have hcut:=znD htop
      have hcut2:=zg7 (agR q (t*t) (r.getD m 0*t) (m+1-q.length) r (m+1)) (m+1)
      have e:agN q (k+1) (m+1) r=agN q k (cutN (agR q (t*t) (r.getD m 0*t) (m+1-q.length) r (m+1)) (m+1)) (agR q (t*t) (r.getD m 0*t) (m+1-q.length) r (m+1)):=by
        conv=>lhs;unfold agN
        simp_all
      obtain ⟨i1,i2,i3,i4,i5,i6⟩:=ag_l2 hq0 hq k (cutN (agR q (t*t) (r.getD m 0*t) (m+1-q.length) r (m+1)) (m+1)) (agR q (t*t) (r.getD m 0*t) (m+1-q.length) r (m+1)) (a+(2*d+1)) (by omega) (by omega) (by omega) hR (by omega) hd
      rw [htt] at i1
      rw [e]
      have e1:Int.toNat (((m+1:Nat):Int)-1)=m:=by omega
      have fz:∀ {z:Int} {j:Nat},Sz j z→j≤1048576→zag z:=fun h h2=>rZ h h2
      have L0:=ag_l0 (q:=q) (r:=r) (n:=m+1) (shift:=m+1-q.length) (top:=t) (sq:=t*t) (first:=r.getD m 0*t) (t9:=((m+1:Nat):Int)-(q.length:Int)) (k:=a+d+d+d) hn (by omega) (by omega) (by omega) (by omega)
        (fun j=>(hr j).mono (by omega)) (hsq.mono (by omega)) (hf.mono (by omega)) (fun j=>(hq j).mono (by omega)) (m+1) 0 (by omega)
      have L1:=ag_l1 (r:=agR q (t*t) (r.getD m 0*t) (m+1-q.length) r (m+1)) (a:=t) (b:=t*t) (c:=r.getD m 0*t) (m+1) (by omega) (by omega)
      have go:=@ag_L2_0_0 q t (t*t) (m+1) r ((m+1:Nat):Int) (agR q (t*t) (r.getD m 0*t) (m+1-q.length) r (m+1)) (cutN (agR q (t*t) (r.getD m 0*t) (m+1-q.length) r (m+1)) (m+1)) (by omega) (by omega) (by omega) (by omega) (by omega) rfl
        (by rw [e1];exact ⟨fz (hr m) (by omega),fz ht (by omega)⟩) (by omega) (by rw [e1];exact L0) (by rw [e1];exact L1)
      grind
    · have e:agN q k n r=(n,r):=by
        cases k with
        | zero=>rfl
        | succ k=>unfold agN;rw [if_neg hc]
      rw [e]
      exact ⟨ag_L2_0_1 q _ _ n r (by omega),hn,Nat.le_refl _,rfl,fun h=>absurd h hc,fun j=>(hr j).mono (Nat.le_add_right _ _)⟩
def pAg (p q:List Int):Prop:=(∃a d:Nat,(∀j,Sz a (p.getD j 0))∧(∀j,Sz d (q.getD j 0))∧a+p.length*(2*d+1)≤300000∧d≤50000)∧p≠[]∧p.length≤1000∧1≤q.length∧q.length≤1000
instance tAg {p q:List Int}:Tst (pAg p q):=⟨false,fun h=>by cases h⟩
theorem zoJ (p q:List Int) (h:pAg p q):FC tP 181 [.lst .whole p,.lst .whole q] (.lst .whole (agst p q)):=by
 obtain ⟨⟨a,d,hp,hq,h1,h2⟩,hne,hpl,hq0,hql⟩:=h
 obtain ⟨i1,i2,i3,i4,i5,i6⟩:=ag_l2 hq0 hq p.length p.length p a (Nat.le_refl _) (Nat.le_refl _) hpl hp h1 h2
 have L3:=ag_l3 (r:=(agN q p.length p.length p).2) (n:=(agN q p.length p.length p).1) (a:=q.getD (q.length-1) 0) (b:=q.getD (q.length-1) 0*q.getD (q.length-1) 0) i2 (by omega) (agN q p.length p.length p).1 0 (by omega)
 have e1:Int.toNat ((q.length:Int)-1)=q.length-1:=by omega
 have ht:=hq (q.length-1)
 have hf:zag (q.getD (q.length-1) 0):=rZ ht (by omega)
 have:=ag_0 p q (agN q p.length p.length p).1 (agN q p.length p.length p).2 ((agN q p.length p.length p).1:Int) (ngR (agN q p.length p.length p).2 (agN q p.length p.length p).1) hne (by omega) (by omega) (by omega) (by omega) (by omega) rfl
  (by rw [e1];exact ⟨hf,hf⟩) (by rw [e1,Nat.zero_add];exact i1) (by rw [e1];exact L3) (by rw [zfJ];exact i2)
 exact this
abbrev kdR:List (TypeId × EK):=[(97,.whole),(22,.sl (.int .i64))]
noncomputable def ctrH4:Ctr:=(181,cD2 (.sl .whole) (.sl .whole) pAg (fun p q=>.lst .whole (Go.Kf.agst p q))) :: ctrH3
theorem zkX:∀p∈ctrH4,jZ tP p.1 p.2:=CAll.cons (zb5 zoJ) zkW
theorem okKR:(eZ tP ctrH4 bw [] kdR).OK:=vZ zaC mixed zkX zaA
noncomputable section
abbrev zlU (s:St) (r:Ex × St):Prop:=Loops 0 tP (kZ tP 176 0) s r
abbrev zdG (a:List (List Int)) (b:Int):St:=⟨sp 22 [(0,.lst KI a),(3,aI b)],[],[]⟩
abbrev zdk (a:List (List Int)) (b:Int):St:=⟨sp 22 [(0,.lst KI a),(3,aI b)],[],[]⟩
theorem zrd (a:List (List Int)) (b:Int) (h1:b > 0) (h2:r64 (b-1)) (h3:0≤b-1) (h4:b-1<(a.length:Int)) (h5:pX (a.getD (b-1).toNat [])) (h6:(vl (a.getD (b-1).toNat [])).sign=0):LG zlU (zdG a b) (zdG a (b-1)):=Loops.go (LS.at okKR 60 [] [0,3] [] [1,1] (.t h1<|.i h2<|.t h3<|.t h4<|.c h5<|.c (beq_iff_eq.2 h6)<|.e) [1,2,3,4,5,6,2])
theorem zre (a:List (List Int)) (b:Int) (h1:b > 0) (h2:r64 (b-1)) (h3:0≤b-1) (h4:b-1<(a.length:Int)) (h5:pX (a.getD (b-1).toNat [])) (h6:(vl (a.getD (b-1).toNat [])).sign≠0):zlU (zdG a b) (Ex.exit 0,(zdk a b)):=LF (LS.at okKR 60 [] [0,3] [] [1,0] (.t h1<|.i h2<|.t h3<|.t h4<|.c h5<|.c (beq_false_of_ne h6)<|.e) [1,2,3,4,5,6])
theorem zrf (a:List (List Int)) (b:Int) (h1:¬(b > 0)):zlU (zdG a b) (Ex.exit 0,(zdk a b)):=LF (LS.at okKR 60 [] [0,3] [] [0] (.f h1<|.e) [1])
theorem rsh_0 (p:List (List Int)) (a:Int) (hL1:zlU (zdG p ((p.length:Int))) (Ex.exit 0,(zdk p a))) (h2:0≤a) (h3:a≤(p.length:Int)):FC tP 176 [.lst (.sl (.int .i64)) p] (.lst KI ((p.take a.toNat).drop 0)):=dZ okKR 60 [] (.v [0,3] [] hL1<|.t h2<|.t h3<|.e) [0,1,0,2,3]
end
open Go.Kf
def vls (p:List (List Int)):List Int:=p.map vl
theorem zav (p:List (List Int)) (i:Nat):vl (p.getD i [])=(vls p).getD i 0:=by
 simp only [vls,List.getD_eq_getElem?_getD,List.getElem?_map]
 cases p[i]? <;> rfl
def pSh (p:List (List Int)):Prop:=p.length≤1000∧∀l∈p,pX l
instance tSh {p:List (List Int)}:Tst (pSh p):=⟨false,fun h=>by cases h⟩
theorem pSh_get {p:List (List Int)} (h:pSh p) {i:Nat} (hi:i<p.length):pX (p.getD i []):=by
 rw [List.getD_eq_getElem?_getD,List.getElem?_eq_getElem hi];exact h.2 _ (List.getElem_mem hi)
theorem zoo {p:List (List Int)} (h:pSh p):∀(n:Nat),n≤p.length→zlU (zdG p n) (Ex.exit 0,zdk p (cutN (vls p) n))
 | 0,_=>zrf p _ (by omega)
 | n + 1,hn=>by
  have hl:=h.1
  have e1:Int.toNat (((n+1:Nat):Int)-1)=n:=by omega
  have e2:((n+1:Nat):Int)-1=(n:Int):=by omega
  have hx:=pSh_get h (i:=n) (by omega)
  unfold cutN
  rw [← zav]
  by_cases hz:vl (p.getD n [])=0
  ·rw [if_pos hz]
   have ih:=zoo h n (by omega)
   have go:=@zrd p ((n+1:Nat):Int) (by omega) (by omega) (by omega) (by omega) (by rw [e1];exact hx) (by rw [e1];show Int.sign (vl (p.getD n []))=0;rw [hz];rfl) (Ex.exit 0,zdk p (cutN (vls p) n))
   rw [e2] at go
   exact go ih
  ·rw [if_neg hz]
   exact zre p _ (by omega) (by omega) (by omega) (by omega) (by rw [e1];exact hx) (by rw [e1];show Int.sign (vl (p.getD n []))≠0;exact fun h0=>hz (Int.sign_eq_zero_iff_zero.1 h0))
theorem rshort_fc (p:List (List Int)) (h:pSh p):FC tP 176 [.lst (.sl (.int .i64)) p] (.lst (.sl (.int .i64)) (p.take (cutN (vls p) p.length))):=by
 have hc:=zg7 (vls p) p.length
 have:=rsh_0 p (cutN (vls p) p.length:Nat) (zoo h p.length (Nat.le_refl _)) (by omega) (by omega)
 exact this
noncomputable def ctrH5:Ctr:=(176,cD1 (.sl (.sl (.int .i64))) pSh (fun p=>.lst (.sl (.int .i64)) (p.take (cutN (vls p) p.length)))) :: ctrH4
theorem zkY:∀p∈ctrH5,jZ tP p.1 p.2:=CAll.cons (zer rshort_fc) zkX
theorem zc5:(eZ tP ctrH5 bw [] kdR).OK:=vZ zaC mixed zkY zaA
noncomputable section
abbrev zhZ (s:St) (r:Ex × St):Prop:=Loops 2 tP (kZ tP 141 0) s r
abbrev zgK (a:List (List Int)) (b:List Int) (c:Nat) (d:List (List Int)):St:=⟨sp 72 [(1,.lst KI a),(5,.sq b),(6,.own 1 0 c 1)],[.dead,.lst KI d true],[1,0]⟩
abbrev zfe (a:List (List Int)) (b:List Int) (c:Nat) (d e:List (List Int)):St:=⟨sp 72 [(1,.lst KI a),(5,.sq b),(6,.lst KI e)],[.dead,.lst KI d true],[1,0]⟩
abbrev zlR (a:List (List Int)) (b:List Int) (c:Nat) (d:List (List Int)):St:=⟨sp 72 [(1,.lst KI a),(5,.sq b),(6,.own 1 0 c 1)],[.dead,.lst KI d true],[1,0]⟩
abbrev zdg (a:List (List Int)) (b:List Int) (c:Nat) (d e:List (List Int)):St:=⟨sp 72 [(1,.lst KI a),(5,.sq b),(6,.lst KI e)],[.dead,.lst KI d true],[1,0]⟩
abbrev zfc (s:St) (r:Ex × St):Prop:=Loops 2 tP (kZ tP 141 1) s r
abbrev zfd (a:List (List Int)) (b:List Int) (c:Nat) (d:List Int) (e:List (List Int)):St:=⟨sp 72 [(1,.lst KI a),(5,.sq b),(6,.own 1 0 c 1),(7,.sq d),(8,aN),(9,aI 0)],[.dead,.lst KI e true],[1,0]⟩
abbrev zbU (a:List (List Int)) (b:List Int) (c:Nat) (d:List Int) (e:List (List Int)) (f:Nat) (g:Int) (i:List (List Int)):St:=⟨sp 72 [(1,.lst KI a),(5,.sq b),(6,.own 1 0 c 1),(7,.sq d),(8,.own 2 0 f 1),(9,aI g)],[.dead,.lst KI e true,.lst KI i true],[1,0]⟩
abbrev rre_L0_E0 (a:List (List Int)) (b:List Int) (c:Nat) (d:List Int) (e:List (List Int)):St:=⟨sp 72 [(1,.lst KI a),(5,.sq b),(6,.own 1 0 c 1),(7,.sq d),(8,aN),(9,aI 0)],[.dead,.lst KI e true],[1,0]⟩
abbrev za3 (a:List (List Int)) (b:List Int) (c:Nat) (d:List Int) (e:List (List Int)) (f:Nat) (g:Int) (i:List (List Int)):St:=⟨sp 72 [(1,.lst KI a),(5,.sq b),(6,.own 1 0 c 1),(7,.sq d),(8,.own 2 0 f 1),(9,aI g)],[.dead,.lst KI e true,.lst KI i true],[1,0]⟩
theorem zqL (a:List (List Int)) (b:List Int) (d:Nat) (f:List Int) (g:List (List Int)) (h1:0<(d:Int)) (h2:0<g.length) (h3:pMu (g.getD 0 []) b) (h4:pMu (aZ (vl (g.getD 0 [])*vl b)) b) (h5:r64 (0-(d:Int))) (h6:r64 (0-(d:Int)+(a.length:Int))) (h7:0-(d:Int)+(a.length:Int)≥0) (h8:0≤0-(d:Int)+(a.length:Int)) (h9:0-(d:Int)+(a.length:Int)<(a.length:Int)) (h10:pMu f b) (h11:pMu (aZ (vl f*vl b)) (a.getD (0-(d:Int)+(a.length:Int)).toNat [])) (h12:pSu (aZ (vl (aZ (vl (g.getD 0 [])*vl b))*vl b)) (aZ (vl (aZ (vl f*vl b))*vl (a.getD (0-(d:Int)+(a.length:Int)).toNat [])))) (h13:1≤List.length [aZ (vl (aZ (vl (aZ (vl (g.getD 0 [])*vl b))*vl b))-vl (aZ (vl (aZ (vl f*vl b))*vl (a.getD (0-(d:Int)+(a.length:Int)).toNat []))))]) (h14:0<(List.take 1 [aZ (vl (aZ (vl (aZ (vl (g.getD 0 [])*vl b))*vl b))-vl (aZ (vl (aZ (vl f*vl b))*vl (a.getD (0-(d:Int)+(a.length:Int)).toNat []))))]).length) (h15:(List.take 1 [aZ (vl (aZ (vl (aZ (vl (g.getD 0 [])*vl b))*vl b))-vl (aZ (vl (aZ (vl f*vl b))*vl (a.getD (0-(d:Int)+(a.length:Int)).toNat []))))]).length*24≤140737488355328) (h16:(List.take 1 [aZ (vl (aZ (vl (aZ (vl (g.getD 0 [])*vl b))*vl b))-vl (aZ (vl (aZ (vl f*vl b))*vl (a.getD (0-(d:Int)+(a.length:Int)).toNat []))))]).length≤4611686018427387904):LG zfc (zfd a b d f g) (zbU a b d f g (1) (1) ([aZ (vl (aZ (vl (aZ (vl (g.getD 0 [])*vl b))*vl b))-vl (aZ (vl (aZ (vl f*vl b))*vl (a.getD (0-(d:Int)+(a.length:Int)).toNat []))))])):=Loops.go (LS.at zc5 60 [3] [1,5,6,7,8,9] [1,0] [1,1] (.t h1<|.t h2<|.c h3<|.c h4<|.i h5<|.i h6<|.t h7<|.t h8<|.t h9<|.c h10<|.c h11<|.c h12<|.c h13<|.t h14<|.t h15<|.t h16<|.e) [1,0,1,2,3,4,5,6,7,8,9,10,11,12,13,14,15,16,0])
theorem zqM (a:List (List Int)) (b:List Int) (d:Nat) (g:List Int) (j:List (List Int)) (h1:0<(d:Int)) (h2:0<j.length) (h3:pMu (j.getD 0 []) b) (h4:pMu (aZ (vl (j.getD 0 [])*vl b)) b) (h5:r64 (0-(d:Int))) (h6:r64 (0-(d:Int)+(a.length:Int))) (h7:¬(0-(d:Int)+(a.length:Int)≥0)) (h8:1≤List.length [aZ (vl (aZ (vl (j.getD 0 [])*vl b))*vl b)]) (h9:0<(List.take 1 [aZ (vl (aZ (vl (j.getD 0 [])*vl b))*vl b)]).length) (h10:(List.take 1 [aZ (vl (aZ (vl (j.getD 0 [])*vl b))*vl b)]).length*24≤140737488355328) (h11:(List.take 1 [aZ (vl (aZ (vl (j.getD 0 [])*vl b))*vl b)]).length≤4611686018427387904):LG zfc (zfd a b d g j) (zbU a b d g j (1) (1) ([aZ (vl (aZ (vl (j.getD 0 [])*vl b))*vl b)])):=Loops.go (LS.at zc5 60 [3] [1,5,6,7,8,9] [1,0] [1,0] (.t h1<|.t h2<|.c h3<|.c h4<|.i h5<|.i h6<|.f h7<|.c h8<|.t h9<|.t h10<|.t h11<|.e) [1,0,1,2,3,4,5,6,7,8,9,10,11,0])
theorem rre_L0_0_2 (a:List (List Int)) (b:List Int) (c:Nat) (d:List Int) (g:List (List Int)) (h1:¬(0<(c:Int))):zfc (zfd a b c d g) (Ex.exit 2,(rre_L0_E0 a b c d g)):=LF (LS.at zc5 60 [] [1,5,6,7,8,9] [1,0] [0] (.f h1<|.e) [1])
theorem zqN (a:List (List Int)) (b:List Int) (d:Nat) (f:List Int) (g:List (List Int)) (j:Nat) (l:Int) (m:List (List Int)) (h1:l<(d:Int)) (h2:0≤l) (h3:l.toNat<g.length) (h4:pMu (g.getD l.toNat []) b) (h5:pMu (aZ (vl (g.getD l.toNat [])*vl b)) b) (h6:r64 (l-(d:Int))) (h7:r64 (l-(d:Int)+(a.length:Int))) (h8:l-(d:Int)+(a.length:Int)≥0) (h9:0≤l-(d:Int)+(a.length:Int)) (h10:l-(d:Int)+(a.length:Int)<(a.length:Int)) (h11:pMu f b) (h12:pMu (aZ (vl f*vl b)) (a.getD (l-(d:Int)+(a.length:Int)).toNat [])) (h13:pSu (aZ (vl (aZ (vl (g.getD l.toNat [])*vl b))*vl b)) (aZ (vl (aZ (vl f*vl b))*vl (a.getD (l-(d:Int)+(a.length:Int)).toNat [])))) (h14:1≤List.length [aZ (vl (aZ (vl (aZ (vl (g.getD l.toNat [])*vl b))*vl b))-vl (aZ (vl (aZ (vl f*vl b))*vl (a.getD (l-(d:Int)+(a.length:Int)).toNat []))))]) (h15:(j+(List.take 1 [aZ (vl (aZ (vl (aZ (vl (g.getD l.toNat [])*vl b))*vl b))-vl (aZ (vl (aZ (vl f*vl b))*vl (a.getD (l-(d:Int)+(a.length:Int)).toNat []))))]).length)*24≤140737488355328) (h16:j+(List.take 1 [aZ (vl (aZ (vl (aZ (vl (g.getD l.toNat [])*vl b))*vl b))-vl (aZ (vl (aZ (vl f*vl b))*vl (a.getD (l-(d:Int)+(a.length:Int)).toNat []))))]).length≤4611686018427387904) (h17:j≤m.length) (h18:r64 (l+1)):LG zfc (zbU a b d f g j l m) (zbU a b d f g (j+(List.take 1 [aZ (vl (aZ (vl (aZ (vl (g.getD l.toNat [])*vl b))*vl b))-vl (aZ (vl (aZ (vl f*vl b))*vl (a.getD (l-(d:Int)+(a.length:Int)).toNat []))))]).length) (l+1) (m.take j++List.take 1 [aZ (vl (aZ (vl (aZ (vl (g.getD l.toNat [])*vl b))*vl b))-vl (aZ (vl (aZ (vl f*vl b))*vl (a.getD (l-(d:Int)+(a.length:Int)).toNat []))))])):=Loops.go (LS.at zc5 60 [4] [1,5,6,7,8,9] [1,0] [1,1] (.t h1<|.t h2<|.t h3<|.c h4<|.c h5<|.i h6<|.i h7<|.t h8<|.t h9<|.t h10<|.c h11<|.c h12<|.c h13<|.c h14<|.t h15<|.t h16<|.t h17<|.i h18<|.e) [1,2,1,3,4,5,6,7,8,9,10,11,12,13,14,15,16,17,18])
theorem zqO (a:List (List Int)) (b:List Int) (d:Nat) (g:List Int) (j:List (List Int)) (l:Nat) (m:Int) (n:List (List Int)) (h1:m<(d:Int)) (h2:0≤m) (h3:m.toNat<j.length) (h4:pMu (j.getD m.toNat []) b) (h5:pMu (aZ (vl (j.getD m.toNat [])*vl b)) b) (h6:r64 (m-(d:Int))) (h7:r64 (m-(d:Int)+(a.length:Int))) (h8:¬(m-(d:Int)+(a.length:Int)≥0)) (h9:1≤List.length [aZ (vl (aZ (vl (j.getD m.toNat [])*vl b))*vl b)]) (h10:(l+(List.take 1 [aZ (vl (aZ (vl (j.getD m.toNat [])*vl b))*vl b)]).length)*24≤140737488355328) (h11:l+(List.take 1 [aZ (vl (aZ (vl (j.getD m.toNat [])*vl b))*vl b)]).length≤4611686018427387904) (h12:l≤n.length) (h13:r64 (m+1)):LG zfc (zbU a b d g j l m n) (zbU a b d g j (l+(List.take 1 [aZ (vl (aZ (vl (j.getD m.toNat [])*vl b))*vl b)]).length) (m+1) (n.take l++List.take 1 [aZ (vl (aZ (vl (j.getD m.toNat [])*vl b))*vl b)])):=Loops.go (LS.at zc5 60 [4] [1,5,6,7,8,9] [1,0] [1,0] (.t h1<|.t h2<|.t h3<|.c h4<|.c h5<|.i h6<|.i h7<|.f h8<|.c h9<|.t h10<|.t h11<|.t h12<|.i h13<|.e) [1,2,1,3,4,5,6,7,8,9,10,11,12,13])
theorem zqP (a:List (List Int)) (b:List Int) (c:Nat) (d:List Int) (g:List (List Int)) (i:Nat) (j:Int) (l:List (List Int)) (h1:¬(j<(c:Int))):zfc (zbU a b c d g i j l) (Ex.exit 2,(za3 a b c d g i j l)):=LF (LS.at zc5 60 [2] [1,5,6,7,8,9] [1,0] [0] (.f h1<|.e) [1])
theorem zqV (a:List (List Int)) (b:List Int) (d:Nat) (f:List (List Int)) (g:Nat) (j:Int) (l:List (List Int)) (h1:(d:Int)≥(a.length:Int)) (h2:r64 ((d:Int)-1)) (h3:0≤(d:Int)-1) (h4:(d:Int)-1<(d:Int)) (h5:((d:Int)-1).toNat<f.length) (hL1:zfc (zfd a b d (f.getD ((d:Int)-1).toNat []) f) (Ex.exit 2,(za3 a b d (f.getD ((d:Int)-1).toNat []) f g j l))) (h7:g≤l.length) (h8:pSh (l.take g)):LG zhZ (zgK a b d f) (zfe a b d f ((l.take g).take (Kf.cutN (vls (l.take g)) (l.take g).length))):=Loops.go (LS.at zc5 60 [] [1,5,6] [1,0] [1] (.t h1<|.i h2<|.t h3<|.t h4<|.t h5<|.v [1,5,6,7,8,9] [1,0] hL1<|.c h7<|.c h8<|.e) [1,2,3,4,5,0,6,7,8])
theorem zqW (a:List (List Int)) (b:List Int) (c:Nat) (d:List (List Int)) (h1:¬((c:Int)≥(a.length:Int))):zhZ (zgK a b c d) (Ex.exit 0,(zlR a b c d)):=LF (LS.at zc5 60 [] [1,5,6] [1,0] [0] (.f h1<|.e) [1])
abbrev zgh (s:St) (r:Ex × St):Prop:=Loops 2 tP (kZ tP 141 1) s r
abbrev zgJ (a:List (List Int)) (b:List Int) (c:List (List Int)) (d:List Int) (e:List (List Int)):St:=⟨sp 72 [(1,.lst KI a),(5,.sq b),(6,.lst KI c),(7,.sq d),(8,aN),(9,aI 0)],[.dead,.lst KI e true],[1,0]⟩
abbrev zbV (a:List (List Int)) (b:List Int) (c:List (List Int)) (d:List Int) (e:List (List Int)) (f:Nat) (g:Int) (i:List (List Int)):St:=⟨sp 72 [(1,.lst KI a),(5,.sq b),(6,.lst KI c),(7,.sq d),(8,.own 2 0 f 1),(9,aI g)],[.dead,.lst KI e true,.lst KI i true],[1,0]⟩
abbrev za4 (a:List (List Int)) (b:List Int) (c:List (List Int)) (d:List Int) (e:List (List Int)) (f:Nat) (g:Int) (i:List (List Int)):St:=⟨sp 72 [(1,.lst KI a),(5,.sq b),(6,.lst KI c),(7,.sq d),(8,.own 2 0 f 1),(9,aI g)],[.dead,.lst KI e true,.lst KI i true],[1,0]⟩
theorem zqQ (a:List (List Int)) (b:List Int) (d:List (List Int)) (f:List Int) (g:List (List Int)) (h1:0<(d.length:Int)) (h2:pMu (d.getD 0 []) b) (h3:pMu (aZ (vl (d.getD 0 [])*vl b)) b) (h4:r64 (0-(d.length:Int))) (h5:r64 (0-(d.length:Int)+(a.length:Int))) (h6:0-(d.length:Int)+(a.length:Int)≥0) (h7:0≤0-(d.length:Int)+(a.length:Int)) (h8:0-(d.length:Int)+(a.length:Int)<(a.length:Int)) (h9:pMu f b) (h10:pMu (aZ (vl f*vl b)) (a.getD (0-(d.length:Int)+(a.length:Int)).toNat [])) (h11:pSu (aZ (vl (aZ (vl (d.getD 0 [])*vl b))*vl b)) (aZ (vl (aZ (vl f*vl b))*vl (a.getD (0-(d.length:Int)+(a.length:Int)).toNat [])))) (h12:1≤List.length [aZ (vl (aZ (vl (aZ (vl (d.getD 0 [])*vl b))*vl b))-vl (aZ (vl (aZ (vl f*vl b))*vl (a.getD (0-(d.length:Int)+(a.length:Int)).toNat []))))]) (h13:0<(List.take 1 [aZ (vl (aZ (vl (aZ (vl (d.getD 0 [])*vl b))*vl b))-vl (aZ (vl (aZ (vl f*vl b))*vl (a.getD (0-(d.length:Int)+(a.length:Int)).toNat []))))]).length) (h14:(List.take 1 [aZ (vl (aZ (vl (aZ (vl (d.getD 0 [])*vl b))*vl b))-vl (aZ (vl (aZ (vl f*vl b))*vl (a.getD (0-(d.length:Int)+(a.length:Int)).toNat []))))]).length*24≤140737488355328) (h15:(List.take 1 [aZ (vl (aZ (vl (aZ (vl (d.getD 0 [])*vl b))*vl b))-vl (aZ (vl (aZ (vl f*vl b))*vl (a.getD (0-(d.length:Int)+(a.length:Int)).toNat []))))]).length≤4611686018427387904):LG zgh (zgJ a b d f g) (zbV a b d f g (1) (1) ([aZ (vl (aZ (vl (aZ (vl (d.getD 0 [])*vl b))*vl b))-vl (aZ (vl (aZ (vl f*vl b))*vl (a.getD (0-(d.length:Int)+(a.length:Int)).toNat []))))])):=Loops.go (LS.at zc5 60 [3] [1,5,6,7,8,9] [1,0] [1,1] (.t h1<|.c h2<|.c h3<|.i h4<|.i h5<|.t h6<|.t h7<|.t h8<|.c h9<|.c h10<|.c h11<|.c h12<|.t h13<|.t h14<|.t h15<|.e) [1,0,1,2,3,4,5,6,7,8,9,10,11,12,13,14,15,0])
theorem zqR (a:List (List Int)) (b:List Int) (d:List (List Int)) (g:List Int) (j:List (List Int)) (h1:0<(d.length:Int)) (h2:pMu (d.getD 0 []) b) (h3:pMu (aZ (vl (d.getD 0 [])*vl b)) b) (h4:r64 (0-(d.length:Int))) (h5:r64 (0-(d.length:Int)+(a.length:Int))) (h6:¬(0-(d.length:Int)+(a.length:Int)≥0)) (h7:1≤List.length [aZ (vl (aZ (vl (d.getD 0 [])*vl b))*vl b)]) (h8:0<(List.take 1 [aZ (vl (aZ (vl (d.getD 0 [])*vl b))*vl b)]).length) (h9:(List.take 1 [aZ (vl (aZ (vl (d.getD 0 [])*vl b))*vl b)]).length*24≤140737488355328) (h10:(List.take 1 [aZ (vl (aZ (vl (d.getD 0 [])*vl b))*vl b)]).length≤4611686018427387904):LG zgh (zgJ a b d g j) (zbV a b d g j (1) (1) ([aZ (vl (aZ (vl (d.getD 0 [])*vl b))*vl b)])):=Loops.go (LS.at zc5 60 [3] [1,5,6,7,8,9] [1,0] [1,0] (.t h1<|.c h2<|.c h3<|.i h4<|.i h5<|.f h6<|.c h7<|.t h8<|.t h9<|.t h10<|.e) [1,0,1,2,3,4,5,6,7,8,9,10,0])
theorem zqS (a:List (List Int)) (b:List Int) (d:List (List Int)) (f:List Int) (g:List (List Int)) (j:Nat) (l:Int) (m:List (List Int)) (h1:l<(d.length:Int)) (h2:0≤l) (h3:pMu (d.getD l.toNat []) b) (h4:pMu (aZ (vl (d.getD l.toNat [])*vl b)) b) (h5:r64 (l-(d.length:Int))) (h6:r64 (l-(d.length:Int)+(a.length:Int))) (h7:l-(d.length:Int)+(a.length:Int)≥0) (h8:0≤l-(d.length:Int)+(a.length:Int)) (h9:l-(d.length:Int)+(a.length:Int)<(a.length:Int)) (h10:pMu f b) (h11:pMu (aZ (vl f*vl b)) (a.getD (l-(d.length:Int)+(a.length:Int)).toNat [])) (h12:pSu (aZ (vl (aZ (vl (d.getD l.toNat [])*vl b))*vl b)) (aZ (vl (aZ (vl f*vl b))*vl (a.getD (l-(d.length:Int)+(a.length:Int)).toNat [])))) (h13:1≤List.length [aZ (vl (aZ (vl (aZ (vl (d.getD l.toNat [])*vl b))*vl b))-vl (aZ (vl (aZ (vl f*vl b))*vl (a.getD (l-(d.length:Int)+(a.length:Int)).toNat []))))]) (h14:(j+(List.take 1 [aZ (vl (aZ (vl (aZ (vl (d.getD l.toNat [])*vl b))*vl b))-vl (aZ (vl (aZ (vl f*vl b))*vl (a.getD (l-(d.length:Int)+(a.length:Int)).toNat []))))]).length)*24≤140737488355328) (h15:j+(List.take 1 [aZ (vl (aZ (vl (aZ (vl (d.getD l.toNat [])*vl b))*vl b))-vl (aZ (vl (aZ (vl f*vl b))*vl (a.getD (l-(d.length:Int)+(a.length:Int)).toNat []))))]).length≤4611686018427387904) (h16:j≤m.length) (h17:r64 (l+1)):LG zgh (zbV a b d f g j l m) (zbV a b d f g (j+(List.take 1 [aZ (vl (aZ (vl (aZ (vl (d.getD l.toNat [])*vl b))*vl b))-vl (aZ (vl (aZ (vl f*vl b))*vl (a.getD (l-(d.length:Int)+(a.length:Int)).toNat []))))]).length) (l+1) (m.take j++List.take 1 [aZ (vl (aZ (vl (aZ (vl (d.getD l.toNat [])*vl b))*vl b))-vl (aZ (vl (aZ (vl f*vl b))*vl (a.getD (l-(d.length:Int)+(a.length:Int)).toNat []))))])):=Loops.go (LS.at zc5 60 [4] [1,5,6,7,8,9] [1,0] [1,1] (.t h1<|.t h2<|.c h3<|.c h4<|.i h5<|.i h6<|.t h7<|.t h8<|.t h9<|.c h10<|.c h11<|.c h12<|.c h13<|.t h14<|.t h15<|.t h16<|.i h17<|.e) [1,2,1,3,4,5,6,7,8,9,10,11,12,13,14,15,16,17])
theorem zqT (a:List (List Int)) (b:List Int) (d:List (List Int)) (g:List Int) (j:List (List Int)) (l:Nat) (m:Int) (n:List (List Int)) (h1:m<(d.length:Int)) (h2:0≤m) (h3:pMu (d.getD m.toNat []) b) (h4:pMu (aZ (vl (d.getD m.toNat [])*vl b)) b) (h5:r64 (m-(d.length:Int))) (h6:r64 (m-(d.length:Int)+(a.length:Int))) (h7:¬(m-(d.length:Int)+(a.length:Int)≥0)) (h8:1≤List.length [aZ (vl (aZ (vl (d.getD m.toNat [])*vl b))*vl b)]) (h9:(l+(List.take 1 [aZ (vl (aZ (vl (d.getD m.toNat [])*vl b))*vl b)]).length)*24≤140737488355328) (h10:l+(List.take 1 [aZ (vl (aZ (vl (d.getD m.toNat [])*vl b))*vl b)]).length≤4611686018427387904) (h11:l≤n.length) (h12:r64 (m+1)):LG zgh (zbV a b d g j l m n) (zbV a b d g j (l+(List.take 1 [aZ (vl (aZ (vl (d.getD m.toNat [])*vl b))*vl b)]).length) (m+1) (n.take l++List.take 1 [aZ (vl (aZ (vl (d.getD m.toNat [])*vl b))*vl b)])):=Loops.go (LS.at zc5 60 [4] [1,5,6,7,8,9] [1,0] [1,0] (.t h1<|.t h2<|.c h3<|.c h4<|.i h5<|.i h6<|.f h7<|.c h8<|.t h9<|.t h10<|.t h11<|.i h12<|.e) [1,2,1,3,4,5,6,7,8,9,10,11,12])
theorem zqU (a:List (List Int)) (b:List Int) (c:List (List Int)) (d:List Int) (g:List (List Int)) (i:Nat) (j:Int) (l:List (List Int)) (h1:¬(j<(c.length:Int))):zgh (zbV a b c d g i j l) (Ex.exit 2,(za4 a b c d g i j l)):=LF (LS.at zc5 60 [2] [1,5,6,7,8,9] [1,0] [0] (.f h1<|.e) [1])
theorem zqX (a:List (List Int)) (b:List Int) (d:Nat) (f g:List (List Int)) (j:Nat) (l:Int) (m:List (List Int)) (h1:(g.length:Int)≥(a.length:Int)) (h2:r64 ((g.length:Int)-1)) (h3:0≤(g.length:Int)-1) (h4:(g.length:Int)-1<(g.length:Int)) (hL1:zgh (zgJ a b g (g.getD ((g.length:Int)-1).toNat []) f) (Ex.exit 2,(za4 a b g (g.getD ((g.length:Int)-1).toNat []) f j l m))) (h6:j≤m.length) (h7:pSh (m.take j)):LG zhZ (zfe a b d f g) (zfe a b d f ((m.take j).take (Kf.cutN (vls (m.take j)) (m.take j).length))):=Loops.go (LS.at zc5 60 [] [1,5,6] [1,0] [1] (.t h1<|.i h2<|.t h3<|.t h4<|.v [1,5,6,7,8,9] [1,0] hL1<|.c h6<|.c h7<|.e) [1,2,3,4,0,5,6,7])
theorem zqY (a:List (List Int)) (b:List Int) (c:Nat) (d g:List (List Int)) (h1:¬((g.length:Int)≥(a.length:Int))):zhZ (zfe a b c d g) (Ex.exit 0,(zdg a b c d g)):=LF (LS.at zc5 60 [] [1,5,6] [1,0] [0] (.f h1<|.e) [1])
theorem rre_0 (p q:List (List Int)) (h1:r64 ((q.length:Int)-1)) (h2:0≤(q.length:Int)-1) (h3:(q.length:Int)-1<(q.length:Int)) (h4:(0+p.length)*24≤140737488355328) (h5:0+p.length≤4611686018427387904) (hL1:zhZ (zgK q (q.getD ((q.length:Int)-1).toNat []) (0+p.length) (List.take 0 []++p)) (Ex.exit 0,(zlR q (q.getD ((q.length:Int)-1).toNat []) (0+p.length) (List.take 0 []++p)))) (h7:0+p.length≤(List.take 0 []++p).length):FC tP 141 [.lst (.sl (.int .i64)) p,.lst (.sl (.int .i64)) q] (.lst KI ((List.take 0 []++p).take (0+p.length))):=dZ zc5 60 [] (.i h1<|.t h2<|.t h3<|.t h4<|.t h5<|.v [1,5,6] [1,0] hL1<|.c h7<|.e) [1,2,3,4,5,0,0,6,7]
theorem rre_1 (p q a:List (List Int)) (h1:r64 ((q.length:Int)-1)) (h2:0≤(q.length:Int)-1) (h3:(q.length:Int)-1<(q.length:Int)) (h4:(0+p.length)*24≤140737488355328) (h5:0+p.length≤4611686018427387904) (hL1:zhZ (zgK q (q.getD ((q.length:Int)-1).toNat []) (0+p.length) (List.take 0 []++p)) (Ex.exit 0,(zdg q (q.getD ((q.length:Int)-1).toNat []) (0+p.length) (List.take 0 []++p) a))):FC tP 141 [.lst (.sl (.int .i64)) p,.lst (.sl (.int .i64)) q] (.lst KI a):=dZ zc5 60 [] (.i h1<|.t h2<|.t h3<|.t h4<|.t h5<|.v [1,5,6] [1,0] hL1<|.e) [1,2,3,4,5,0,0,6]
end
open Go.Kf
def rsF (q r:List (List Int)) (last top:List Int) (i:Nat):List Int:=aZ (agC (vls q) (vl last*vl last) (vl top*vl last) (r.length-q.length) i ((vls r).getD i 0))
def rsL (q r:List (List Int)) (last top:List Int) (i:Nat):List (List Int):=(List.range i).map (rsF q r last top)
theorem zdj (q r:List (List Int)) (last top:List Int) (i:Nat):(rsL q r last top i).length=i:=by simp [rsL]
theorem zgN (q r:List (List Int)) (last top:List Int) (i:Nat) {x:List Int} (h:x=rsF q r last top i):List.take i (rsL q r last top i)++List.take 1 [x]=rsL q r last top (i+1):=by
 rw [List.take_of_length_le (by rw [zdj];exact Nat.le_refl _),h]
 unfold rsL
 rw [List.range_succ,List.map_append];rfl
theorem zom {q r:List (List Int)} {last top:List Int} {i:Nat} (h:r.length-q.length≤i):aZ (vl (aZ (vl (aZ (vl (r.getD i [])*vl last))*vl last))-vl (aZ (vl (aZ (vl top*vl last))*vl (q.getD (i-(r.length-q.length)) []))))=rsF q r last top i:=by
 simp only [bZ]
 unfold rsF agC
 rw [if_pos h,← zav,← zav,Int.sub_eq_add_neg,Int.mul_assoc (vl (r.getD i []))]
theorem zon {q r:List (List Int)} {last top:List Int} {i:Nat} (h:¬r.length-q.length≤i):aZ (vl (aZ (vl (r.getD i [])*vl last))*vl last)=rsF q r last top i:=by
 simp only [bZ]
 unfold rsF agC
 rw [if_neg h,← zav,Int.mul_assoc]
theorem zbe {p:List (List Int)} {N:Nat} (h:∀l∈p,pQ N l) {i:Nat} (hi:i<p.length):pQ N (p.getD i []):=by
 simp_all
theorem zaD {N:Nat} {l:List Int} (h:pQ N l):Sz (N+3) (vl l):=(vl_sz h.2).mono (by have:=h.1;omega)
theorem rre_l1 {q r:List (List Int)} {last top:List Int} {lr:List (List Int)} {N M:Nat} (hr:∀l∈r,pQ N l) (hq:∀l∈q,pQ M l) (hlast:pQ M last) (htop:pQ N top) (hb:N+2*M+20≤90000) (hlen:q.length≤r.length) (h1000:r.length≤1000) :
 ∀(m i:Nat),i+m=r.length→1≤i→zgh (zbV q last r top lr i i (rsL q r last top i)) (Ex.exit 2,za4 q last r top lr r.length r.length (rsL q r last top r.length))
 | 0,i,hi,_=>by
  obtain rfl:i=r.length:=by omega
  exact zqU q last r top lr _ _ _ (by omega)
 | m + 1,i,hi,h1=>by
  have ih:=rre_l1 (lr:=lr) hr hq hlast htop hb hlen h1000 m (i+1) (by omega) (by omega)
  have e1:Int.toNat (i:Int)=i:=rfl
  have pr:=zbe hr (i:=i) (by omega)
  have s1:=zaD pr
  have s2:=zaD hlast
  have s3:=zaD htop
  have m1:pQ 100000 (aZ (vl (r.getD i [])*vl last)):=fZ (s1.mul s2) (by omega)
  by_cases hs:r.length-q.length≤i
  ·have e2:Int.toNat ((i:Int)-(r.length:Int)+(q.length:Int))=i-(r.length-q.length):=by omega
   have pq:=zbe hq (i:=i-(r.length-q.length)) (by omega)
   have s4:=zaD pq
   have m2:pQ 390000 (aZ (vl (aZ (vl (r.getD i [])*vl last))*vl last)):=by rw [bZ];exact fZ ((s1.mul s2).mul s2) (by omega)
   have m3:pQ 100000 (aZ (vl top*vl last)):=fZ (s3.mul s2) (by omega)
   have m4:pQ 390000 (aZ (vl (aZ (vl top*vl last))*vl (q.getD (i-(r.length-q.length)) []))):=by rw [bZ];exact fZ ((s3.mul s2).mul s4) (by omega)
   have go:=@zqS q last r top lr i i (rsL q r last top i) (by omega) (by omega) ⟨pr.mono (by omega),hlast.mono (by omega)⟩ ⟨m1,hlast.mono (by omega)⟩ (by omega) (by omega) (by omega) (by omega) (by omega) ⟨htop.mono (by omega),hlast.mono (by omega)⟩
    (by rw [e2];exact ⟨m3,pq.mono (by omega)⟩) (by rw [e2];exact ⟨m2,m4⟩) (by simp) (by simp;omega) (by simp;omega) (by rw [zdj];exact Nat.le_refl _) (by omega) (Ex.exit 2,za4 q last r top lr r.length r.length (rsL q r last top r.length))
   rw [zgN q r last top i (by rw [e2];exact zom hs)] at go
   exact go ih
  ·have go:=@zqT q last r top lr i i (rsL q r last top i) (by omega) (by omega) ⟨pr.mono (by omega),hlast.mono (by omega)⟩ ⟨m1,hlast.mono (by omega)⟩ (by omega) (by omega) (by omega) (by simp) (by simp;omega) (by simp;omega) (by rw [zdj];exact Nat.le_refl _) (by omega) (Ex.exit 2,za4 q last r top lr r.length r.length (rsL q r last top r.length))
   rw [zgN q r last top i (by exact zon hs)] at go
   exact go ih
theorem rre_l0 {q r:List (List Int)} {last top:List Int} {N M:Nat} (hr:∀l∈r,pQ N l) (hq:∀l∈q,pQ M l) (hlast:pQ M last) (htop:pQ N top) (hb:N+2*M+20≤90000) (hlen:q.length≤r.length) (h1000:r.length≤1000) :
 ∀(m i:Nat),i+m=r.length→1≤i→zfc (zbU q last r.length top r i i (rsL q r last top i)) (Ex.exit 2,za3 q last r.length top r r.length r.length (rsL q r last top r.length))
 | 0,i,hi,_=>by
  obtain rfl:i=r.length:=by omega
  exact zqP q last r.length top r _ _ _ (by omega)
 | m + 1,i,hi,h1=>by
  have ih:=rre_l0 hr hq hlast htop hb hlen h1000 m (i+1) (by omega) (by omega)
  have e1:Int.toNat (i:Int)=i:=rfl
  have pr:=zbe hr (i:=i) (by omega)
  have s1:=zaD pr
  have s2:=zaD hlast
  have s3:=zaD htop
  have m1:pQ 100000 (aZ (vl (r.getD i [])*vl last)):=fZ (s1.mul s2) (by omega)
  by_cases hs:r.length-q.length≤i
  ·have e2:Int.toNat ((i:Int)-(r.length:Int)+(q.length:Int))=i-(r.length-q.length):=by omega
   have pq:=zbe hq (i:=i-(r.length-q.length)) (by omega)
   have s4:=zaD pq
   have m2:pQ 390000 (aZ (vl (aZ (vl (r.getD i [])*vl last))*vl last)):=by rw [bZ];exact fZ ((s1.mul s2).mul s2) (by omega)
   have m3:pQ 100000 (aZ (vl top*vl last)):=fZ (s3.mul s2) (by omega)
   have m4:pQ 390000 (aZ (vl (aZ (vl top*vl last))*vl (q.getD (i-(r.length-q.length)) []))):=by rw [bZ];exact fZ ((s3.mul s2).mul s4) (by omega)
   have go:=@zqN q last r.length top r i i (rsL q r last top i) (by omega) (by omega) (by rw [e1];omega) ⟨pr.mono (by omega),hlast.mono (by omega)⟩ ⟨m1,hlast.mono (by omega)⟩ (by omega) (by omega) (by omega) (by omega) (by omega) ⟨htop.mono (by omega),hlast.mono (by omega)⟩
    (by rw [e2];exact ⟨m3,pq.mono (by omega)⟩) (by rw [e2];exact ⟨m2,m4⟩) (by simp) (by simp;omega) (by simp;omega) (by rw [zdj];exact Nat.le_refl _) (by omega) (Ex.exit 2,za3 q last r.length top r r.length r.length (rsL q r last top r.length))
   rw [zgN q r last top i (by rw [e2];exact zom hs)] at go
   exact go ih
  ·have go:=@zqO q last r.length top r i i (rsL q r last top i) (by omega) (by omega) (by rw [e1];omega) ⟨pr.mono (by omega),hlast.mono (by omega)⟩ ⟨m1,hlast.mono (by omega)⟩ (by omega) (by omega) (by omega) (by simp) (by simp;omega) (by simp;omega) (by rw [zdj];exact Nat.le_refl _) (by omega) (Ex.exit 2,za3 q last r.length top r r.length r.length (rsL q r last top r.length))
   rw [zgN q r last top i (by exact zon hs)] at go
   exact go ih
theorem rre_l1s {q r:List (List Int)} {last top:List Int} {lr:List (List Int)} {N M:Nat} (hr:∀l∈r,pQ N l) (hq:∀l∈q,pQ M l) (hlast:pQ M last) (htop:pQ N top) (hb:N+2*M+20≤90000) (hq0:1≤q.length) (hlen:q.length≤r.length) (h1000:r.length≤1000) :
 zgh (zgJ q last r top lr) (Ex.exit 2,za4 q last r top lr r.length r.length (rsL q r last top r.length)):=by
 have ih:=rre_l1 (lr:=lr) hr hq hlast htop hb hlen h1000 (r.length-1) 1 (by omega) (by omega)
 have pr:=zbe hr (i:=0) (by omega)
 have s1:=zaD pr
 have s2:=zaD hlast
 have s3:=zaD htop
 have m1:pQ 100000 (aZ (vl (r.getD 0 [])*vl last)):=fZ (s1.mul s2) (by omega)
 by_cases hs:r.length-q.length≤0
 ·have e2:Int.toNat (0-(r.length:Int)+(q.length:Int))=0-(r.length-q.length):=by omega
  have pq:=zbe hq (i:=0-(r.length-q.length)) (by omega)
  have s4:=zaD pq
  have m2:pQ 390000 (aZ (vl (aZ (vl (r.getD 0 [])*vl last))*vl last)):=by rw [bZ];exact fZ ((s1.mul s2).mul s2) (by omega)
  have m3:pQ 100000 (aZ (vl top*vl last)):=fZ (s3.mul s2) (by omega)
  have m4:pQ 390000 (aZ (vl (aZ (vl top*vl last))*vl (q.getD (0-(r.length-q.length)) []))):=by rw [bZ];exact fZ ((s3.mul s2).mul s4) (by omega)
  have hx:=zom (q:=q) (r:=r) (last:=last) (top:=top) (i:=0) hs
  have go:=@zqQ q last r top lr (by omega) ⟨pr.mono (by omega),hlast.mono (by omega)⟩ ⟨m1,hlast.mono (by omega)⟩ (by omega) (by omega) (by omega) (by omega) (by omega) ⟨htop.mono (by omega),hlast.mono (by omega)⟩
   (by rw [e2];exact ⟨m3,pq.mono (by omega)⟩) (by rw [e2];exact ⟨m2,m4⟩) (by simp) (by simp) (by simp) (by simp) (Ex.exit 2,za4 q last r top lr r.length r.length (rsL q r last top r.length))
  rw [e2] at go
  refine go ?_
  rw [show rsL q r last top 1=[rsF q r last top 0] from rfl,← hx] at ih
  exact ih
 ·have hx:=zon (q:=q) (r:=r) (last:=last) (top:=top) (i:=0) hs
  have go:=@zqR q last r top lr (by omega) ⟨pr.mono (by omega),hlast.mono (by omega)⟩ ⟨m1,hlast.mono (by omega)⟩ (by omega) (by omega) (by omega) (by simp) (by simp) (by simp) (by simp) (Ex.exit 2,za4 q last r top lr r.length r.length (rsL q r last top r.length))
  refine go ?_
  rw [show rsL q r last top 1=[rsF q r last top 0] from rfl,← hx] at ih
  exact ih
theorem rre_l0s {q r:List (List Int)} {last top:List Int} {N M:Nat} (hr:∀l∈r,pQ N l) (hq:∀l∈q,pQ M l) (hlast:pQ M last) (htop:pQ N top) (hb:N+2*M+20≤90000) (hq0:1≤q.length) (hlen:q.length≤r.length) (h1000:r.length≤1000) :
 zfc (zfd q last r.length top r) (Ex.exit 2,za3 q last r.length top r r.length r.length (rsL q r last top r.length)):=by
 have ih:=rre_l0 hr hq hlast htop hb hlen h1000 (r.length-1) 1 (by omega) (by omega)
 have pr:=zbe hr (i:=0) (by omega)
 have s1:=zaD pr
 have s2:=zaD hlast
 have s3:=zaD htop
 have m1:pQ 100000 (aZ (vl (r.getD 0 [])*vl last)):=fZ (s1.mul s2) (by omega)
 by_cases hs:r.length-q.length≤0
 ·have e2:Int.toNat (0-(r.length:Int)+(q.length:Int))=0-(r.length-q.length):=by omega
  have pq:=zbe hq (i:=0-(r.length-q.length)) (by omega)
  have s4:=zaD pq
  have m2:pQ 390000 (aZ (vl (aZ (vl (r.getD 0 [])*vl last))*vl last)):=by rw [bZ];exact fZ ((s1.mul s2).mul s2) (by omega)
  have m3:pQ 100000 (aZ (vl top*vl last)):=fZ (s3.mul s2) (by omega)
  have m4:pQ 390000 (aZ (vl (aZ (vl top*vl last))*vl (q.getD (0-(r.length-q.length)) []))):=by rw [bZ];exact fZ ((s3.mul s2).mul s4) (by omega)
  have hx:=zom (q:=q) (r:=r) (last:=last) (top:=top) (i:=0) hs
  have go:=@zqL q last r.length top r (by omega) (by omega) ⟨pr.mono (by omega),hlast.mono (by omega)⟩ ⟨m1,hlast.mono (by omega)⟩ (by omega) (by omega) (by omega) (by omega) (by omega) ⟨htop.mono (by omega),hlast.mono (by omega)⟩
   (by rw [e2];exact ⟨m3,pq.mono (by omega)⟩) (by rw [e2];exact ⟨m2,m4⟩) (by simp) (by simp) (by simp) (by simp) (Ex.exit 2,za3 q last r.length top r r.length r.length (rsL q r last top r.length))
  rw [e2] at go
  refine go ?_
  rw [show rsL q r last top 1=[rsF q r last top 0] from rfl,← hx] at ih
  exact ih
 ·have hx:=zon (q:=q) (r:=r) (last:=last) (top:=top) (i:=0) hs
  have go:=@zqM q last r.length top r (by omega) (by omega) ⟨pr.mono (by omega),hlast.mono (by omega)⟩ ⟨m1,hlast.mono (by omega)⟩ (by omega) (by omega) (by omega) (by simp) (by simp) (by simp) (by simp) (Ex.exit 2,za3 q last r.length top r r.length r.length (rsL q r last top r.length))
  refine go ?_
  rw [show rsL q r last top 1=[rsF q r last top 0] from rfl,← hx] at ih
  exact ih
def rsT (q:List (List Int)):Nat→List (List Int)→List (List Int)
 | 0,r=>r
 | k + 1,r=>if q.length≤r.length then
  rsT q k ((rsL q r (q.getD (q.length-1) []) (r.getD (r.length-1) []) r.length).take (cutN (vls (rsL q r (q.getD (q.length-1) []) (r.getD (r.length-1) []) r.length)) r.length))
  else r
theorem rsF_pQ {q r:List (List Int)} {last top:List Int} {N M:Nat} (hr:∀l∈r,pQ N l) (hq:∀l∈q,pQ M l) (hlast:pQ M last) (htop:pQ N top) {i:Nat} (hi:i<r.length) (hlen:q.length≤r.length):pQ (N+2*M+10) (rsF q r last top i):=by
 have s1:=zaD (zbe hr (i:=i) hi)
 have s2:=zaD hlast
 have s3:=zaD htop
 unfold rsF
 refine fZ (k:=N+2*M+10) ?_ (Nat.le_refl _)
 unfold agC
 rw [← zav]
 split
 ·rename_i hs
  have s4:=zaD (zbe hq (i:=i-(r.length-q.length)) (by omega))
  rw [← zav]
  exact Sz.add (s1.mul (s2.mul s2)) (((s3.mul s2).mul s4).neg) (by omega) (by omega)
 ·exact(s1.mul (s2.mul s2)).mono (by omega)
theorem rsL_pQ {q r:List (List Int)} {last top:List Int} {N M:Nat} (hr:∀l∈r,pQ N l) (hq:∀l∈q,pQ M l) (hlast:pQ M last) (htop:pQ N top) (hlen:q.length≤r.length):∀l∈rsL q r last top r.length,pQ (N+2*M+10) l:=by
 intro l hl
 unfold rsL at hl
 obtain ⟨i,hi,rfl⟩:=List.mem_map.1 hl
 exact rsF_pQ hr hq hlast htop (List.mem_range.1 hi) hlen
theorem rsTop {q r:List (List Int)} (hq0:1≤q.length) (hlen:q.length≤r.length):cutN (vls (rsL q r (q.getD (q.length-1) []) (r.getD (r.length-1) []) r.length)) r.length<r.length:=by
 obtain ⟨m,hm⟩:∃m,r.length=m+1:=⟨r.length-1,by omega⟩
 have h0:(vls (rsL q r (q.getD (q.length-1) []) (r.getD (r.length-1) []) r.length)).getD m 0=0:=by
  rw [← zav]
  have e:(rsL q r (q.getD (q.length-1) []) (r.getD (r.length-1) []) r.length).getD m []=rsF q r (q.getD (q.length-1) []) (r.getD (r.length-1) []) m:=by
   unfold rsL
   simp_all
  rw [e]
  unfold rsF agC
  rw [bZ,if_pos (by omega),← zav,← zav,show m-(r.length-q.length)=q.length-1 by omega,show r.length-1=m by omega]
  grind
 rw [hm]
 rw [hm] at h0
 exact Nat.lt_succ_of_le (znD h0)
theorem rre_l2 {q:List (List Int)} {M n6:Nat} {lr:List (List Int)} (hq0:1≤q.length) (hql:q.length≤1000) (hq:∀l∈q,pQ M l):∀(k:Nat) (r:List (List Int)) (N:Nat),r.length≤k→r.length≤1000→(∀l∈r,pQ N l)→N+k*(2*M+10)≤89000→M≤40000 →
    zhZ (zfe q (q.getD (q.length-1) []) n6 lr r) (Ex.exit 0,zdg q (q.getD (q.length-1) []) n6 lr (rsT q k r))∧(∀l∈rsT q k r,pQ (N+k*(2*M+10)) l)∧(rsT q k r).length≤r.length∧(rsT q k r).length<q.length
  | k, r, N,hk,hm,hr,hs,hM=>by
    by_cases hc:q.length≤r.length
    · obtain ⟨k,rfl⟩:∃j,k=j+1:=⟨k-1,by omega⟩
      have hmul:(k+1)*(2*M+10)=k*(2*M+10)+(2*M+10):=Nat.succ_mul _ _
      have hlast:=zbe hq (i:=q.length-1) (by omega)
      have htop:=zbe hr (i:=r.length-1) (by omega)
      have L1:=rre_l1s (lr:=lr) hr hq hlast htop (by omega) hq0 hc hm
      have hP:=rsL_pQ hr hq hlast htop hc
      have hT:=rsTop hq0 hc
      have hl:=zdj q r (q.getD (q.length-1) []) (r.getD (r.length-1) []) r.length
      have e1:Int.toNat ((r.length:Int)-1)=r.length-1:=by omega
      have e:rsT q (k+1) r=rsT q k ((rsL q r (q.getD (q.length-1) []) (r.getD (r.length-1) []) r.length).take (cutN (vls (rsL q r (q.getD (q.length-1) []) (r.getD (r.length-1) []) r.length)) r.length)):=by
        conv=>lhs;unfold rsT
        rw [if_pos hc]
      generalize hX:rsL q r (q.getD (q.length-1) []) (r.getD (r.length-1) []) r.length=X at *
      have hl2:(X.take (cutN (vls X) r.length)).length=cutN (vls X) r.length:=by rw [List.length_take];omega
      obtain ⟨i1,i2,i3,i4⟩:=rre_l2 (n6:=n6) (lr:=lr) hq0 hql hq k (X.take (cutN (vls X) r.length)) (N+2*M+10) (by omega) (by omega) (fun l h=>hP l (List.mem_of_mem_take h)) (by omega) hM
      have go:=@zqX q (q.getD (q.length-1) []) n6 lr r r.length r.length X (by omega) (by omega) (by omega) (by omega) (by rw [e1];exact L1) (by omega)
        (by
          rw [List.take_of_length_le (by omega)]
          exact ⟨by omega,fun l h=>(hP l h).mono (by omega)⟩) (Ex.exit 0,zdg q (q.getD (q.length-1) []) n6 lr (rsT q (k+1) r))
      grind
    · have e:rsT q k r=r:=by
        cases k with
        | zero=>rfl
        | succ k=>unfold rsT;rw [if_neg hc]
      rw [e]
      exact ⟨zqY q _ n6 lr r (by omega),fun l h=>(hr l h).mono (Nat.le_add_right _ _),Nat.le_refl _,by omega⟩
def pRe (p q:List (List Int)):Prop:=(∃N M:Nat,(∀l∈p,pQ N l)∧(∀l∈q,pQ M l)∧N+p.length*(2*M+10)≤89000∧M≤40000)∧p.length≤1000∧1≤q.length∧q.length≤1000
instance tRe {p q:List (List Int)}:Tst (pRe p q):=⟨false,fun h=>by cases h⟩
theorem rest_fc (p q:List (List Int)) (h:pRe p q):FC tP 141 [.lst (.sl (.int .i64)) p,.lst (.sl (.int .i64)) q] (.lst (.sl (.int .i64)) (rsT q p.length p)):=by
  obtain ⟨⟨N,M,hp,hq,hs,hM⟩,hpl,hq0,hql⟩:=h
  have e1:Int.toNat ((q.length:Int)-1)=q.length-1:=by omega
  by_cases hc:q.length≤p.length
  · obtain ⟨k,hk⟩:∃j,p.length=j+1:=⟨p.length-1,by omega⟩
    have hmul:(k+1)*(2*M+10)=k*(2*M+10)+(2*M+10):=Nat.succ_mul _ _
    rw [hk,hmul] at hs
    have hlast:=zbe hq (i:=q.length-1) (by omega)
    have htop:=zbe hp (i:=p.length-1) (by omega)
    have L0:=rre_l0s hp hq hlast htop (by omega) hq0 hc hpl
    have hP:=rsL_pQ hp hq hlast htop hc
    have hT:=rsTop hq0 hc
    have hl:=zdj q p (q.getD (q.length-1) []) (p.getD (p.length-1) []) p.length
    have e2:Int.toNat ((p.length:Int)-1)=p.length-1:=by omega
    have e:rsT q p.length p=rsT q k ((rsL q p (q.getD (q.length-1) []) (p.getD (p.length-1) []) p.length).take (cutN (vls (rsL q p (q.getD (q.length-1) []) (p.getD (p.length-1) []) p.length)) p.length)):=by
      conv=>lhs;rw [hk];unfold rsT
      rw [if_pos hc]
    generalize hX:rsL q p (q.getD (q.length-1) []) (p.getD (p.length-1) []) p.length=X at *
    have hl2:(X.take (cutN (vls X) p.length)).length=cutN (vls X) p.length:=by rw [List.length_take];omega
    obtain ⟨i1,_,_,_⟩:=rre_l2 (n6:=p.length) (lr:=p) hq0 hql hq k (X.take (cutN (vls X) p.length)) (N+2*M+10) (by omega) (by omega) (fun l h=>hP l (List.mem_of_mem_take h)) (by omega) hM
    have go:=@zqV q (q.getD (q.length-1) []) p.length p p.length p.length X (by omega) (by omega) (by omega) (by omega) (by omega) (by rw [e2];exact L0) (by omega)
      (by
        rw [List.take_of_length_le (by omega)]
        exact ⟨by omega,fun l h=>(hP l h).mono (by omega)⟩) (Ex.exit 0,zdg q (q.getD (q.length-1) []) p.length p (rsT q p.length p))
    rw [show X.take p.length=X from List.take_of_length_le (by omega),show X.length=p.length from hl] at go
    rw [e] at go ⊢
    have f:=go i1
    exact rre_1 p q _ (by omega) (by omega) (by omega) (by omega) (by omega) (by rw [e1,Nat.zero_add];exact f)
  · have e:rsT q p.length p=p:=by
      cases hk:p.length with
      | zero=>rfl
      | succ k=>unfold rsT;rw [if_neg hc]
    rw [e]
    have:=rre_0 p q (by omega) (by omega) (by omega) (by omega) (by omega) (by rw [e1,Nat.zero_add];exact zqW q _ p.length p (by omega)) (by simp)
    simp_all
noncomputable def ctrH6:Ctr:=(141,cD2 (.sl (.sl (.int .i64))) (.sl (.sl (.int .i64))) pRe (fun p q=>.lst (.sl (.int .i64)) (rsT q p.length p))) :: ctrH5
theorem zkZ:∀p∈ctrH6,jZ tP p.1 p.2:=CAll.cons (zb5 rest_fc) zkY
theorem zpw:(eZ tP ctrH6 bw [] kdR).OK:=vZ zaC mixed zkZ zaA
noncomputable section
abbrev zhD (s:St) (r:Ex × St):Prop:=Loops 1 tP (kZ tP 156 0) s r
abbrev zgC (a:List (List Int)) (b c:List Int) (d:Int):St:=⟨sp 32 [(0,.lst KI a),(1,.sq b),(2,.sq c),(7,aN),(8,.own 0 0 1 1),(9,aI d)],[.ints [1] true],[]⟩
abbrev zeK (a:List (List Int)) (b c:List Int) (d e f g:Int):St:=⟨sp 32 [(0,.lst KI a),(1,.sq b),(2,.sq c),(7,.ni e),(8,.ni f),(9,aI g)],[.ints [1] false],[]⟩
abbrev zlF (a:List (List Int)) (b c:List Int) (d:Int):St:=⟨sp 32 [(0,.lst KI a),(1,.sq b),(2,.sq c),(7,aN),(8,.own 0 0 1 1),(9,aI d)],[.ints [1] true],[]⟩
abbrev zc8 (a:List (List Int)) (b c:List Int) (d e f g:Int):St:=⟨sp 32 [(0,.lst KI a),(1,.sq b),(2,.sq c),(7,.ni e),(8,.ni f),(9,aI g)],[.ints [1] false],[]⟩
theorem zpN (a:List (List Int)) (b d:List Int) (f:Int) (h1:f≥0) (h2:0≤f) (h3:f<(a.length:Int)) (h4:pMu [] b) (h5:1≤1) (h6:pMu (a.getD f.toNat []) (List.take 1 [1])) (h7:pAd (aZ (0*vl b)) (aZ (vl (a.getD f.toNat [])*1))) (h8:pMu (List.take 1 [1]) d) (h9:r64 (f-1)):LG zhD (zgC a b d f) (zeK a b d f (vl (aZ (0*vl b))+vl (aZ (vl (a.getD f.toNat [])*1))) (1*vl d) (f-1)):=Loops.go (LS.at zpw 60 [] [0,1,2,7,8,9] [] [1] (.t h1<|.t h2<|.t h3<|.c h4<|.c h5<|.c h6<|.c h7<|.c h8<|.i h9<|.e) [1,2,3,4,5,6,7,5,8,9])
theorem zpO (a:List (List Int)) (b c:List Int) (d:Int) (h1:¬(d≥0)):zhD (zgC a b c d) (Ex.exit 0,(zlF a b c d)):=LF (LS.at zpw 60 [] [0,1,2,7,8,9] [] [0] (.f h1<|.e) [1])
theorem zpP (a:List (List Int)) (b d:List Int) (f g j l:Int) (h1:l≥0) (h2:0≤l) (h3:l<(a.length:Int)) (h4:pMu (aZ g) b) (h5:pMu (a.getD l.toNat []) (aZ j)) (h6:pAd (aZ (vl (aZ g)*vl b)) (aZ (vl (a.getD l.toNat [])*vl (aZ j)))) (h7:pMu (aZ j) d) (h8:r64 (l-1)):LG zhD (zeK a b d f g j l) (zeK a b d f (vl (aZ (vl (aZ g)*vl b))+vl (aZ (vl (a.getD l.toNat [])*vl (aZ j)))) (vl (aZ j)*vl d) (l-1)):=Loops.go (LS.at zpw 60 [] [0,1,2,7,8,9] [] [1] (.t h1<|.t h2<|.t h3<|.c h4<|.c h5<|.c h6<|.c h7<|.i h8<|.e) [1,2,3,4,5,6,7,8])
theorem zpQ (a:List (List Int)) (b c:List Int) (d g i j:Int) (h1:¬(j≥0)):zhD (zeK a b c d g i j) (Ex.exit 0,(zc8 a b c d g i j)):=LF (LS.at zpw 60 [] [0,1,2,7,8,9] [] [0] (.f h1<|.e) [1])
theorem rat_0 (p:List (List Int)) (a b:List Int) (h1:r64 ((p.length:Int)-1)) (hL1:zhD (zgC p a b ((p.length:Int)-1)) (Ex.exit 0,(zlF p a b ((p.length:Int)-1)))):FC tP 156 [.lst (.sl (.int .i64)) p,.sq a,.sq b] (aN):=dZ zpw 60 [] (.i h1<|.v [0,1,2,7,8,9] [] hL1<|.e) [1,0,2]
theorem rat_1 (p:List (List Int)) (a b:List Int) (c d f:Int) (h1:r64 ((p.length:Int)-1)) (hL1:zhD (zgC p a b ((p.length:Int)-1)) (Ex.exit 0,(zc8 p a b ((p.length:Int)-1) c d f))):FC tP 156 [.lst (.sl (.int .i64)) p,.sq a,.sq b] (.ni c):=dZ zpw 60 [] (.i h1<|.v [0,1,2,7,8,9] [] hL1<|.e) [1,0,2]
end
open Go.Kf
theorem sg_sz {K A:Nat} {a b:Int} (ha:Sz A a) (hb:Sz A b):∀(l:List Int),(∀c∈l,Sz K c)→Sz (1+l.length*(A+1)) (zlV a b l).2∧Sz (K+10+l.length*(A+10)) (zlV a b l).1
 | [],_=>⟨Sz.lit (z:=1) (by decide) (by simp),Sz.zero⟩
 | c :: l,h=>by
  obtain ⟨h1,h2⟩:=sg_sz ha hb l fun d hd=>h d (by simp [hd])
  have m1:(l.length+1)*(A+1)=l.length*(A+1)+(A+1):=Nat.succ_mul _ _
  have m2:(l.length+1)*(A+10)=l.length*(A+10)+(A+10):=Nat.succ_mul _ _
  have m3:l.length*(A+10)=l.length*(A+1)+l.length*9:=by rw [← Nat.mul_add]
  refine ⟨?_,?_⟩
  ·show Sz (1+(l.length+1)*(A+1)) ((zlV a b l).2*b)
   exact(h1.mul hb).mono (by omega)
  ·show Sz (K+10+(l.length+1)*(A+10)) ((zlV a b l).1*a+c*(zlV a b l).2)
   exact Sz.add (h2.mul ha) ((h c (by simp)).mul h1) (by omega) (by omega)
theorem zdo (p:List (List Int)):(vls p).length=p.length:=by simp [vls]
theorem zoG {p:List (List Int)} {i:Nat} (h:i<p.length):(vls p).drop i=vl (p.getD i []) :: (vls p).drop (i+1):=by
 rw [zfG (by rw [zdo];exact h),zav]
theorem vls_sz {p:List (List Int)} {K:Nat} (hp:∀l∈p,pQ K l):∀c∈vls p,Sz (K+3) c:=fun c hc=>by
 obtain ⟨l,hl,rfl⟩:=List.mem_map.1 hc
 exact zaD (hp l hl)
theorem zn9 {p:List (List Int)} {a b:List Int} {K A:Nat} {t9:Int} (hp:∀l∈p,pQ K l) (ha:pQ A a) (hb:pQ A b) (hl:p.length≤1000) (hs:K+30+p.length*(A+13)≤90000) :
 ∀(i:Nat),i≤p.length→zhD (zeK p a b t9 (zlV (vl a) (vl b) ((vls p).drop i)).1 (zlV (vl a) (vl b) ((vls p).drop i)).2 ((i:Int)-1)) (Ex.exit 0,zc8 p a b t9 (zaf (vls p) (vl a) (vl b)) (zlV (vl a) (vl b) (vls p)).2 (((0:Nat):Int)-1))
 | 0,_=>zpQ p a b t9 _ _ _ (by omega)
 | i + 1,hi=>by
  have ih:=zn9 (t9:=t9) hp ha hb hl hs i (by omega)
  have e1:Int.toNat (((i+1:Nat):Int)-1)=i:=by omega
  have e2:((i+1:Nat):Int)-1-1=(i:Int)-1:=by omega
  obtain ⟨s1,s2⟩:=sg_sz (zaD ha) (zaD hb) ((vls p).drop (i+1)) fun c hc=>vls_sz hp c (List.mem_of_mem_drop hc)
  have hdl:((vls p).drop (i+1)).length≤p.length:=by rw [List.length_drop,zdo];omega
  have q1:((vls p).drop (i+1)).length*(A+3+1)≤p.length*(A+13):=Nat.mul_le_mul hdl (by omega)
  have q2:((vls p).drop (i+1)).length*(A+3+10)≤p.length*(A+13):=Nat.mul_le_mul hdl (by omega)
  have hA:1*(A+13)≤p.length*(A+13):=Nat.mul_le_mul_right _ (by omega)
  have pp:=zbe hp (i:=i) (by omega)
  rw [zoG (show i<p.length by omega)] at ih
  generalize hz:zlV (vl a) (vl b) ((vls p).drop (i+1))=z at *
  have w1:pQ 90000 (aZ z.2):=fZ s1 (by omega)
  have w2:pQ 90000 (aZ z.1):=fZ s2 (by omega)
  have go:=@zpP p a b t9 z.1 z.2 (((i+1:Nat):Int)-1) (by omega) (by omega) (by omega) ⟨w2.mono (by omega),ha.mono (by omega)⟩ (by rw [e1];exact ⟨pp.mono (by omega),w1.mono (by omega)⟩)
   (by
    rw [e1,bZ,bZ]
    exact ⟨fZ (s2.mul (zaD ha)) (by omega),fZ ((zaD pp).mul s1) (by omega)⟩) ⟨w1.mono (by omega),hb.mono (by omega)⟩ (by omega) (Ex.exit 0,zc8 p a b t9 (zaf (vls p) (vl a) (vl b)) (zlV (vl a) (vl b) (vls p)).2 (((0:Nat):Int)-1))
  simp only [bZ,e1,e2] at go
  refine go ?_
  have e3:zlV (vl a) (vl b) (vl (p.getD i []) :: (vls p).drop (i+1))=(z.1*vl a+vl (p.getD i [])*z.2,z.2*vl b):=by rw [← hz];rfl
  rw [e3] at ih
  exact ih
def pAt (p:List (List Int)) (a b:List Int):Prop:=∃K A:Nat,(∀l∈p,pQ K l)∧pQ A a∧pQ A b∧p.length≤1000∧K+30+p.length*(A+13)≤80000
instance tAt {p:List (List Int)} {a b:List Int}:Tst (pAt p a b):=⟨false,fun h=>by cases h⟩
theorem at_fc (p:List (List Int)) (a b:List Int) (h:pAt p a b):FC tP 156 [.lst (.sl (.int .i64)) p,.sq a,.sq b] (.ni (zaf (vls p) (vl a) (vl b))):=by
 obtain ⟨K,A,hp,ha,hb,hl,hs⟩:=h
 by_cases h0:p=[]
 ·subst h0
  have:=rat_0 [] a b ⟨by decide,by decide⟩ (zpO [] a b _ (by simp))
  exact this.res fun E v hv=>hv.toNi (l:=[]) rfl rfl
 ·have hpos:0<p.length:=List.length_pos_iff.2 h0
  obtain ⟨m,hm⟩:∃m,p.length=m+1:=⟨p.length-1,by omega⟩
  have e0:(p.length:Int)-1=(m:Int):=by omega
  have L:=zn9 (t9:=(p.length:Int)-1) hp ha hb hl (by omega) m (by omega)
  have hA:1*(A+13)≤p.length*(A+13):=Nat.mul_le_mul_right _ (by omega)
  have pp:=zbe hp (i:=m) (by omega)
  have e1:Int.toNat ((p.length:Int)-1)=m:=by omega
  have p1:pQ 100000 (List.take 1 [(1:Int)]):=⟨by simp,fun d hd=>by simp at hd;subst hd;unfold cZ;omega⟩
  have go:=@zpN p a b ((p.length:Int)-1) (by omega) (by omega) (by omega) ⟨⟨by simp,fun d hd=>by cases hd⟩,ha.mono (by omega)⟩ (by omega) (by rw [e1];exact ⟨pp.mono (by omega),p1⟩)
   (by
    rw [e1]
    refine ⟨?_,fZ (k:=K+3) (by rw [Int.mul_one];exact zaD pp) (by omega)⟩
    rw [Int.zero_mul];exact fZ (k:=1) Sz.zero (by omega)) ⟨p1,hb.mono (by omega)⟩ (by omega) (Ex.exit 0,zc8 p a b ((p.length:Int)-1) (zaf (vls p) (vl a) (vl b)) (zlV (vl a) (vl b) (vls p)).2 (((0:Nat):Int)-1))
  simp only [bZ,e1] at go
  have e3:zlV (vl a) (vl b) ((vls p).drop m)=(0*vl a+vl (p.getD m [])*1,1*vl b):=by
   rw [zoG (show m<p.length by omega),List.drop_of_length_le (by rw [zdo];omega)];rfl
  rw [e3,show(m:Int)-1=(p.length:Int)-1-1 by omega] at L
  exact rat_1 p a b _ _ _ (by omega) (go L)
def cRat (args:List AV):M AV:=match args with
 | [x,y,z]=>do
  let p ← asK (.sl (.sl (.int .i64))) x
  let a ← asK (.sl (.int .i64)) y
  let b ← asK (.sl (.int .i64)) z
  tellD (pAt p a b) (Tst.b (pAt p a b))
  gives (.ni (zaf (vls p) (vl a) (vl b)))
 | _=>fail 300
noncomputable def ctrH7:Ctr:=(156,cRat) :: ctrH6
theorem cRat_ok:jZ tP 156 cRat:=by
 intro args _
 unfold cRat
 split
 ·exact Spec.bind (asK_spec.mono fun p hp=>Spec.bind (asK_spec.mono fun a ha=>Spec.bind (asK_spec.mono fun b hb=>Spec.bind (Spec.tellD Tst.ok fun h=>Spec.gives ((at_fc p a b h).le (.cons hp (.cons ha (.cons hb .nil))) (Le.refl _))))))
 ·exact Spec.fail
theorem zg3:∀p∈ctrH7,jZ tP p.1 p.2:=CAll.cons cRat_ok zkZ
theorem zpx:(eZ tP ctrH7 bw [] kdR).OK:=vZ zaC mixed zg3 zaA
noncomputable section
abbrev zdU (s:St) (r:Ex × St):Prop:=Loops 0 tP (kZ tP 142 0) s r
abbrev zai (a:List (List (List Int))) (b c:List Int) (d e f:Int):St:=⟨sp 38 [(0,.lst (EK.sl KI) a),(1,.sq b),(2,.sq c),(7,aI d),(8,aI e),(9,aI f)],[],[]⟩
abbrev zbB (a:List (List (List Int))) (b c:List Int) (d e f:Int):St:=⟨sp 38 [(0,.lst (EK.sl KI) a),(1,.sq b),(2,.sq c),(7,aI d),(8,aI e),(9,aI f)],[],[]⟩
theorem zpS (a:List (List (List Int))) (b d:List Int) (f g j:Int) (h1:j<(a.length:Int)) (h2:0≤j) (h3:pAt (a.getD j.toNat []) b d) (h4:pX (aZ (zaf (vls (a.getD j.toNat [])) (vl b) (vl d)))) (h5:(vl (aZ (zaf (vls (a.getD j.toNat [])) (vl b) (vl d)))).sign≠0) (h6:g≠0) (h7:(vl (aZ (zaf (vls (a.getD j.toNat [])) (vl b) (vl d)))).sign≠g) (h8:r64 (f+1)) (h9:r64 (j+1)):LG zdU (zai a b d f g j) (zai a b d (f+1) (vl (aZ (zaf (vls (a.getD j.toNat [])) (vl b) (vl d)))).sign (j+1)):=Loops.go (LS.at zpx 60 [] [0,1,2,7,8,9] [] [1,1,1,1] (.t h1<|.t h2<|.c h3<|.c h4<|.c (bne_iff_ne.2 h5)<|.c (bne_iff_ne.2 h6)<|.c (bne_iff_ne.2 h7)<|.i h8<|.i h9<|.e) [1,2,1,3,4,5,6,7,8,9])
theorem zpT (a:List (List (List Int))) (b d:List Int) (f g j:Int) (h1:j<(a.length:Int)) (h2:0≤j) (h3:pAt (a.getD j.toNat []) b d) (h4:pX (aZ (zaf (vls (a.getD j.toNat [])) (vl b) (vl d)))) (h5:(vl (aZ (zaf (vls (a.getD j.toNat [])) (vl b) (vl d)))).sign≠0) (h6:g≠0) (h7:(vl (aZ (zaf (vls (a.getD j.toNat [])) (vl b) (vl d)))).sign=g) (h8:r64 (j+1)):LG zdU (zai a b d f g j) (zai a b d f (vl (aZ (zaf (vls (a.getD j.toNat [])) (vl b) (vl d)))).sign (j+1)):=Loops.go (LS.at zpx 60 [] [0,1,2,7,8,9] [] [1,1,1,0] (.t h1<|.t h2<|.c h3<|.c h4<|.c (bne_iff_ne.2 h5)<|.c (bne_iff_ne.2 h6)<|.c (bne_eq_false_iff_eq.2 h7)<|.i h8<|.e) [1,2,1,3,4,5,6,7,8])
theorem zpU (a:List (List (List Int))) (b d:List Int) (f g j:Int) (h1:j<(a.length:Int)) (h2:0≤j) (h3:pAt (a.getD j.toNat []) b d) (h4:pX (aZ (zaf (vls (a.getD j.toNat [])) (vl b) (vl d)))) (h5:(vl (aZ (zaf (vls (a.getD j.toNat [])) (vl b) (vl d)))).sign≠0) (h6:g=0) (h7:r64 (j+1)):LG zdU (zai a b d f g j) (zai a b d f (vl (aZ (zaf (vls (a.getD j.toNat [])) (vl b) (vl d)))).sign (j+1)):=Loops.go (LS.at zpx 60 [] [0,1,2,7,8,9] [] [1,1,0] (.t h1<|.t h2<|.c h3<|.c h4<|.c (bne_iff_ne.2 h5)<|.c (bne_eq_false_iff_eq.2 h6)<|.i h7<|.e) [1,2,1,3,4,5,6,7])
theorem zpV (a:List (List (List Int))) (b d:List Int) (f g j:Int) (h1:j<(a.length:Int)) (h2:0≤j) (h3:pAt (a.getD j.toNat []) b d) (h4:pX (aZ (zaf (vls (a.getD j.toNat [])) (vl b) (vl d)))) (h5:(vl (aZ (zaf (vls (a.getD j.toNat [])) (vl b) (vl d)))).sign=0) (h6:r64 (j+1)):LG zdU (zai a b d f g j) (zai a b d f g (j+1)):=Loops.go (LS.at zpx 60 [] [0,1,2,7,8,9] [] [1,0] (.t h1<|.t h2<|.c h3<|.c h4<|.c (bne_eq_false_iff_eq.2 h5)<|.i h6<|.e) [1,2,1,3,4,5,6])
theorem zpW (a:List (List (List Int))) (b c:List Int) (d g i:Int) (h1:¬(i<(a.length:Int))):zdU (zai a b c d g i) (Ex.exit 0,(zbB a b c d g i)):=LF (LS.at zpx 60 [] [0,1,2,7,8,9] [] [0] (.f h1<|.e) [1])
theorem rch_0 (p:List (List (List Int))) (a b:List Int) (c d f:Int) (hL1:zdU (zai p a b (0) (0) (0)) (Ex.exit 0,(zbB p a b c d f))):FC tP 142 [.lst (.sl (.sl (.int .i64))) p,.sq a,.sq b] (aI c):=dZ zpx 60 [] (.v [0,1,2,7,8,9] [] hL1<|.e) [0,1]
end
theorem pAt_sz {p:List (List Int)} {a b:List Int} (h:pAt p a b):Sz 90000 (zaf (vls p) (vl a) (vl b)):=by
 obtain ⟨K,A,hp,ha,hb,hl,hs⟩:=h
 have h1:=(sg_sz (zaD ha) (zaD hb) (vls p) (vls_sz hp)).2
 rw [zdo] at h1
 exact h1.mono (by
  have:p.length*(A+3+10)=p.length*(A+13):=by rw [Nat.add_assoc]
  omega)
def zbi:List Int→Int→Int→Int × Int
 | [],n,l=>(n,l)
 | v :: vs,n,l=>if v.sign=0 then zbi vs n l else if l≠0∧v.sign≠l then zbi vs (n+1) v.sign else zbi vs n v.sign
def svs (L:List (List (List Int))) (a b:Int):List Int:=L.map fun p=>zaf (vls p) a b
theorem zeL {L:List (List (List Int))} {a b:List Int} (hL:∀p∈L,pAt p a b) (hl:L.length≤1000):∀(m i:Nat) (n l:Int),i+m=L.length→0≤n→n≤i →
 zdU (zai L a b n l i) (Ex.exit 0,zbB L a b (zbi ((svs L (vl a) (vl b)).drop i) n l).1 (zbi ((svs L (vl a) (vl b)).drop i) n l).2 L.length)
 | 0,i,n,l,hi,h0,h1=>by
  obtain rfl:i=L.length:=by omega
  rw [List.drop_of_length_le (by simp [svs])]
  exact zpW L a b n l _ (by omega)
 | m + 1, i,n,l,hi,h0,h1=>by
  have hlt:i<L.length:=by omega
  have e1:Int.toNat (i:Int)=i:=rfl
  have hg:L.getD i []=L[i]:=by simp [List.getD,hlt]
  have hp:pAt (L.getD i []) a b:=by rw [hg];exact hL _ (List.getElem_mem hlt)
  have hx:pX (aZ (zaf (vls (L.getD i [])) (vl a) (vl b))):=fZ (pAt_sz hp) (by decide)
  have hd:(svs L (vl a) (vl b)).drop i=zaf (vls (L.getD i [])) (vl a) (vl b) :: (svs L (vl a) (vl b)).drop (i+1):=by
   rw [List.drop_eq_getElem_cons (by simpa [svs] using hlt),hg];simp [svs]
  rw [hd]
  have nv:=bZ (zaf (vls (L.getD i [])) (vl a) (vl b))
  by_cases hz:(zaf (vls (L.getD i [])) (vl a) (vl b)).sign=0
  ·have ih:=zeL hL hl m (i+1) n l (by omega) h0 (by omega)
   have go:=@zpV L a b n l i (by omega) (by omega) hp hx (by rw [e1];show Int.sign (vl (aZ (zaf (vls (L.getD i [])) (vl a) (vl b))))=0;rw [nv];exact hz) (by omega) (Ex.exit 0,zbB L a b (zbi ((svs L (vl a) (vl b)).drop (i+1)) n l).1 (zbi ((svs L (vl a) (vl b)).drop (i+1)) n l).2 L.length)
   unfold zbi
   rw [if_pos hz]
   exact go ih
  ·have hz':Int.sign (vl (aZ (zaf (vls (L.getD i [])) (vl a) (vl b))))≠0:=by rw [nv];exact hz
   unfold zbi
   rw [if_neg hz]
   by_cases hl0:l=0
   ·rw [if_neg (fun h=>h.1 hl0)]
    have ih:=zeL hL hl m (i+1) n (zaf (vls (L.getD i [])) (vl a) (vl b)).sign (by omega) h0 (by omega)
    have go:=@zpU L a b n l i (by omega) (by omega) hp hx hz' hl0 (by omega) (Ex.exit 0,zbB L a b (zbi ((svs L (vl a) (vl b)).drop (i+1)) n (zaf (vls (L.getD i [])) (vl a) (vl b)).sign).1 (zbi ((svs L (vl a) (vl b)).drop (i+1)) n (zaf (vls (L.getD i [])) (vl a) (vl b)).sign).2 L.length)
    refine go ?_
    show zdU (zai L a b n (Int.sign (vl (aZ (zaf (vls (L.getD i [])) (vl a) (vl b))))) ((i:Int)+1)) _
    rw [nv];exact ih
   ·by_cases hne:(zaf (vls (L.getD i [])) (vl a) (vl b)).sign=l
    ·rw [if_neg (fun h=>h.2 hne)]
     have ih:=zeL hL hl m (i+1) n (zaf (vls (L.getD i [])) (vl a) (vl b)).sign (by omega) h0 (by omega)
     have go:=@zpT L a b n l i (by omega) (by omega) hp hx hz' hl0 (by rw [e1];show Int.sign (vl (aZ (zaf (vls (L.getD i [])) (vl a) (vl b))))=l;rw [nv];exact hne) (by omega) (Ex.exit 0,zbB L a b (zbi ((svs L (vl a) (vl b)).drop (i+1)) n (zaf (vls (L.getD i [])) (vl a) (vl b)).sign).1 (zbi ((svs L (vl a) (vl b)).drop (i+1)) n (zaf (vls (L.getD i [])) (vl a) (vl b)).sign).2 L.length)
     refine go ?_
     show zdU (zai L a b n (Int.sign (vl (aZ (zaf (vls (L.getD i [])) (vl a) (vl b))))) ((i:Int)+1)) _
     rw [nv];exact ih
    ·rw [if_pos ⟨hl0,hne⟩]
     have ih:=zeL hL hl m (i+1) (n+1) (zaf (vls (L.getD i [])) (vl a) (vl b)).sign (by omega) (by omega) (by omega)
     have go:=@zpS L a b n l i (by omega) (by omega) hp hx hz' hl0 (by rw [e1];show Int.sign (vl (aZ (zaf (vls (L.getD i [])) (vl a) (vl b))))≠l;rw [nv];exact hne) (by omega) (by omega) (Ex.exit 0,zbB L a b (zbi ((svs L (vl a) (vl b)).drop (i+1)) (n+1) (zaf (vls (L.getD i [])) (vl a) (vl b)).sign).1 (zbi ((svs L (vl a) (vl b)).drop (i+1)) (n+1) (zaf (vls (L.getD i [])) (vl a) (vl b)).sign).2 L.length)
     refine go ?_
     show zdU (zai L a b (n+1) (Int.sign (vl (aZ (zaf (vls (L.getD i [])) (vl a) (vl b))))) ((i:Int)+1)) _
     rw [nv];exact ih
def pCh (L:List (List (List Int))) (a b:List Int):Prop:=(∀p∈L,pAt p a b)∧L.length≤1000
instance tCh {L:List (List (List Int))} {a b:List Int}:Tst (pCh L a b):=⟨false,fun h=>by cases h⟩
theorem zoT (L:List (List (List Int))) (a b:List Int) (h:pCh L a b):FC tP 142 [.lst (.sl (.sl (.int .i64))) L,.sq a,.sq b] (lI (zbi (svs L (vl a) (vl b)) 0 0).1):=by
 have:=zeL h.1 h.2 L.length 0 0 0 (by omega) (by omega) (by omega)
 exact rch_0 L a b _ _ _ this
noncomputable section
end
open Go.Kf
theorem zd5:∀l:List Int,hZ .whole l=uZ .W l
 | []=>rfl
 | z :: l=>by
  show EK.cells .whole z++hZ .whole l=zgm .W z++uZ .W l
  rw [zd5 l];rfl
theorem Le.lst_zlW (l:List Int):Le (.lst .whole l) (.zl .W l):=fun E v h=>by
 cases h with
 | lst h=>exact .zl (by rw [← zd5];exact h)
theorem zjg (l:List Int) (a b:Int) (h:zcw l a b):FC tP 146 [.lst .whole l,W a,W b] (lI (zaf l a b).sign):=
 (zh4 l a b h).le (.cons (Le.lst_zlW l) (LeL.refl _)) (Le.refl _)
theorem agC_map (q r:List (List Int)) (last top:List Int) (i:Nat):vl (rsF q r last top i)=agC (vls q) (vl last*vl last) (vl top*vl last) (r.length-q.length) i ((vls r).getD i 0):=by
 unfold rsF;rw [bZ]
theorem ziV {r r':List Int}:∀n,(∀i,i<n→r.getD i 0=r'.getD i 0)→cutN r n=cutN r' n
 | 0,_=>rfl
 | n+1,h=>by
  unfold cutN
  rw [h n (by omega),ziV n fun i hi=>h i (by omega)]
theorem zo4 {l:List (List Int)} {c i:Nat} (h:i<c):(l.take c).getD i []=l.getD i []:=by
 simp only [List.getD_eq_getElem?_getD,List.getElem?_take,h,if_true]
theorem rsT_agN {q:List (List Int)} (hq0:1≤q.length):∀(k n:Nat) (r:List (List Int)) (R:List Int),r.length=n→n≤R.length→(∀i,i<n→(vls r).getD i 0=R.getD i 0) →
 (rsT q k r).length=(agN (vls q) k n R).1∧(agN (vls q) k n R).1≤(agN (vls q) k n R).2.length∧∀i,i<(agN (vls q) k n R).1→(vls (rsT q k r)).getD i 0=(agN (vls q) k n R).2.getD i 0
 | 0,n,r,R,hn,hR,h=>⟨hn,hR,h⟩
 | k + 1, n,r,R,hn,hR,h=>by
  unfold rsT agN
  rw [zdo,hn]
  by_cases hc:q.length≤n
  ·rw [if_pos hc,if_pos hc]
   have hlast:vl (q.getD (q.length-1) [])=(vls q).getD (q.length-1) 0:=zav _ _
   have htop:vl (r.getD (n-1) [])=R.getD (n-1) 0:=by rw [zav,h _ (by omega)]
   have hl:=zdj q r (q.getD (q.length-1) []) (r.getD (n-1) []) n
   have hcell:∀i,i<n→(vls (rsL q r (q.getD (q.length-1) []) (r.getD (n-1) []) n)).getD i 0=(agR (vls q) ((vls q).getD (q.length-1) 0*(vls q).getD (q.length-1) 0) (R.getD (n-1) 0*(vls q).getD (q.length-1) 0) (n-q.length) R n).getD i 0:=fun i hi=>by
    rw [← zav,zgT _ _ _ _ _ _ _ hR,if_pos hi]
    have e:(rsL q r (q.getD (q.length-1) []) (r.getD (n-1) []) n).getD i []=rsF q r (q.getD (q.length-1) []) (r.getD (n-1) []) i:=by
     unfold rsL
     rw [List.getD_eq_getElem?_getD,List.getElem?_map,List.getElem?_range hi];rfl
    rw [e,agC_map,hlast,htop,hn,h i hi]
   simp only
   rw [ziV n hcell]
   have hcl:=zg7 (agR (vls q) ((vls q).getD (q.length-1) 0*(vls q).getD (q.length-1) 0) (R.getD (n-1) 0*(vls q).getD (q.length-1) 0) (n-q.length) R n) n
   have hal:=zgU (vls q) ((vls q).getD (q.length-1) 0*(vls q).getD (q.length-1) 0) (R.getD (n-1) 0*(vls q).getD (q.length-1) 0) (n-q.length) R n
   refine rsT_agN hq0 k _ _ _ (by rw [List.length_take,hl];omega) (by omega) fun i hi=>?_
   rw [← hcell i (by omega),← zav (List.take _ _) i,zo4 hi]
   exact zav _ _
  ·rw [if_neg hc,if_neg hc]
   exact ⟨hn,hR,h⟩
noncomputable section
end
open Go.Kf
def chn:Nat→List Int→List Int→List (List Int)
 | 0,_,_=>[]
 | k+1,a,b=>if agst a b=[] then [] else agst a b :: chn k b (agst a b)
def nxR (a b:List (List Int)):List (List Int):=(rsT b a.length a).map fun l=>aZ (-(vl l))
def chR:Nat→List (List Int)→List (List Int)→List (List (List Int))
 | 0,_,_=>[]
 | k+1,a,b=>if rsT b a.length a=[] then [] else nxR a b :: chR k b (nxR a b)
theorem nxR_vls (a b:List (List Int)) (hb:1≤b.length):vls (nxR a b)=agst (vls a) (vls b)∧(rsT b a.length a).length=(agst (vls a) (vls b)).length:=by
 obtain ⟨h1,h2,h3⟩:=rsT_agN (q:=b) hb a.length a.length a (vls a) rfl (by rw [zdo];exact Nat.le_refl _) (fun i _=>rfl)
 have hl:(agst (vls a) (vls b)).length=(rsT b a.length a).length:=by
  unfold agst
  rw [zdo,List.length_take,zfJ,h1];omega
 refine ⟨?_,hl.symm⟩
 apply List.ext_getElem
 ·unfold nxR vls;simp only [List.length_map];unfold vls at hl;exact hl.symm
 ·intro i g1 g2
  have hi:i<(rsT b a.length a).length:=by rw [← hl];exact g2
  have e1:(vls (nxR a b))[i] = -((vls (rsT b a.length a)).getD i 0):=by
   simp only [vls,nxR,List.getElem_map,bZ]
   rw [List.getD_eq_getElem?_getD,List.getElem?_map,List.getElem?_eq_getElem hi];rfl
  rw [e1,h3 i (by omega)]
  have e2:(agst (vls a) (vls b))[i]=(agst (vls a) (vls b)).getD i 0:=by rw [List.getD_eq_getElem?_getD,List.getElem?_eq_getElem g2];rfl
  rw [e2]
  unfold agst
  rw [zdo]
  have e3:∀(n:Nat) (L:List Int),i<n→(L.take n).getD i 0=L.getD i 0:=fun n L h=>by simp [List.getD,List.getElem?_take,h]
  rw [e3 _ _ (by omega),zjV _ _ _ h2,if_pos (by omega)]
theorem chR_vls:∀(k:Nat) (a b:List (List Int)),1≤b.length→(chR k a b).map vls=chn k (vls a) (vls b)
 | 0,_,_,_=>rfl
 | k + 1,a,b,hb=>by
  obtain ⟨h1,h2⟩:=nxR_vls a b hb
  unfold chR chn
  by_cases h:rsT b a.length a=[]
  ·rw [if_pos h,if_pos (List.length_eq_zero_iff.1 (by rw [← h2,h];rfl))];rfl
  ·have hne:agst (vls a) (vls b)≠[]:=fun e=>h (List.length_eq_zero_iff.1 (by rw [h2,e];rfl))
   rw [if_neg h,if_neg hne,List.map_cons,h1,chR_vls k b (nxR a b) (by unfold nxR;rw [List.length_map];exact List.length_pos_iff.2 h),h1]
def cLWW (p:List Int→Int→Int→Prop) [∀l a b,Tst (p l a b)] (r:List Int→Int→Int→AV) (args:List AV):M AV:=match args with
 | [x,y,z]=>do
  let l ← asK (.sl .whole) x
  let a ← asW y
  let b ← asW z
  tellD (p l a b) (Tst.b (p l a b))
  gives (r l a b)
 | _=>fail 302
abbrev fieldK:EK:=.pr (.sl (.int .i64)) (.pr (.int .i64) (.pr (.int .i64) (.int .i64)))
def pPo (f:fieldK.ty):Prop:=zcx f.1
instance tPo {f:fieldK.ty}:Tst (pPo f):=⟨false,fun h=>by cases h⟩
noncomputable def ctrP1:Ctr:=(146,cLWW zcw (fun l a b=>lI (zaf l a b).sign)) :: (101,cD1 fieldK pPo (fun f=>.lst .whole f.1)) :: (180,cD1 (.sl .whole) zcx (fun p=>.lst .whole (der p))) :: ctrH7
abbrev kdP:List (TypeId × EK):=[(97,.whole),(121,.sl .whole)]
theorem cLWW_ok {P:Program} {f:FuncId} {p:List Int→Int→Int→Prop} [∀l a b,Tst (p l a b)] {r:List Int→Int→Int→AV} (h:∀l a b,p l a b→FC P f [.lst .whole l,W a,W b] (r l a b)):jZ P f (cLWW p r):=by
 intro args _
 unfold cLWW
 split
 ·exact Spec.bind (asK_spec.mono fun l hl=>Spec.bind (asW_spec.mono fun a ha=>Spec.bind (asW_spec.mono fun b hb=>Spec.bind (Spec.tellD Tst.ok fun hp=>Spec.gives ((h l a b hp).le (.cons hl (.cons ha (.cons hb .nil))) (Le.refl _))))))
 ·exact Spec.fail
theorem zk0:∀p∈ctrP1,jZ tP p.1 p.2:=CAll.cons (cLWW_ok zjg)<|CAll.cons (zer fun f h=>zhB f.1 f.2.1 f.2.2.1 f.2.2.2 h)<|CAll.cons (zer zoY) zg3
theorem okP1:(eZ tP ctrP1 bw [] kdP).OK:=vZ zaC mixed zk0 zaA
noncomputable section
abbrev zpR (s:St) (r:Ex × St):Prop:=Loops 0 tP (kZ tP 182 0) s r
abbrev zcA (a b:Int) (c:List (List Int)) (d e f g:Int):St:=⟨sp 33 [(0,aI a),(2,.pd [aI b] 0),(5,aI e),(6,aI f),(10,.lst (EK.sl EK.whole) c),(11,aI d),(12,aI g)],[],[]⟩
abbrev zj5 (a b:Int) (c:List (List Int)) (d e f g:Int):St:=⟨sp 33 [(0,aI a),(2,.pd [aI b] 0),(5,aI e),(6,aI f),(10,.lst (EK.sl EK.whole) c),(11,aI d),(12,aI g)],[],[]⟩
theorem rc_L0_0_0 (a b:Int) (d:List (List Int)) (f g j l:Int) (h1:l<f) (h2:0≤l) (h3:l<(d.length:Int)) (h4:cZ a) (h5:cZ b) (h6:zcw (d.getD l.toNat []) a b) (h7:r64 ((zaf (d.getD l.toNat []) a b).sign*j)) (h8:(zaf (d.getD l.toNat []) a b).sign*j<0) (h9:r64 (g+1)) (h10:(zaf (d.getD l.toNat []) a b).sign≠0) (h11:r64 (l+1)):LG zpR (zcA a b d f g j l) (zcA a b d f (g+1) (zaf (d.getD l.toNat []) a b).sign (l+1)):=Loops.go (LS.at okP1 60 [] [0,2,5,6,10,11,12] [] [1,1,1] (.t h1<|.t h2<|.t h3<|.c h4<|.c h5<|.c h6<|.i h7<|.t h8<|.i h9<|.c (bne_iff_ne.2 h10)<|.i h11<|.e) [1,2,3,4,5,0,0,6,7,8,9,10,11])
theorem rc_L0_0_2 (a b:Int) (d:List (List Int)) (g j l m:Int) (h1:m<g) (h2:0≤m) (h3:m<(d.length:Int)) (h4:cZ a) (h5:cZ b) (h6:zcw (d.getD m.toNat []) a b) (h7:r64 ((zaf (d.getD m.toNat []) a b).sign*l)) (h8:¬((zaf (d.getD m.toNat []) a b).sign*l<0)) (h9:(zaf (d.getD m.toNat []) a b).sign≠0) (h10:r64 (m+1)):LG zpR (zcA a b d g j l m) (zcA a b d g j (zaf (d.getD m.toNat []) a b).sign (m+1)):=Loops.go (LS.at okP1 60 [] [0,2,5,6,10,11,12] [] [1,0,1] (.t h1<|.t h2<|.t h3<|.c h4<|.c h5<|.c h6<|.i h7<|.f h8<|.c (bne_iff_ne.2 h9)<|.i h10<|.e) [1,2,3,4,5,0,0,6,7,8,9,10])
theorem rc_L0_0_3 (a b:Int) (d:List (List Int)) (g j l m:Int) (h1:m<g) (h2:0≤m) (h3:m<(d.length:Int)) (h4:cZ a) (h5:cZ b) (h6:zcw (d.getD m.toNat []) a b) (h7:r64 ((zaf (d.getD m.toNat []) a b).sign*l)) (h8:¬((zaf (d.getD m.toNat []) a b).sign*l<0)) (h9:(zaf (d.getD m.toNat []) a b).sign=0) (h10:r64 (m+1)):LG zpR (zcA a b d g j l m) (zcA a b d g j l (m+1)):=Loops.go (LS.at okP1 60 [] [0,2,5,6,10,11,12] [] [1,0,0] (.t h1<|.t h2<|.t h3<|.c h4<|.c h5<|.c h6<|.i h7<|.f h8<|.c (bne_eq_false_iff_eq.2 h9)<|.i h10<|.e) [1,2,3,4,5,0,0,6,7,8,9,10])
theorem rc_L0_0_4 (a b:Int) (c:List (List Int)) (d g i j:Int) (h1:¬(j<d)):zpR (zcA a b c d g i j) (Ex.exit 0,(zj5 a b c d g i j)):=LF (LS.at okP1 60 [] [0,2,5,6,10,11,12] [] [0] (.f h1<|.e) [1])
theorem rc_0 (a:Int) (L:List (List Int)) (d b c f:Int) (hL1:zpR (zcA a d L ((L.length:Int)) (0) (0) (0)) (Ex.exit 0,(zj5 a d L ((L.length:Int)) b c f))):FC tP 182 [lI a,.pd [.lst (.sl .whole) L] 0,.pd [lI d] 0] (aI b):=dZ okP1 60 [] (.v [0,2,5,6,10,11,12] [] hL1<|.e) [0,1]
end
open Go.Kf
def svZ (L:List (List Int)) (a b:Int):List Int:=L.map fun p=>zaf p a b
theorem sgn3 (z:Int):z.sign = -1∨z.sign=0∨z.sign=1:=by
 rcases Int.lt_trichotomy z 0 with h | h | h
 ·exact .inl (Int.sign_eq_neg_one_of_neg h)
 ·exact .inr (.inl (by rw [h];rfl))
 ·exact .inr (.inr (Int.sign_eq_one_of_pos h))
theorem zj6 {L:List (List Int)} {a d:Int} (ha:a.natAbs≤1000000) (hd:d.natAbs≤1000000) (hL:∀p∈L,zcw p a d) (hl:L.length≤1000):∀(m i:Nat) (n l:Int),i+m=L.length→0≤n→n≤i→(l = -1∨l=0∨l=1) →
 ∃x y z,zpR (zcA a d L L.length n l i) (Ex.exit 0,zj5 a d L L.length x y z)∧x=(zbi ((svZ L a d).drop i) n l).1
 | 0,i,n,l,hi,h0,h1,_=>by
  obtain rfl:i=L.length:=by omega
  refine ⟨n,l,L.length,rc_L0_0_4 a d L L.length n l _ (by omega),?_⟩
  rw [List.drop_of_length_le (by simp [svZ])];rfl
 | m + 1, i,n,l,hi,h0,h1,h3=>by
  have hlt:i<L.length:=by omega
  have hg:L.getD i []=L[i]:=by simp [List.getD,hlt]
  have hp:zcw (L.getD i []) a d:=by rw [hg];exact hL _ (List.getElem_mem hlt)
  have hx:(svZ L a d).drop i=zaf (L.getD i []) a d :: (svZ L a d).drop (i+1):=by
   rw [List.drop_eq_getElem_cons (by simpa [svZ] using hlt),hg];simp [svZ]
  have f1:cZ a:=by unfold cZ;omega
  have f2:cZ d:=by unfold cZ;omega
  rw [hx]
  unfold zbi
  generalize hv:zaf (L.getD i []) a d=v at *
  have hs:=sgn3 v
  have ev:zaf (L.getD (Int.toNat (i:Int)) []) a d=v:=hv
  by_cases hz:v.sign=0
  ·rw [if_pos hz]
   obtain ⟨x,y,z,ih,e⟩:=zj6 ha hd hL hl m (i+1) n l (by omega) h0 (by omega) h3
   refine ⟨x,y,z,?_,e⟩
   exact rc_L0_0_3 a d L L.length n l i (by omega) (by omega) (by omega) f1 f2 hp (by rw [ev,hz];omega) (by rw [ev,hz];omega) (by rw [ev];exact hz) (by omega) ih
  ·rw [if_neg hz]
   have hr:-9223372036854775808≤v.sign*l∧v.sign*l≤9223372036854775807:=by rcases hs with e | e | e<;>rcases h3 with f | f | f<;>rw [e,f]<;>decide
   by_cases hc:l≠0∧v.sign≠l
   ·rw [if_pos hc]
    have hneg:v.sign*l<0:=by
     obtain ⟨c1,c2⟩:=hc
     rcases hs with e | e | e<;>rcases h3 with f | f | f<;>first | exact absurd e hz | exact absurd f c1 | exact absurd (e.trans f.symm) c2 | (rw [e,f];decide)
    obtain ⟨x,y,z,ih,e⟩:=zj6 ha hd hL hl m (i+1) (n+1) v.sign (by omega) (by omega) (by omega) hs
    refine ⟨x,y,z,?_,e⟩
    refine rc_L0_0_0 a d L L.length n l i (by omega) (by omega) (by omega) f1 f2 hp (by rw [ev];exact hr) (by rw [ev];exact hneg) (by omega) (by rw [ev];exact hz) (by omega) ?_
    rw [ev];exact ih
   ·rw [if_neg hc]
    have hneg:¬v.sign*l<0:=by
     rcases hs with e | e | e<;>rcases h3 with f | f | f<;>first | (rw [e,f];decide) | (exfalso;exact hc ⟨by rw [f];decide,by rw [e,f];decide⟩)
    obtain ⟨x,y,z,ih,e⟩:=zj6 ha hd hL hl m (i+1) n v.sign (by omega) h0 (by omega) hs
    refine ⟨x,y,z,?_,e⟩
    refine rc_L0_0_2 a d L L.length n l i (by omega) (by omega) (by omega) f1 f2 hp (by rw [ev];exact hr) (by rw [ev];exact hneg) (by rw [ev];exact hz) (by omega) ?_
    rw [ev];exact ih
def pRc (L:List (List Int)) (a d:Int):Prop:=a.natAbs≤1000000∧d.natAbs≤1000000∧(∀p∈L,zcw p a d)∧L.length≤1000
theorem roots1_fc (L:List (List Int)) (a d:Int) (h:pRc L a d):FC tP 182 [lI a,.pd [.lst (.sl .whole) L] 0,.pd [lI d] 0] (lI (zbi (svZ L a d) 0 0).1):=by
 obtain ⟨x,y,z,k,e⟩:=zj6 h.1 h.2.1 h.2.2.1 h.2.2.2 L.length 0 0 0 (by omega) (by omega) (by omega) (.inr (.inl rfl))
 have:=rc_0 a L d x y z k
 rw [e] at this
 exact this
def cRcl (args:List AV):M AV:=match args with
 | [.lit (.int .i64 a),.pd [x] 0,.pd [.lit (.int .i64 d)] 0]=>do
  let L ← asK (.sl (.sl .whole)) x
  tell (pRc L a d)
  M.pure (lI (zbi (svZ L a d) 0 0).1)
 | _=>fail 303
noncomputable def ctrP2:Ctr:=(182,cRcl) :: ctrP1
theorem cRcl_ok:jZ tP 182 cRcl:=by
 intro args _
 unfold cRcl
 split
 ·exact Spec.bind (asK_spec.mono fun L hL=>Spec.bind (Spec.tell fun h=>Spec.pure' ((roots1_fc L _ _ h).le (.cons (Le.refl _) (.cons (Le.pd (.cons hL .nil)) (LeL.refl _))) (Le.refl _))))
 ·exact Spec.fail
theorem zk1:∀p∈ctrP2,jZ tP p.1 p.2:=CAll.cons cRcl_ok zk0
theorem okP2:(eZ tP ctrP2 bw [] kdP).OK:=vZ zaC mixed zk1 zaA
noncomputable section
abbrev zm4 (s:St) (r:Ex × St):Prop:=Loops 3 tP (kZ tP 152 0) s r
abbrev zki (a b c:Int) (d:List (List Int)):St:=⟨sp 44 [(1,aI a),(2,aI b),(7,.ref 0 0),(9,.ref 2 0)],[.flat [aI c] true,.lst (EK.sl EK.whole) d true,.flat [.own 1 0 2 1] true],[2,1]⟩
abbrev zhU (a b c:Int) (d:List (List Int)) (e:Nat) (f:List (List Int)):St:=⟨sp 44 [(1,aI a),(2,aI b),(7,.ref 0 0),(9,.ref 2 0)],[.flat [aI c] true,.dead,.flat [.own 3 0 e 1] true,.lst (EK.sl EK.whole) f true],[2,1]⟩
abbrev zoh (a b c:Int) (d:List (List Int)):St:=⟨sp 44 [(1,aI a),(2,aI b),(7,.ref 0 0),(9,.ref 2 0)],[.flat [aI c] true,.lst (EK.sl EK.whole) d true,.flat [.own 1 0 2 1] true],[2,1]⟩
abbrev zgH (a b c:Int) (d:List (List Int)) (e:Nat) (f:List (List Int)):St:=⟨sp 44 [(1,aI a),(2,aI b),(7,.ref 0 0),(9,.ref 2 0)],[.flat [aI c] true,.dead,.flat [.own 3 0 e 1] true,.lst (EK.sl EK.whole) f true],[2,1]⟩
theorem ro_L0_0_0 (a b d:Int) (f:List (List Int)) (h1:0<f.length) (h2:1<f.length) (h3:pAg (f.getD 0 []) (f.getD 1 [])) (h4:(↑((Kf.agst (f.getD 0 []) (f.getD 1 [])).length):Int)=0):zm4 (zki a b d f) (Ex.exit 0,(zoh a b d f)):=LF (LS.at okP2 60 [] [1,2,7,9] [2,1] [1] (.t h1<|.t h2<|.c h3<|.c (beq_iff_eq.2 h4)<|.e) [0,0,0,1,0,0,0,2,3,4])
theorem ro_L0_0_1 (a b d:Int) (f:List (List Int)) (h1:0<f.length) (h2:1<f.length) (h3:pAg (f.getD 0 []) (f.getD 1 [])) (h4:(↑((Kf.agst (f.getD 0 []) (f.getD 1 [])).length):Int)≠0) (h5:1≤List.length [Kf.agst (f.getD 0 []) (f.getD 1 [])]) (h6:(2+(List.take 1 [Kf.agst (f.getD 0 []) (f.getD 1 [])]).length)*24≤140737488355328) (h7:2+(List.take 1 [Kf.agst (f.getD 0 []) (f.getD 1 [])]).length≤4611686018427387904) (h8:2≤f.length):LG zm4 (zki a b d f) (zhU a b d f (3) (f.take 2++List.take 1 [Kf.agst (f.getD 0 []) (f.getD 1 [])])):=Loops.go (LS.at okP2 60 [4] [1,2,7,9] [2,1] [0] (.t h1<|.t h2<|.c h3<|.c (beq_false_of_ne h4)<|.c h5<|.t h6<|.t h7<|.t h8<|.e) [0,0,0,1,0,0,0,2,3,4,5,6,7,8])
theorem ro_L0_1_0 (a b d:Int) (f:List (List Int)) (g:Nat) (j:List (List Int)) (h1:r64 ((g:Int)-2)) (h2:0≤(g:Int)-2) (h3:(g:Int)-2<(g:Int)) (h4:((g:Int)-2).toNat<j.length) (h5:r64 ((g:Int)-1)) (h6:0≤(g:Int)-1) (h7:(g:Int)-1<(g:Int)) (h8:((g:Int)-1).toNat<j.length) (h9:pAg (j.getD ((g:Int)-2).toNat []) (j.getD ((g:Int)-1).toNat [])) (h10:(↑((Kf.agst (j.getD ((g:Int)-2).toNat []) (j.getD ((g:Int)-1).toNat [])).length):Int)=0):zm4 (zhU a b d f g j) (Ex.exit 0,(zgH a b d f g j)):=LF (LS.at okP2 60 [3] [1,2,7,9] [2,1] [1] (.i h1<|.t h2<|.t h3<|.t h4<|.i h5<|.t h6<|.t h7<|.t h8<|.c h9<|.c (beq_iff_eq.2 h10)<|.e) [1,2,3,4,5,6,7,8,9,10])
theorem ro_L0_1_1 (a b d:Int) (f:List (List Int)) (g:Nat) (j:List (List Int)) (h1:r64 ((g:Int)-2)) (h2:0≤(g:Int)-2) (h3:(g:Int)-2<(g:Int)) (h4:((g:Int)-2).toNat<j.length) (h5:r64 ((g:Int)-1)) (h6:0≤(g:Int)-1) (h7:(g:Int)-1<(g:Int)) (h8:((g:Int)-1).toNat<j.length) (h9:pAg (j.getD ((g:Int)-2).toNat []) (j.getD ((g:Int)-1).toNat [])) (h10:(↑((Kf.agst (j.getD ((g:Int)-2).toNat []) (j.getD ((g:Int)-1).toNat [])).length):Int)≠0) (h11:1≤List.length [Kf.agst (j.getD ((g:Int)-2).toNat []) (j.getD ((g:Int)-1).toNat [])]) (h12:(g+(List.take 1 [Kf.agst (j.getD ((g:Int)-2).toNat []) (j.getD ((g:Int)-1).toNat [])]).length)*24≤140737488355328) (h13:g+(List.take 1 [Kf.agst (j.getD ((g:Int)-2).toNat []) (j.getD ((g:Int)-1).toNat [])]).length≤4611686018427387904) (h14:g≤j.length):LG zm4 (zhU a b d f g j) (zhU a b d f (g+(List.take 1 [Kf.agst (j.getD ((g:Int)-2).toNat []) (j.getD ((g:Int)-1).toNat [])]).length) (j.take g++List.take 1 [Kf.agst (j.getD ((g:Int)-2).toNat []) (j.getD ((g:Int)-1).toNat [])])):=Loops.go (LS.at okP2 60 [5] [1,2,7,9] [2,1] [0] (.i h1<|.t h2<|.t h3<|.t h4<|.i h5<|.t h6<|.t h7<|.t h8<|.c h9<|.c (beq_false_of_ne h10)<|.c h11<|.t h12<|.t h13<|.t h14<|.e) [1,2,3,4,5,6,7,8,9,10,11,12,13,14])
theorem ro_0 (p:List Int) (a b d:Int) (h1:zcx p) (hL1:zm4 (zki a b d ([p,der p])) (Ex.exit 0,(zoh a b d ([p,der p])))) (h3:2≤List.length [p,der p]) (h4:pRc (List.take 2 [p,der p]) a d) (h5:pRc (List.take 2 [p,der p]) b d) (h6:r64 ((zbi (svZ (List.take 2 [p,der p]) a d) 0 0).fst-(zbi (svZ (List.take 2 [p,der p]) b d) 0 0).fst)):FC tP 152 [.lst .whole p,lI a,lI b,lI d] (aI ((zbi (svZ (List.take 2 [p,der p]) a d) 0 0).fst-(zbi (svZ (List.take 2 [p,der p]) b d) 0 0).fst)):=dZ okP2 60 [] (.c h1<|.v [1,2,7,9] [2,1] hL1<|.c h3<|.c h4<|.c h5<|.i h6<|.e) [1,0,2,3,4,3,5,6]
theorem ro_1 (p:List Int) (a b d:Int) (f:Nat) (g:List (List Int)) (h1:zcx p) (hL1:zm4 (zki a b d ([p,der p])) (Ex.exit 0,(zgH a b d ([p,der p]) f g))) (h3:f≤g.length) (h4:pRc (g.take f) a d) (h5:pRc (g.take f) b d) (h6:r64 ((zbi (svZ (g.take f) a d) 0 0).fst-(zbi (svZ (g.take f) b d) 0 0).fst)):FC tP 152 [.lst .whole p,lI a,lI b,lI d] (aI ((zbi (svZ (g.take f) a d) 0 0).fst-(zbi (svZ (g.take f) b d) 0 0).fst)):=dZ okP2 60 [] (.c h1<|.v [1,2,7,9] [2,1] hL1<|.c h3<|.c h4<|.c h5<|.i h6<|.e) [1,0,2,3,4,3,5,6]
end
open Go.Kf
def bz:Nat→Nat
 | 0=>1
 | 1=>1
 | 2=>16
 | 3=>133
 | _=>817
structure PInv (i:Nat) (a b:List Int):Prop where
 i3:i≤3
 la:a.length≤5-i
 lb:b.length≤4-i
 b1:1≤b.length
 a0:a≠[]
 sa:∀j,Sz (bz i) (a.getD j 0)
 sb:∀j,Sz (bz (i+1)) (b.getD j 0)
theorem zoK {p q:List Int} {a d:Nat} (hp:∀j,Sz a (p.getD j 0)) (hq:∀j,Sz d (q.getD j 0)) (h1:a+p.length*(2*d+1)≤300000) (h2:d≤50000) (hpl:p.length≤1000) (hq0:1≤q.length) :
    (agst p q).length<q.length∧∀j,Sz (a+p.length*(2*d+1)) ((agst p q).getD j 0):=by
  obtain ⟨_,i2,i3,i4,i5,i6⟩:=ag_l2 hq0 hq p.length p.length p a (Nat.le_refl _) (Nat.le_refl _) hpl hp h1 h2
  refine ⟨?_,fun j=>?_⟩
  · unfold agst
    rw [List.length_take,zfJ]
    by_cases h:q.length≤p.length
    · have:=i5 h;omega
    · omega
  · unfold agst
    by_cases h:j<(agN q p.length p.length p).1
    · have e3:∀(n:Nat) (L:List Int),j<n→(L.take n).getD j 0=L.getD j 0:=fun n L h=>by simp [List.getD,List.getElem?_take,h]
      rw [e3 _ _ h,zjV _ _ _ i2,if_pos h]
      exact(i6 j).neg
    · have:(List.take (agN q p.length p.length p).1 (ngR (agN q p.length p.length p).2 (agN q p.length p.length p).1)).getD j 0=0:=by
        simp [List.getD,List.getElem?_take,h]
      rw [this];exact Sz.zero
theorem PInv.ag {i:Nat} {a b:List Int} (h:PInv i a b):pAg a b:=by
 obtain ⟨i3,la,lb,b1,a0,sa,sb⟩:=h
 have hi:i=0∨i=1∨i=2∨i=3:=by omega
 refine ⟨⟨bz i,bz (i+1),sa,sb,?_,?_⟩,a0,by omega,b1,by omega⟩
 ·have:a.length*(2*bz (i+1)+1)≤(5-i)*(2*bz (i+1)+1):=Nat.mul_le_mul_right _ la
  refine Nat.le_trans (Nat.add_le_add_left this _) ?_
  rcases hi with rfl | rfl | rfl | rfl<;>decide
 ·rcases hi with rfl | rfl | rfl | rfl<;>decide
theorem PInv.step {i:Nat} {a b:List Int} (h:PInv i a b) (hne:agst a b≠[]):i≤2∧PInv (i+1) b (agst a b):=by
 obtain ⟨i3,la,lb,b1,a0,sa,sb⟩:=h
 have hi:i=0∨i=1∨i=2∨i=3:=by omega
 have hm:bz i+a.length*(2*bz (i+1)+1)≤bz i+(5-i)*(2*bz (i+1)+1):=Nat.add_le_add_left (Nat.mul_le_mul_right _ la) _
 obtain ⟨f1,f2⟩:=zoK sa sb (Nat.le_trans hm (by rcases hi with rfl | rfl | rfl | rfl<;>decide)) (by rcases hi with rfl | rfl | rfl | rfl<;>decide) (by omega) b1
 have hp:1≤(agst a b).length:=List.length_pos_iff.2 hne
 have i2:i≤2:=by omega
 refine ⟨i2,⟨by omega,by omega,by omega,hp,fun e=>by rw [e] at b1;simp at b1,sb,fun j=>(f2 j).mono (Nat.le_trans hm ?_)⟩⟩
 have hi:i=0∨i=1∨i=2:=by omega
 rcases hi with rfl | rfl | rfl<;>decide
theorem chn_ok:∀(k i:Nat) (a b:List Int),PInv i a b→(chn k a b).length≤k∧∀q∈chn k a b,q.length≤5∧∀j,Sz 817 (q.getD j 0)
 | 0,_,_,_,_=>⟨Nat.le_refl _,fun _ h=>by cases h⟩
 | k + 1,i,a,b,h=>by
  unfold chn
  by_cases hne:agst a b=[]
  ·rw [if_pos hne];exact ⟨Nat.zero_le _,fun _ h=>by cases h⟩
  ·rw [if_neg hne]
   obtain ⟨i2,hs⟩:=h.step hne
   obtain ⟨c1,c2⟩:=chn_ok k (i+1) b (agst a b) hs
   refine ⟨by simp only [List.length_cons];omega,fun q hq=>?_⟩
   rcases List.mem_cons.1 hq with rfl | hq
   ·refine ⟨by have:=hs.lb;omega,fun j=>(hs.sb j).mono ?_⟩
    have hi:i=0∨i=1∨i=2:=by omega
    rcases hi with rfl | rfl | rfl<;>decide
   ·exact c2 q hq
theorem zo3 {L:List (List Int)} {i:Nat} (h:L.length=i+2) (x:List Int):(L++[x]).getD (i+1) []=L.getD (i+1) []∧(L++[x]).getD (i+2) []=x:=by
 constructor
 ·simp only [List.getD_eq_getElem?_getD];rw [List.getElem?_append_left (by omega)]
 ·simp only [List.getD_eq_getElem?_getD];rw [List.getElem?_append_right (by omega)];simp [h]
theorem ro_loop {t1 t2 d:Int} {lr1:List (List Int)}:∀(k i:Nat) (L:List (List Int)) (a b:List Int),i+k=4→L.length=i+2→L.getD i []=a→L.getD (i+1) []=b→PInv i a b →
 zm4 (zhU t1 t2 d lr1 L.length L) (Ex.exit 0,zgH t1 t2 d lr1 (L++chn k a b).length (L++chn k a b))
 | 0,i,L,a,b,hk,hL,ha,hb,h=>by have:=h.i3;omega
 | k + 1,i,L,a,b,hk,hL,ha,hb,h=>by
  have e1:Int.toNat ((L.length:Int)-2)=i:=by omega
  have e2:Int.toNat ((L.length:Int)-1)=i+1:=by omega
  have g1:L.getD (Int.toNat ((L.length:Int)-2)) []=a:=by rw [e1];exact ha
  have g2:L.getD (Int.toNat ((L.length:Int)-1)) []=b:=by rw [e2];exact hb
  have hag:=h.ag
  unfold chn
  by_cases hne:agst a b=[]
  ·rw [if_pos hne,List.append_nil]
   exact ro_L0_1_0 t1 t2 d lr1 L.length L (by omega) (by omega) (by omega) (by omega) (by omega) (by omega) (by omega) (by omega) (by rw [g1,g2];exact hag) (by rw [g1,g2,hne];rfl)
  ·rw [if_neg hne]
   obtain ⟨i2,hs⟩:=h.step hne
   obtain ⟨l1,l2⟩:=zo3 hL (agst a b)
   have ih:=ro_loop (t1:=t1) (t2:=t2) (d:=d) (lr1:=lr1) k (i+1) (L++[agst a b]) b (agst a b) (by omega) (by rw [List.length_append];simp;omega) (by rw [l1];exact hb) l2 hs
   have go:=@ro_L0_1_1 t1 t2 d lr1 L.length L (by omega) (by omega) (by omega) (by omega) (by omega) (by omega) (by omega) (by omega) (by rw [g1,g2];exact hag)
    (by rw [g1,g2];have:=List.length_pos_iff.2 hne;omega) (by simp) (by simp;omega) (by simp;omega) (Nat.le_refl _) (Ex.exit 0,zgH t1 t2 d lr1 (L++agst a b :: chn k b (agst a b)).length (L++agst a b :: chn k b (agst a b)))
   rw [g1,g2,List.take_length] at go
   refine go ?_
   have e3:L.length+(List.take 1 [agst a b]).length=(L++[agst a b]).length:=by rw [List.length_append];rfl
   have e4:L++agst a b :: chn k b (agst a b)=(L++[agst a b])++chn k b (agst a b):=by rw [List.append_assoc];rfl
   rw [e3,e4]
   exact ih
def chZ (p:List Int):List (List Int):=p :: der p :: chn 4 p (der p)
def zcP (p:List Int) (a b d:Int):Int:=(zbi (svZ (chZ p) a d) 0 0).1-(zbi (svZ (chZ p) b d) 0 0).1
theorem zgO {l:List Int} {k:Nat} (h:∀c∈l,Sz k c) (j:Nat):Sz k (l.getD j 0):=by
 rw [List.getD_eq_getElem?_getD]
 by_cases hi:j<l.length
 ·rw [List.getElem?_eq_getElem hi];exact h _ (List.getElem_mem hi)
 ·rw [List.getElem?_eq_none (by omega)];exact Sz.zero
theorem szL_of {k:Nat}:∀ {l:List Int},(∀j,Sz k (l.getD j 0))→SzL k l
 | [],_=>trivial
 | z :: l,h=>⟨h 0,szL_of fun j=>h (j+1)⟩
theorem pinv0 {p:List Int} (h:zcx p):PInv 0 p (der p):=by
 obtain ⟨h2,h5,ha⟩:=h
 refine ⟨by omega,by omega,by rw [zd7];omega,by rw [zd7];omega,fun e=>by rw [e] at h2;simp at h2,zgO fun c hc=>?_,zgO fun c hc=>?_⟩
 ·have:=ha c hc;exact Sz.lit (by omega) (by decide)
 ·unfold der at hc
  obtain ⟨i,hi,rfl⟩:=List.mem_map.1 hc
  have hi:=List.mem_range.1 hi
  have g:=zeb ha (i+1)
  have m:=zlp (a:=p.getD (i+1) 0) (b:=((i+1:Nat):Int)) (A:=1000) (B:=5) g (by omega)
  exact Sz.lit (by omega) (by decide)
theorem zg0:∀(l:List Int) (n x:Int),n≤(zbi l n x).1∧(zbi l n x).1≤n+l.length
 | [],n,x=>by simp [zbi]
 | v :: l,n,x=>by
  unfold zbi
  have a:=zg0 l n x
  have b:=zg0 l (n+1) v.sign
  have c:=zg0 l n v.sign
  simp only [List.length_cons]
  split
  ·omega
  ·split
   ·omega
   ·omega
theorem chZ_ok {p:List Int} (h:zcx p):(chZ p).length≤6∧∀q∈chZ p,q.length≤5∧∀j,Sz 817 (q.getD j 0):=by
 have hi:=pinv0 h
 obtain ⟨c1,c2⟩:=chn_ok 4 0 p (der p) hi
 refine ⟨by unfold chZ;simp only [List.length_cons];omega,fun q hq=>?_⟩
 unfold chZ at hq
 rcases List.mem_cons.1 hq with rfl | hq
 ·exact ⟨hi.la,fun j=>(hi.sa j).mono (by decide)⟩
 rcases List.mem_cons.1 hq with rfl | hq
 ·exact ⟨by have:=hi.lb;omega,fun j=>(hi.sb j).mono (by decide)⟩
 ·exact c2 q hq
theorem chZ_pRc {p:List Int} (h:zcx p) {a d:Int} (ha:a.natAbs≤1000000) (hd:d.natAbs≤1000000):pRc (chZ p) a d:=by
 obtain ⟨c1,c2⟩:=chZ_ok h
 refine ⟨ha,hd,fun q hq=>?_,by omega⟩
 obtain ⟨d1,d2⟩:=c2 q hq
 exact ⟨Nat.ble_eq_true_of_le d1,szL_of fun j=>(d2 j).mono (by decide),Sz.lit (by omega) (by decide),Sz.lit (by omega) (by decide)⟩
theorem svZ_len (L:List (List Int)) (a b:Int):(svZ L a b).length=L.length:=by simp [svZ]
theorem zlN {p:List Int} (h:zcx p) (a b d:Int):(zcP p a b d).natAbs≤6:=by
 have c:=(chZ_ok h).1
 have x:=zg0 (svZ (chZ p) a d) 0 0
 have y:=zg0 (svZ (chZ p) b d) 0 0
 rw [svZ_len] at x y
 unfold zcP
 omega
def zgc (p:List Int) (a b d:Int):Prop:=zcx p∧a.natAbs≤1000000∧b.natAbs≤1000000∧d.natAbs≤1000000
theorem roots_fc (p:List Int) (a b d:Int) (h:zgc p a b d):FC tP 152 [.lst .whole p,lI a,lI b,lI d] (lI (zcP p a b d)):=by
 obtain ⟨hp,ha,hb,hd⟩:=h
 have hi:=pinv0 hp
 have hle:=zlN hp a b d
 have ra:=chZ_pRc hp ha hd
 have rb:=chZ_pRc hp hb hd
 by_cases hne:agst p (der p)=[]
 ·have e:chZ p=[p,der p]:=by unfold chZ chn;rw [if_pos hne]
  unfold zcP at hle ⊢
  rw [e] at hle ra rb ⊢
  exact ro_0 p a b d hp (ro_L0_0_0 a b d [p,der p] (by simp) (by simp) hi.ag (by show((agst p (der p)).length:Int)=0;rw [hne];rfl)) (by simp) ra rb (by show -9223372036854775808≤(zbi (svZ [p,der p] a d) 0 0).1-(zbi (svZ [p,der p] b d) 0 0).1∧(zbi (svZ [p,der p] a d) 0 0).1-(zbi (svZ [p,der p] b d) 0 0).1≤9223372036854775807;omega)
 ·obtain ⟨i2,hs⟩:=hi.step hne
  have e:chZ p=[p,der p,agst p (der p)]++chn 3 (der p) (agst p (der p)):=by
   unfold chZ
   conv=>lhs;unfold chn
   rw [if_neg hne];rfl
  have L:=ro_loop (t1:=a) (t2:=b) (d:=d) (lr1:=[p,der p]) 3 1 [p,der p,agst p (der p)] (der p) (agst p (der p)) rfl rfl rfl rfl hs
  rw [← e] at L
  have go:=@ro_L0_0_1 a b d [p,der p] (by simp) (by simp) hi.ag (by have:=List.length_pos_iff.2 hne;show((agst p (der p)).length:Int)≠0;omega) (by simp) (by simp) (by simp) (by simp) _ L
  have:=ro_1 p a b d (chZ p).length (chZ p) hp go (Nat.le_refl _) (by rw [List.take_length];exact ra) (by rw [List.take_length];exact rb) (by rw [List.take_length];unfold zcP at hle;omega)
  rw [List.take_length] at this
  exact this
def cRoots (args:List AV):M AV:=match args with
 | [x,.lit (.int .i64 a),.lit (.int .i64 b),.lit (.int .i64 d)]=>do
  let p ← asK (.sl .whole) x
  tell (zgc p a b d)
  M.pure (lI (zcP p a b d))
 | _=>fail 304
noncomputable def ctrP3:Ctr:=(152,cRoots) :: ctrP2
theorem cRoots_ok:jZ tP 152 cRoots:=by
 intro args _
 unfold cRoots
 split
 ·exact Spec.bind (asK_spec.mono fun L hL=>Spec.bind (Spec.tell fun h=>Spec.pure' ((roots_fc L _ _ _ h).le (.cons hL (LeL.refl _)) (Le.refl _))))
 ·exact Spec.fail
theorem zk2:∀p∈ctrP3,jZ tP p.1 p.2:=CAll.cons cRoots_ok zk1
theorem okP3:(eZ tP ctrP3 bw [] kdP).OK:=vZ zaC mixed zk2 zaA
noncomputable section
theorem on_0 (p:List Int) (a b d:Int) (h1:(p.length:Int)=2) (h2:0<(p.length:Int)) (h3:0<p.length) (h4:r64 (0-p.getD 0 0)) (h5:r64 ((0-p.getD 0 0)*d)) (h6:(0-p.getD 0 0)*d≥a):FC tP 111 [.agg [.sq p,lI a,lI b,lI d]] (.lit (.bool (decide ((0-p.getD 0 0)*d≤b)))):=dZ okP3 60 [1,1] (.c (beq_iff_eq.2 h1)<|.t h2<|.t h3<|.i h4<|.i h5<|.t h6<|.e) [1,0,2,3,4,5,6]
theorem on_1 (p:List Int) (a b d:Int) (h1:(p.length:Int)=2) (h2:0<(p.length:Int)) (h3:0<p.length) (h4:r64 (0-p.getD 0 0)) (h5:r64 ((0-p.getD 0 0)*d)) (h6:¬((0-p.getD 0 0)*d≥a)):FC tP 111 [.agg [.sq p,lI a,lI b,lI d]] (.ff):=dZ okP3 60 [1,0] (.c (beq_iff_eq.2 h1)<|.t h2<|.t h3<|.i h4<|.i h5<|.f h6<|.e) [1,0,2,3,4,5,6]
theorem on_2 (p:List Int) (a b d:Int) (h1:(p.length:Int)≠2) (h2:pPo (p,a,b,d)) (h3:zgc (p,a,b,d).fst a b d):FC tP 111 [.agg [.sq p,lI a,lI b,lI d]] (.lit (.bool (zcP (p,a,b,d).fst a b d==1))):=dZ okP3 60 [0] (.c (beq_false_of_ne h1)<|.c h2<|.c h3<|.e) [1,2,3]
abbrev zk6 (s:St) (r:Ex × St):Prop:=Loops 0 tP (kZ tP 147 0) s r
abbrev zcl (a:List Int) (b c:Int):St:=⟨sp 19 [(0,.sq a),(1,.fn 109 []),(7,aI b),(8,aI c)],[],[]⟩
abbrev zgp (a:List Int) (b c:Int):St:=⟨sp 19 [(4,aI c)],[],[]⟩
abbrev zjy (a:List Int) (b c:Int):St:=⟨sp 19 [(0,.sq a),(1,.fn 109 []),(7,aI b),(8,aI c)],[],[]⟩
theorem cx_L0_0_0 (a:List Int) (b c:Int) (h1:c<b) (h2:0≤c) (h3:c<(a.length:Int)) (h4:c.toNat<a.length) (h5:a.getD c.toNat 0≥-1000) (h6:¬(a.getD c.toNat 0≤1000)):zk6 (zcl a b c) (Ex.ret,(zgp a b c)):=LF (LS.at okP3 60 [] [4] [] [1,1,1] (.t h1<|.t h2<|.t h3<|.t h4<|.t h5<|.y h6<|.e) [1,2,3,4,5,6])
theorem cx_L0_0_1 (a:List Int) (b c:Int) (h1:c<b) (h2:0≤c) (h3:c<(a.length:Int)) (h4:c.toNat<a.length) (h5:a.getD c.toNat 0≥-1000) (h6:a.getD c.toNat 0≤1000) (h7:r64 (c+1)):LG zk6 (zcl a b c) (zcl a b (c+1)):=Loops.go (LS.at okP3 60 [] [0,1,7,8] [] [1,1,0] (.t h1<|.t h2<|.t h3<|.t h4<|.t h5<|.x h6<|.i h7<|.e) [1,2,3,4,5,6,7])
theorem cx_L0_0_2 (a:List Int) (b c:Int) (h1:c<b) (h2:0≤c) (h3:c<(a.length:Int)) (h4:c.toNat<a.length) (h5:¬(a.getD c.toNat 0≥-1000)):zk6 (zcl a b c) (Ex.ret,(zgp a b c)):=LF (LS.at okP3 60 [] [4] [] [1,0] (.t h1<|.t h2<|.t h3<|.t h4<|.f h5<|.e) [1,2,3,4,5])
theorem cx_L0_0_3 (a:List Int) (b c:Int) (h1:¬(c<b)):zk6 (zcl a b c) (Ex.exit 0,(zjy a b c)):=LF (LS.at okP3 60 [] [0,1,7,8] [] [0] (.f h1<|.e) [1])
theorem cx_0 (p:List Int) (a:Int) (hL1:zk6 (zcl p ((p.length:Int)) (0)) (Ex.ret,(zgp p ((p.length:Int)) a))):FC tP 108 [.sq p,.fn 109 []] (.lit (.bool (decide (a≥0)))):=dZ okP3 60 [] (.v [0,1,7,8] [] hL1<|.e) [0,1]
theorem cx_1 (p:List Int) (a:Int) (hL1:zk6 (zcl p ((p.length:Int)) (0)) (Ex.exit 0,(zjy p ((p.length:Int)) a))):FC tP 108 [.sq p,.fn 109 []] (aF):=dZ okP3 60 [] (.v [0,1,7,8] [] hL1<|.e) [0,1]
end
open Go.Kf
def zmb (p:List Int) (a b d:Int):Bool:=if p.length=2 then decide (a≤-(p.getD 0 0)*d)&&decide (-(p.getD 0 0)*d≤b) else zcP p a b d==1
theorem one_fc (p:List Int) (a b d:Int) (h:zgc p a b d):FC tP 111 [.agg [.sq p,lI a,lI b,lI d]] (.lit (.bool (zmb p a b d))):=by
 have h':=h
 obtain ⟨hp,ha,hb,hd⟩:=h'
 have g0:=zeb hp.2.2 0
 have m:=zlp (a:=0-p.getD 0 0) (b:=d) (A:=1000) (B:=1000000) (by omega) hd
 have hl:=hp.1
 by_cases h2:p.length=2
 ·have e:0-p.getD 0 0 = -(p.getD 0 0):=by omega
  by_cases h3:a≤-(p.getD 0 0)*d
  ·have:=on_0 p a b d (by omega) (by omega) (by omega) (by omega) (by omega) (by rw [e];exact h3)
   rw [e] at this
   have e2:zmb p a b d=decide (-(p.getD 0 0)*d≤b):=by unfold zmb;rw [if_pos h2,decide_eq_true h3,Bool.true_and]
   rw [e2];exact this
  ·exact ffF (on_1 p a b d (by omega) (by omega) (by omega) (by omega) (by omega) (by rw [e];exact h3)) (by unfold zmb;rw [if_pos h2,decide_eq_false h3,Bool.false_and])
 ·have e2:zmb p a b d=(zcP p a b d==1):=by unfold zmb;rw [if_neg h2]
  rw [e2]
  exact on_2 p a b d (by omega) hp h
def zd1 (p:List Int):Bool:=p.any fun c=>decide (c < -1000)||decide (1000<c)
theorem bigc_f {p:List Int} (h:zd1 p=false):∀c∈p,c.natAbs≤1000:=by
 unfold zd1 at h
 intro c hc
 have:=List.any_eq_false.1 h c hc
 simp only [Bool.or_eq_true,decide_eq_true_eq,not_or] at this
 omega
theorem zkF {p:List Int} {i:Nat} (h:i<p.length):zd1 (p.drop i)=((decide (p.getD i 0 < -1000)||decide (1000<p.getD i 0))||zd1 (p.drop (i+1))):=by
 rw [zfG h];rfl
theorem cx_loop {p:List Int} (hl:p.length≤1000):∀(m i:Nat),i+m=p.length →
 (zd1 (p.drop i)=true∧∃t,0≤t∧zk6 (zcl p p.length i) (Ex.ret,zgp p p.length t))∨(zd1 (p.drop i)=false∧∃t,zk6 (zcl p p.length i) (Ex.exit 0,zjy p p.length t))
 | 0,i,hi=>by
  obtain rfl:i=p.length:=by omega
  exact .inr ⟨by rw [List.drop_length];rfl,p.length,cx_L0_0_3 p p.length p.length (by omega)⟩
 | m + 1,i,hi=>by
  have hlt:i<p.length:=by omega
  have e1:Int.toNat (i:Int)=i:=rfl
  rw [zkF hlt]
  by_cases h1:p.getD i 0≥-1000
  ·by_cases h2:p.getD i 0≤1000
   ·have go:=fun r=>@cx_L0_0_1 p p.length i (by omega) (by omega) (by omega) (by omega) h1 h2 (by omega) r
    rw [decide_eq_false (show ¬p.getD i 0 < -1000 by omega),decide_eq_false (show ¬1000<p.getD i 0 by omega),Bool.false_or,Bool.false_or]
    rcases cx_loop hl m (i+1) (by omega) with ⟨a,t,ht,k⟩ | ⟨a,t,k⟩
    ·exact .inl ⟨a,t,ht,go _ k⟩
    ·exact .inr ⟨a,t,go _ k⟩
   ·exact .inl ⟨by rw [decide_eq_true (show 1000<p.getD i 0 by omega)];simp,i,by omega,cx_L0_0_0 p p.length i (by omega) (by omega) (by omega) (by omega) h1 h2⟩
  ·exact .inl ⟨by rw [decide_eq_true (show p.getD i 0 < -1000 by omega)];simp,i,by omega,cx_L0_0_2 p p.length i (by omega) (by omega) (by omega) (by omega) h1⟩
theorem zmr (p:List Int) (hl:p.length≤1000):FC tP 108 [.sq p,.fn 109 []] (.lit (.bool (zd1 p))):=by
 rcases cx_loop hl p.length 0 (by omega) with ⟨a,t,ht,k⟩ | ⟨a,t,k⟩
 ·rw [List.drop_zero] at a
  rw [a]
  have:=cx_0 p t k
  rw [decide_eq_true (show t≥0 from ht)] at this
  exact this
 ·rw [List.drop_zero] at a
  rw [a]
  exact cx_1 p t k
end Go.Proofs.YtagbldogmjhdpaaGreatDoor
end
