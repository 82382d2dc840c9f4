/- Part of a proof about a given program: see the last module of the claim. -/
import Derived.Test.YtagbldogmjhdpaaGreatDoorD
import Derived.Test.YtagbldogmjhdpaaGreatDoorC
section
open Go Go.Ev Go.RowKit
namespace Go.Proofs.YtagbldogmjhdpaaGreatDoor
open Go.Proofs
set_option maxRecDepth 100000
set_option maxHeartbeats 1000000
set_option linter.unusedVariables false
set_option linter.unusedSimpArgs false
def ctrF3:Ctr:=(135,cL pNm (fun x=>.ni (vl x))) :: ctrF2
theorem zkQ:∀p∈ctrF3,jZ tP p.1 p.2:=CAll.cons (zjt zpE) zkP
theorem zkx:(eZ tP ctrF3 bw).OK:=JZ zkQ
noncomputable section
theorem rne_0 (z:Int) (h1:(↑((aZ z).length):Int) > 0) (h2:r64 ((↑((aZ z).length):Int)-1)) (h3:0≤(↑((aZ z).length):Int)-1) (h4:(↑((aZ z).length):Int)-1<(↑((aZ z).length):Int)) (h5:((↑((aZ z).length):Int)-1).toNat<(aZ z).length):FC tP 154 [.ni z] (.lit (.bool (decide ((aZ z).getD ((↑((aZ z).length):Int)-1).toNat 0<0)))):=dZ zkx 60 [1] (.t h1<|.i h2<|.t h3<|.t h4<|.t h5<|.e) [1,2,3,4,5]
theorem rne_1 (z:Int) (h1:¬((↑((aZ z).length):Int) > 0)):FC tP 154 [.ni z] (.ff):=dZ zkx 60 [0] (.f h1<|.e) [1]
theorem rle_0 (a b:Int) (h1:(↑((aZ a).length):Int)≠(↑((aZ b).length):Int)):FC tP 187 [.ni a,.ni b] (.lit (.bool (decide ((↑((aZ a).length):Int)<(↑((aZ b).length):Int))))):=dZ zkx 60 [1] (.c (bne_iff_ne.2 h1)<|.e) [1]
abbrev zhN (s:St) (r:Ex × St):Prop:=Loops 0 tP (kZ tP 187 0) s r
abbrev zbR (a b c:Int):St:=⟨sp 41 [(0,.ni a),(1,.ni b),(5,aI c)],[],[]⟩
abbrev zhO (a b:Int) (c:Bool):St:=⟨sp 41 [(4,.lit (.bool c))],[],[]⟩
abbrev zhP (a b c:Int):St:=⟨sp 41 [(0,.ni a),(1,.ni b),(5,aI c)],[],[]⟩
theorem zqe (a b d:Int) (h1:d≥0) (h2:0≤d) (h3:d<(↑((aZ a).length):Int)) (h4:d.toNat<(aZ a).length) (h5:d<(↑((aZ b).length):Int)) (h6:d.toNat<(aZ b).length) (h7:(aZ a).getD d.toNat 0≠(aZ b).getD d.toNat 0):zhN (zbR a b d) (Ex.ret,(zhO a b (decide ((aZ a).getD d.toNat 0<(aZ b).getD d.toNat 0)))):=LF (LS.at zkx 60 [] [4] [] [1,1] (.t h1<|.t h2<|.t h3<|.t h4<|.t h5<|.t h6<|.c (bne_iff_ne.2 h7)<|.e) [1,2,3,4,2,5,6,7,2,3,4,2,5,6])
theorem zje (a b d:Int) (h1:d≥0) (h2:0≤d) (h3:d<(↑((aZ a).length):Int)) (h4:d.toNat<(aZ a).length) (h5:d<(↑((aZ b).length):Int)) (h6:d.toNat<(aZ b).length) (h7:(aZ a).getD d.toNat 0=(aZ b).getD d.toNat 0) (h8:r64 (d-1)):LG zhN (zbR a b d) (zbR a b (d-1)):=Loops.go (LS.at zkx 60 [] [0,1,5] [] [1,0] (.t h1<|.t h2<|.t h3<|.t h4<|.t h5<|.t h6<|.c (bne_eq_false_iff_eq.2 h7)<|.i h8<|.e) [1,2,3,4,2,5,6,7,8])
theorem zqf (a b c:Int) (h1:¬(c≥0)):zhN (zbR a b c) (Ex.exit 0,(zhP a b c)):=LF (LS.at zkx 60 [] [0,1,5] [] [0] (.f h1<|.e) [1])
theorem rle_1 (a b:Int) (d:Bool) (h1:(↑((aZ a).length):Int)=(↑((aZ b).length):Int)) (h2:r64 ((↑((aZ a).length):Int)-1)) (hL1:zhN (zbR a b ((↑((aZ a).length):Int)-1)) (Ex.ret,(zhO a b d))):FC tP 187 [.ni a,.ni b] (.lit (.bool d)):=dZ zkx 60 [0] (.c (bne_eq_false_iff_eq.2 h1)<|.i h2<|.v [0,1,5] [] hL1<|.e) [1,2,0,3]
theorem rle_2 (a b d:Int) (h1:(↑((aZ a).length):Int)=(↑((aZ b).length):Int)) (h2:r64 ((↑((aZ a).length):Int)-1)) (hL1:zhN (zbR a b ((↑((aZ a).length):Int)-1)) (Ex.exit 0,(zhP a b d))):FC tP 187 [.ni a,.ni b] (.ff):=dZ zkx 60 [0] (.c (bne_eq_false_iff_eq.2 h1)<|.i h2<|.v [0,1,5] [] hL1<|.e) [1,2,0,3]
abbrev zcO (s:St) (r:Ex × St):Prop:=Loops 0 tP (kZ tP 89 0) s r
abbrev zcz (a b:Int):St:=⟨sp 48 [(0,.ni a),(1,.ni b),(5,aN),(6,aI 0)],[],[]⟩
abbrev zaE (a b:Int) (c:Nat) (d:Int) (e:List Int):St:=⟨sp 48 [(0,.ni a),(1,.ni b),(5,.own 0 0 c 1),(6,aI d)],[.ints e true],[]⟩
abbrev zlE (a b:Int):St:=⟨sp 48 [(0,.ni a),(1,.ni b),(5,aN),(6,aI 0)],[],[]⟩
abbrev zeJ (a b:Int) (c:Nat) (d:Int) (e:List Int):St:=⟨sp 48 [(0,.ni a),(1,.ni b),(5,.own 0 0 c 1),(6,aI d)],[.ints e true],[]⟩
theorem zpF (a b:Int) (h1:0<(↑((aZ a).length):Int)) (h2:0<(aZ a).length) (h3:0<(↑((aZ b).length):Int)) (h4:0<(aZ b).length) (h5:r64 ((aZ a).getD 0 0+(aZ b).getD 0 0)):LG zcO (zcz a b) (zaE a b (1) (1) ([(aZ a).getD 0 0+(aZ b).getD 0 0])):=Loops.go (LS.at zkx 60 [1] [0,1,5,6] [] [1,1,1] (.t h1<|.t h2<|.t h3<|.t h4<|.i h5<|.c (show decide ((List.take 1 [(aZ a).getD 0 0+(aZ b).getD 0 0]).length=1)=true from decide_eq_true rfl)<|.e) [1,1,0,1,2,3,0,3,4,5,0,0,0,6,0])
theorem zpG (a b:Int) (h1:0<(↑((aZ a).length):Int)) (h2:0<(aZ a).length) (h3:¬(0<(↑((aZ b).length):Int))):LG zcO (zcz a b) (zaE a b (1) (1) ([(aZ a).getD 0 0])):=Loops.go (LS.at zkx 60 [1] [0,1,5,6] [] [1,1,0] (.t h1<|.t h2<|.f h3<|.c (show decide ((List.take 1 [(aZ a).getD 0 0]).length=1)=true from decide_eq_true rfl)<|.e) [1,1,0,1,2,3,0,0,0,4,0])
theorem zpH (a b:Int) (h1:¬(0<(↑((aZ a).length):Int))) (h2:0<(↑((aZ b).length):Int)) (h3:0<(aZ b).length) (h4:r64 (0+(aZ b).getD 0 0)):LG zcO (zcz a b) (zaE a b (1) (1) ([0+(aZ b).getD 0 0])):=Loops.go (LS.at zkx 60 [1] [0,1,5,6] [] [0,1,0,1] (.f h1<|.t h2<|.t h3<|.i h4<|.c (show decide ((List.take 1 [0+(aZ b).getD 0 0]).length=1)=true from decide_eq_true rfl)<|.e) [1,2,1,2,0,2,3,4,0,0,0,5,0])
theorem zpI (a b:Int) (h1:¬(0<(↑((aZ a).length):Int))) (h2:¬(0<(↑((aZ b).length):Int))):zcO (zcz a b) (Ex.exit 0,(zlE a b)):=LF (LS.at zkx 60 [] [0,1,5,6] [] [0,0] (.f h1<|.f h2<|.e) [1,2])
theorem zpJ (a b:Int) (d:Nat) (f:Int) (g:List Int) (h1:f<(↑((aZ a).length):Int)) (h2:0≤f) (h3:f.toNat<(aZ a).length) (h4:f<(↑((aZ b).length):Int)) (h5:f.toNat<(aZ b).length) (h6:r64 ((aZ a).getD f.toNat 0+(aZ b).getD f.toNat 0)) (h7:(d+1)*8≤140737488355328) (h8:d+1≤4611686018427387904) (h9:d≤g.length) (h10:r64 (f+1)):LG zcO (zaE a b d f g) (zaE a b (d+1) (f+1) (g.take d++List.take 1 [(aZ a).getD f.toNat 0+(aZ b).getD f.toNat 0])):=Loops.go (LS.at zkx 60 [2] [0,1,5,6] [] [1,1,1] (.t h1<|.t h2<|.t h3<|.t h4<|.t h5<|.i h6<|.t h7<|.t h8<|.t h9<|.c (show decide ((List.take 1 [(aZ a).getD f.toNat 0+(aZ b).getD f.toNat 0]).length=1)=true from decide_eq_true rfl)<|.i h10<|.e) [1,1,2,1,3,4,2,4,5,6,7,8,9,10,11])
theorem zpK (a b:Int) (d:Nat) (g:Int) (j:List Int) (h1:g<(↑((aZ a).length):Int)) (h2:0≤g) (h3:g.toNat<(aZ a).length) (h4:¬(g<(↑((aZ b).length):Int))) (h5:(d+1)*8≤140737488355328) (h6:d+1≤4611686018427387904) (h7:d≤j.length) (h8:r64 (g+1)):LG zcO (zaE a b d g j) (zaE a b (d+1) (g+1) (j.take d++List.take 1 [(aZ a).getD g.toNat 0])):=Loops.go (LS.at zkx 60 [2] [0,1,5,6] [] [1,1,0] (.t h1<|.t h2<|.t h3<|.f h4<|.t h5<|.t h6<|.t h7<|.c (show decide ((List.take 1 [(aZ a).getD g.toNat 0]).length=1)=true from decide_eq_true rfl)<|.i h8<|.e) [1,1,2,1,3,4,5,6,7,8,9])
theorem zpL (a b:Int) (d:Nat) (g:Int) (j:List Int) (h1:¬(g<(↑((aZ a).length):Int))) (h2:g<(↑((aZ b).length):Int)) (h3:0≤g) (h4:g.toNat<(aZ b).length) (h5:r64 (0+(aZ b).getD g.toNat 0)) (h6:(d+1)*8≤140737488355328) (h7:d+1≤4611686018427387904) (h8:d≤j.length) (h9:r64 (g+1)):LG zcO (zaE a b d g j) (zaE a b (d+1) (g+1) (j.take d++List.take 1 [0+(aZ b).getD g.toNat 0])):=Loops.go (LS.at zkx 60 [2] [0,1,5,6] [] [0,1,0,1] (.f h1<|.t h2<|.t h3<|.t h4<|.i h5<|.t h6<|.t h7<|.t h8<|.c (show decide ((List.take 1 [0+(aZ b).getD g.toNat 0]).length=1)=true from decide_eq_true rfl)<|.i h9<|.e) [1,2,1,2,3,2,4,5,6,7,8,9,10])
theorem zpM (a b:Int) (c:Nat) (d:Int) (g:List Int) (h1:¬(d<(↑((aZ a).length):Int))) (h2:¬(d<(↑((aZ b).length):Int))):zcO (zaE a b c d g) (Ex.exit 0,(zeJ a b c d g)):=LF (LS.at zkx 60 [0] [0,1,5,6] [] [0,0] (.f h1<|.f h2<|.e) [1,2])
theorem rad_0 (x y:List Int) (h1:pNm x) (h2:pNm y) (hL1:zcO (zcz (vl x) (vl y)) (Ex.exit 0,(zlE (vl x) (vl y)))) (h4:pNm []):FC tP 89 [.sq x,.sq y] (.ni 0):=dZ zkx 60 [] (.c h1<|.c h2<|.v [0,1,5,6] [] hL1<|.c h4<|.e) [1,2,0,3,4]
theorem rad_1 (x y:List Int) (a:Nat) (b:Int) (d:List Int) (h1:pNm x) (h2:pNm y) (hL1:zcO (zcz (vl x) (vl y)) (Ex.exit 0,(zeJ (vl x) (vl y) a b d))) (h4:a≤d.length) (h5:pNm (d.take a)):FC tP 89 [.sq x,.sq y] (.ni (vl (d.take a))):=dZ zkx 60 [] (.c h1<|.c h2<|.v [0,1,5,6] [] hL1<|.c h4<|.c h5<|.e) [1,2,0,3,4,5]
end
theorem gZ (z:Int):(aZ z).length=dl z:=by
 unfold aZ dl
 split<;>simp
theorem zhb {k:Nat} {z:Int} (h:Sz k z):dl z≤k:=zab _ _ h
theorem zc2 (z:Int):∀d∈aZ z,-100000000<d∧d<100000000:=by
 intro d hd
 have h:=oZ z.natAbs
 unfold aZ at hd
 split at hd
 ·obtain ⟨e,he,rfl⟩:=List.mem_map.1 hd
  have:=h e he;omega
 ·have:=h d hd;omega
theorem CZ (z:Int) (i:Nat):-100000000<(aZ z).getD i 0∧(aZ z).getD i 0<100000000:=by
 by_cases h:i<(aZ z).length
 ·exact zc2 z _ (by simp [List.getD,h])
 ·have:(aZ z).getD i 0=0:=by simp [List.getD,Nat.le_of_not_lt h]
  rw [this];omega
theorem dl_zero {z:Int}:dl z=0↔z=0:=by
 unfold dl
 rw [List.length_eq_zero_iff,zbI];omega
theorem digs_last {n:Nat} (h:n≠0):0<(digs n).getD ((digs n).length-1) 0:=by
 induction n using Nat.strongRecOn with
 | _ n ih=>
  rw [zbx n h]
  by_cases h1:n / 100000000=0
  ·rw [h1,QZ];simp;omega
  ·have:=ih (n / 100000000) (by omega) h1
   have hl:(digs (n / 100000000)).length≠0:=by rw [ne_eq,List.length_eq_zero_iff,zbI];exact h1
   have e:(((n % 100000000:Nat):Int) :: digs (n / 100000000)).length-1=(digs (n / 100000000)).length-1+1:=by simp;omega
   rw [e,List.getD_cons_succ];exact this
theorem zpu {z:Int} (h:z≠0):(decide ((aZ z).getD ((aZ z).length-1) 0<0))=decide (z<0):=by
 have h1:=digs_last (n:=z.natAbs) (by omega)
 unfold aZ
 by_cases hz:z<0
 ·rw [if_pos hz,decide_eq_true hz,List.length_map]
  have hlt:(digs z.natAbs).length-1<(digs z.natAbs).length:=by
   have:(digs z.natAbs).length≠0:=by rw [ne_eq,List.length_eq_zero_iff,zbI];omega
   omega
  have:((digs z.natAbs).map fun d=>-d).getD ((digs z.natAbs).length-1) 0 = -((digs z.natAbs).getD ((digs z.natAbs).length-1) 0):=by
   simp [List.getD,hlt]
  rw [this]
  exact decide_eq_true (by omega)
 ·rw [if_neg hz,decide_eq_false hz]
  exact decide_eq_false (by omega)
def pNg (z:Int):Prop:=Sz 1000000 z
instance tNg {z:Int}:Tst (pNg z):=inferInstanceAs (Tst (Sz 1000000 z))
theorem zlD (z:Int) (h:pNg z):FC tP 154 [.ni z] (.lit (.bool (decide (z<0)))):=by
 have hl:=zhb h
 by_cases hz:z=0
 ·subst hz
  have:=rne_1 0 (by rw [gZ];simp [dl,QZ])
  exact this.res fun E v hv=>by cases hv;exact .lit _
 ·have hd:dl z≠0:=fun h=>hz (dl_zero.1 h)
  have:=rne_0 z (by rw [gZ];omega) (by rw [gZ];omega) (by rw [gZ];omega) (by omega) (by rw [gZ];omega)
  have e:Int.toNat (((aZ z).length:Int)-1)=(aZ z).length-1:=by rw [gZ];omega
  rw [e,zpu hz] at this
  exact this
theorem rl_loop (a b:Int) (ha:0≤a) (hb:0≤b) (hl:dl a=dl b) (hs:dl a≤1000000):∀(i:Nat),i≤dl a→(aZ a).drop i=(aZ b).drop i →
    (a=b∧zhN (zbR a b ((i:Int)-1)) (.exit 0,zhP a b (-1)))∨(a≠b∧zhN (zbR a b ((i:Int)-1)) (.ret,zhO a b (decide (a<b))))
  | 0,_,hd=>.inl ⟨by rw [← bZ a,← bZ b];simpa using congrArg vl hd,zqf a b _ (by omega)⟩
  | i + 1, hi,hd=>by
    have la:=gZ a
    have lb:=gZ b
    have hn:Int.toNat (((i+1:Nat):Int)-1)=i:=by omega
    have hc:((i+1:Nat):Int)-1=(i:Int):=by omega
    have hia:i<(aZ a).length:=by omega
    have hib:i<(aZ b).length:=by omega
    have ea:(aZ a).drop i=(aZ a).getD i 0 :: (aZ a).drop (i+1):=by rw [List.drop_eq_getElem_cons hia];simp [List.getD,hia]
    have eb:(aZ b).drop i=(aZ b).getD i 0 :: (aZ b).drop (i+1):=by rw [List.drop_eq_getElem_cons hib];simp [List.getD,hib]
    rw [hc]
    have hn':Int.toNat (i:Int)=i:=by omega
    by_cases h:(aZ a).getD i 0=(aZ b).getD i 0
    · rcases rl_loop a b ha hb hl hs i (by omega) (by rw [ea,eb,h,hd]) with ⟨h1,h2⟩ | ⟨h1,h2⟩
      · exact .inl ⟨h1,zje a b i (by omega) (by omega) (by omega) (by omega) (by omega) (by omega) (by rw [hn'];exact h) (by omega) h2⟩
      · exact .inr ⟨h1,zje a b i (by omega) (by omega) (by omega) (by omega) (by omega) (by omega) (by rw [hn'];exact h) (by omega) h2⟩
    · have key:a≠b∧decide ((aZ a).getD i 0<(aZ b).getD i 0)=decide (a<b):=by
        have ha':aZ a=digs a.natAbs:=by unfold aZ;rw [if_neg (by omega)]
        have hb':aZ b=digs b.natAbs:=by unfold aZ;rw [if_neg (by omega)]
        have hda:Digs (aZ a):=by rw [ha'];exact oZ _
        have hdb:Digs (aZ b):=by rw [hb'];exact oZ _
        have va:a=vl ((aZ a).take i)+100000000 ^ i*((aZ a).getD i 0+100000000*vl ((aZ a).drop (i+1))):=by
          conv=>lhs;rw [← bZ a,← List.take_append_drop i (aZ a),zaK,ea]
          rw [List.length_take,Nat.min_eq_left (by omega)];rfl
        have vb:b=vl ((aZ b).take i)+100000000 ^ i*((aZ b).getD i 0+100000000*vl ((aZ a).drop (i+1))):=by
          conv=>lhs;rw [← bZ b,← List.take_append_drop i (aZ b),zaK,eb]
          rw [List.length_take,Nat.min_eq_left (by omega),hd];rfl
        have t1:Digs ((aZ a).take i):=fun d h=>hda d (List.mem_of_mem_take h)
        have t2:Digs ((aZ b).take i):=fun d h=>hdb d (List.mem_of_mem_take h)
        have u1:=zfW t1
        have u2:=zfW t2
        have w1:=FZ t1
        have w2:=FZ t2
        rw [List.length_take,Nat.min_eq_left (by omega)] at u1 u2
        generalize vl ((aZ a).drop (i+1))=V at va vb
        generalize (aZ a).getD i 0=p at va h ⊢
        generalize (aZ b).getD i 0=q at vb h ⊢
        generalize vl ((aZ a).take i)=s at va u1 w1
        generalize vl ((aZ b).take i)=t at vb u2 w2
        have pp:=pow_pos i
        generalize (100000000:Int) ^ i=P at *
        have hab:a-b=(s-t)+P*(p-q):=by rw [va,vb];grind
        rcases Int.lt_or_gt_of_ne h with h1 | h1
        · have:P*(p-q)≤-P:=by
            have:=Int.mul_le_mul_of_nonneg_left (show p-q≤-1 by omega) (Int.le_of_lt pp)
            omega
          exact ⟨by omega,by rw [decide_eq_true h1];exact(decide_eq_true (by omega)).symm⟩
        · have:P≤P*(p-q):=by
            have:=Int.mul_le_mul_of_nonneg_left (show 1≤p-q by omega) (Int.le_of_lt pp)
            omega
          exact ⟨by omega,by rw [decide_eq_false (by omega)];exact(decide_eq_false (by omega)).symm⟩
      have:=zqe a b i (by omega) (by omega) (by omega) (by omega) (by omega) (by omega) (by rw [hn'];exact h)
      rw [hn',key.2] at this
      exact .inr ⟨key.1,this⟩
def pLes (a b:Int):Prop:=(0≤a∧0≤b)∧Sz 1000000 a∧Sz 1000000 b
theorem znO {a b:Int} (ha:0≤a) (hb:0≤b) (h:dl a<dl b):a<b:=by
 rcases Int.lt_or_le a b with h1 | h1
 ·exact h1
 ·exfalso
  have h2:=zjD a.natAbs
  have h3:Sz (dl a) b:=by
   unfold Sz
   have:b.natAbs≤a.natAbs:=by omega
   exact Nat.lt_of_le_of_lt this h2
  have:=zhb h3
  omega
theorem rless_fc (a b:Int) (h:pLes a b):FC tP 187 [.ni a,.ni b] (.lit (.bool (decide (a<b)))):=by
 obtain ⟨⟨ha,hb⟩,sa,sb⟩:=h
 have la:=gZ a
 have lb:=gZ b
 have da:=zhb sa
 by_cases hl:dl a=dl b
 ·have e:((aZ a).length:Int)-1=((dl a:Nat):Int)-1:=by rw [la]
  rcases rl_loop a b ha hb hl da (dl a) (Nat.le_refl _) (by rw [List.drop_of_length_le (by omega),List.drop_of_length_le (by omega)]) with ⟨h1,h2⟩ | ⟨h1,h2⟩
  ·rw [← e] at h2
   have:=rle_2 a b _ (by omega) (by omega) h2
   refine this.res fun E v hv=>?_
   cases hv
   rw [decide_eq_false (by omega)];exact .lit _
  ·rw [← e] at h2
   exact rle_1 a b _ (by omega) (by omega) h2
 ·have:=rle_0 a b (by omega)
  refine this.res fun E v hv=>?_
  have e:decide (((aZ a).length:Int)<((aZ b).length:Int))=decide (a<b):=by
   rw [la,lb]
   rcases Nat.lt_or_gt_of_ne hl with h1 | h1
   ·rw [decide_eq_true (by omega),decide_eq_true (znO ha hb h1)]
   ·have:=znO hb ha h1
    rw [decide_eq_false (by omega),decide_eq_false (by omega)]
  rw [← e];exact hv
def zl2 (X Y:List Int) (n:Nat):List Int:=(List.range n).map fun k=>X.getD k 0+Y.getD k 0
theorem sums_succ (X Y:List Int) (n:Nat):zl2 X Y (n+1)=zl2 X Y n++[X.getD n 0+Y.getD n 0]:=by
 simp [zl2,List.range_succ]
theorem zh8 (X Y:List Int) (n:Nat):(zl2 X Y n).length=n:=by simp [zl2]
theorem zgQ:∀(n:Nat) (X:List Int),X.length≤n→vl ((List.range n).map fun k=>X.getD k 0)=vl X
 | 0,X,h=>by
  have:X=[]:=List.eq_nil_of_length_eq_zero (by omega)
  subst this;rfl
 | n+1,[],_=>by
  rw [List.range_succ_eq_map]
  have:=zgQ n [] (by simp)
  simp only [List.map_cons,List.map_map,vl]
  have e:((fun k=>([]:List Int).getD k 0) ∘ Nat.succ)=fun k=>([]:List Int).getD k 0:=by funext k;simp
  rw [e,this];rfl
 | n+1,x :: X,h=>by
  rw [List.range_succ_eq_map]
  have:=zgQ n X (by simpa using h)
  simp only [List.map_cons,List.map_map,vl,List.getD_cons_zero]
  have e:((fun k=>(x :: X).getD k 0) ∘ Nat.succ)=fun k=>X.getD k 0:=by funext k;simp
  rw [e,this]
theorem vl_sums (X Y:List Int) (n:Nat) (hx:X.length≤n) (hy:Y.length≤n):vl (zl2 X Y n)=vl X+vl Y:=by
 rw [← zgQ n X hx,← zgQ n Y hy]
 unfold zl2
 generalize List.range n=l
 induction l with
 | nil=>rfl
 | cons k l ih=>simp only [List.map_cons,vl,ih,Int.mul_add];omega
theorem ra_loop (a b:Int) (ha:dl a≤500000) (hb:dl b≤500000):∀(m i:Nat),i+m=max (dl a) (dl b) →
 zcO (zaE a b i i (zl2 (aZ a) (aZ b) i)) (.exit 0,zeJ a b (max (dl a) (dl b)) (max (dl a) (dl b):Nat) (zl2 (aZ a) (aZ b) (max (dl a) (dl b))))
 | 0,i,hi=>by
  have:i=max (dl a) (dl b):=by omega
  subst this
  have la:=gZ a
  have lb:=gZ b
  exact zpM a b _ _ _ (by omega) (by omega)
 | m + 1,i,hi=>by
  have la:=gZ a
  have lb:=gZ b
  have ih:=ra_loop a b ha hb m (i+1) (by omega)
  have hn:Int.toNat (i:Int)=i:=by omega
  have ga:=CZ a i
  have gb:=CZ b i
  have hs:=zh8 (aZ a) (aZ b) i
  have e0:=sums_succ (aZ a) (aZ b) i
  have tk:∀d,List.take i (zl2 (aZ a) (aZ b) i)++List.take 1 [d]=zl2 (aZ a) (aZ b) i++[d]:=fun d=>by
   have:=zfT (zl2 (aZ a) (aZ b) i) d
   rwa [hs] at this
  have hc:((i+1:Nat):Int)=(i:Int)+1:=by omega
  rw [e0,hc] at ih
  by_cases h1:i<dl a
  ·by_cases h2:i<dl b
   ·refine zpJ a b i i _ (by omega) (by omega) (by omega) (by omega) (by omega) (by rw [hn];omega) (by omega) (by omega) (by omega) (by omega) ?_
    rw [hn,tk];exact ih
   ·refine zpK a b i i _ (by omega) (by omega) (by omega) (by omega) (by omega) (by omega) (by omega) (by omega) ?_
    have:(aZ b).getD i 0=0:=by simp [List.getD,List.getElem?_eq_none (show(aZ b).length≤i by omega)]
    rw [this,Int.add_zero] at ih
    rw [hn,tk];exact ih
  ·refine zpL a b i i _ (by omega) (by omega) (by omega) (by omega) (by rw [hn];omega) (by omega) (by omega) (by omega) (by omega) ?_
   have:(aZ a).getD i 0=0:=by simp [List.getD,List.getElem?_eq_none (show(aZ a).length≤i by omega)]
   rw [this] at ih
   rw [hn,tk];exact ih
def pQ (N:Nat) (x:List Int):Prop:=x.length≤N∧∀d∈x,cZ d
theorem pQ.mono {M N:Nat} {x:List Int} (h:pQ M x) (hn:M≤N):pQ N x:=⟨Nat.le_trans h.1 hn,h.2⟩
theorem pQ.sz {N:Nat} {x:List Int} (h:pQ N x):Sz (N+3) (vl x):=(vl_sz h.2).mono (by have:=h.1;omega)
theorem fZ {k N:Nat} {z:Int} (h:Sz k z) (hk:k≤N):pQ N (aZ z):=
 ⟨by rw [gZ];exact Nat.le_trans (zhb h) hk,fun d hd=>by have:=zc2 z d hd;unfold cZ;omega⟩
def pAd (x y:List Int):Prop:=pQ 400000 x∧pQ 400000 y
theorem rAdd_fc (x y:List Int) (h:pAd x y):FC tP 89 [.sq x,.sq y] (.ni (vl x+vl y)):=by
 obtain ⟨hx,hy⟩:=h
 have px:pNm x:=hx.mono (by decide)
 have py:pNm y:=hy.mono (by decide)
 have da:=zhb hx.sz
 have db:=zhb hy.sz
 have la:=gZ (vl x)
 have lb:=gZ (vl y)
 by_cases h0:max (dl (vl x)) (dl (vl y))=0
 ·have zx:vl x=0:=dl_zero.1 (by omega)
  have zy:vl y=0:=dl_zero.1 (by omega)
  have:=rad_0 x y px py (zpI _ _ (by omega) (by omega)) ⟨by simp,fun d hd=>by cases hd⟩
  rw [zx,zy];exact this
 ·have hl:=ra_loop (vl x) (vl y) (by omega) (by omega) (max (dl (vl x)) (dl (vl y))-1) 1 (by omega)
  have ga:=CZ (vl x) 0
  have gb:=CZ (vl y) 0
  have e1:zl2 (aZ (vl x)) (aZ (vl y)) 1=[(aZ (vl x)).getD 0 0+(aZ (vl y)).getD 0 0]:=by simp [zl2]
  have hL:zcO (zcz (vl x) (vl y)) (.exit 0,zeJ (vl x) (vl y) (max (dl (vl x)) (dl (vl y))) (max (dl (vl x)) (dl (vl y)):Nat) (zl2 (aZ (vl x)) (aZ (vl y)) (max (dl (vl x)) (dl (vl y))))):=by
   rw [e1] at hl
   by_cases h1:0<dl (vl x)
   ·by_cases h2:0<dl (vl y)
    ·exact zpF _ _ (by omega) (by omega) (by omega) (by omega) (by omega) hl
    ·have:(aZ (vl y)).getD 0 0=0:=by simp [List.getD,List.getElem?_eq_none (show(aZ (vl y)).length≤0 by omega)]
     rw [this,Int.add_zero] at hl
     exact zpG _ _ (by omega) (by omega) (by omega) hl
   ·have:(aZ (vl x)).getD 0 0=0:=by simp [List.getD,List.getElem?_eq_none (show(aZ (vl x)).length≤0 by omega)]
    rw [this] at hl
    exact zpH _ _ (by omega) (by omega) (by omega) (by omega) hl
  have hs:=zh8 (aZ (vl x)) (aZ (vl y)) (max (dl (vl x)) (dl (vl y)))
  have htk:List.take (max (dl (vl x)) (dl (vl y))) (zl2 (aZ (vl x)) (aZ (vl y)) (max (dl (vl x)) (dl (vl y))))=zl2 (aZ (vl x)) (aZ (vl y)) (max (dl (vl x)) (dl (vl y))):=List.take_of_length_le (by omega)
  have:=rad_1 x y _ _ _ px py hL (by omega) (by
   rw [htk]
   refine ⟨by omega,fun d hd=>?_⟩
   obtain ⟨k,_,rfl⟩:=List.mem_map.1 hd
   have:=CZ (vl x) k
   have:=CZ (vl y) k
   unfold cZ;omega)
  rw [htk,vl_sums _ _ _ (by omega) (by omega),bZ,bZ] at this
  exact this
theorem Le.sqNi {x:List Int} (h:x=aZ (vl x)):Le (.sq x) (.ni (vl x)):=fun E v hv=>hv.toNi rfl h
def pLesL (x y:List Int):Prop:=(x=aZ (vl x)∧y=aZ (vl y))∧pLes (vl x) (vl y)
instance tLesL {x y:List Int}:Tst (pLesL x y):=⟨false,fun h=>by cases h⟩
theorem rlessL_fc (x y:List Int) (h:pLesL x y):FC tP 187 [.sq x,.sq y] (.lit (.bool (decide (vl x<vl y)))):=
 (rless_fc _ _ h.2).le (.cons (Le.sqNi h.1.1) (.cons (Le.sqNi h.1.2) .nil)) (Le.refl _)
def ctrF4:Ctr:=(154,n1 pNg (fun z=>.lit (.bool (decide (z<0))))) :: (187,cLL pLesL (fun x y=>.lit (.bool (decide (vl x<vl y))))) :: (89,cLL pAd (fun x y=>.ni (vl x+vl y))) :: ctrF3
theorem zkR:∀p∈ctrF4,jZ tP p.1 p.2:=CAll.cons (n1_ok zlD)<|CAll.cons (zbu rlessL_fc)<|CAll.cons (zbu rAdd_fc) zkQ
theorem ziE:(eZ tP ctrF4 bw).OK:=JZ zkR
noncomputable section
theorem rsz_0 (z:Int) (h1:pNg z) (h2:pSg (aZ z)):FC tP 168 [.ni z] (.sq (zlW (decide (z<0)) (aZ z))):=dZ ziE 60 [] (.c h1<|.c h2<|.e) [1,2]
theorem rng_0 (x:List Int) (h1:pNm x) (h2:pSg (aZ (vl x))):FC tP 131 [.sq x] (.sq (zlW true (aZ (vl x)))):=dZ ziE 60 [] (.c h1<|.c h2<|.e) [1,2]
theorem rsg_0 (x:List Int) (h1:pNm x) (h2:(↑((aZ (vl x)).length):Int)=0):FC tP 117 [.sq x] (aI 0):=dZ ziE 60 [1] (.c h1<|.c (beq_iff_eq.2 h2)<|.e) [1,2]
theorem rsg_1 (x:List Int) (h1:pNm x) (h2:(↑((aZ (vl x)).length):Int)≠0) (h3:pNg (vl x)) (h4:vl x<0):FC tP 117 [.sq x] (aI (-1)):=dZ ziE 60 [0,1] (.c h1<|.c (beq_false_of_ne h2)<|.c h3<|.t h4<|.e) [1,2,3,4]
theorem rsg_2 (x:List Int) (h1:pNm x) (h2:(↑((aZ (vl x)).length):Int)≠0) (h3:pNg (vl x)) (h4:¬(vl x<0)):FC tP 117 [.sq x] (aI 1):=dZ ziE 60 [0,0] (.c h1<|.c (beq_false_of_ne h2)<|.c h3<|.f h4<|.e) [1,2,3,4]
abbrev zdV (s:St) (r:Ex × St):Prop:=Loops 0 tP (kZ tP 90 0) s r
abbrev zdF (a b:Int):St:=⟨sp 44 [(0,.ni a),(1,.ni b),(5,aN),(6,aI 0)],[],[]⟩
abbrev zbT (a b c d:Int):St:=⟨sp 44 [(0,.ni a),(1,.ni b),(5,.ni c),(6,aI d)],[],[]⟩
abbrev zlL (a b:Int):St:=⟨sp 44 [(0,.ni a),(1,.ni b),(5,aN),(6,aI 0)],[],[]⟩
abbrev ze2 (a b c d:Int):St:=⟨sp 44 [(0,.ni a),(1,.ni b),(5,.ni c),(6,aI d)],[],[]⟩
abbrev zhQ (s:St) (r:Ex × St):Prop:=Loops 1 tP (kZ tP 90 1) s r
abbrev zgG (a b:Int):St:=⟨sp 44 [(0,.ni a),(1,.ni b),(5,aN),(6,aI 0),(7,.own 0 0 0 1),(8,aI 0)],[.ints [] true],[0]⟩
abbrev zeY (a b:Int) (c:Nat) (d:Int) (e:List Int):St:=⟨sp 44 [(0,.ni a),(1,.ni b),(5,aN),(6,aI 0),(7,.own 1 0 c 1),(8,aI d)],[.dead,.ints e true],[0]⟩
abbrev zlJ (a b:Int):St:=⟨sp 44 [(0,.ni a),(1,.ni b),(5,aN),(6,aI 0),(7,.own 0 0 0 1),(8,aI 0)],[.ints [] true],[0]⟩
abbrev zhR (a b:Int) (c:Nat) (d:Int) (e:List Int):St:=⟨sp 44 [(0,.ni a),(1,.ni b),(5,aN),(6,aI 0),(7,.own 1 0 c 1),(8,aI d)],[.dead,.ints e true],[0]⟩
theorem zqn (a b:Int) (h1:0<(↑((aZ b).length):Int)) (h2:0<(↑((aZ a).length):Int)) (h3:0<(aZ a).length) (h4:0<(aZ b).length) (h5:r64 ((aZ a).getD 0 0*(aZ b).getD 0 0)):LG zhQ (zgG a b) (zeY a b (1) (1) ([(aZ a).getD 0 0*(aZ b).getD 0 0])):=Loops.go (LS.at ziE 60 [2] [0,1,5,6,7,8] [0] [1] (.t h1<|.t h2<|.t h3<|.t h4<|.i h5<|.c (show decide ((List.take 1 [(aZ a).getD 0 0*(aZ b).getD 0 0]).length=1)=true from decide_eq_true rfl)<|.e) [1,0,2,3,0,1,4,5,0,0,0,6,0])
theorem zqo (a b:Int) (h1:¬(0<(↑((aZ b).length):Int))):zhQ (zgG a b) (Ex.exit 2,(zlJ a b)):=LF (LS.at ziE 60 [] [0,1,5,6,7,8] [0] [0] (.f h1<|.e) [1])
theorem zqp (a b:Int) (d:Nat) (f:Int) (g:List Int) (h1:f<(↑((aZ b).length):Int)) (h2:0<(↑((aZ a).length):Int)) (h3:0<(aZ a).length) (h4:0≤f) (h5:f.toNat<(aZ b).length) (h6:r64 ((aZ a).getD 0 0*(aZ b).getD f.toNat 0)) (h7:(d+1)*8≤140737488355328) (h8:d+1≤4611686018427387904) (h9:d≤g.length) (h10:r64 (f+1)):LG zhQ (zeY a b d f g) (zeY a b (d+1) (f+1) (g.take d++List.take 1 [(aZ a).getD 0 0*(aZ b).getD f.toNat 0])):=Loops.go (LS.at ziE 60 [3] [0,1,5,6,7,8] [0] [1] (.t h1<|.t h2<|.t h3<|.t h4<|.t h5<|.i h6<|.t h7<|.t h8<|.t h9<|.c (show decide ((List.take 1 [(aZ a).getD 0 0*(aZ b).getD f.toNat 0]).length=1)=true from decide_eq_true rfl)<|.i h10<|.e) [1,0,2,3,4,1,5,6,7,8,9,10,11])
theorem zqq (a b:Int) (c:Nat) (d:Int) (g:List Int) (h1:¬(d<(↑((aZ b).length):Int))):zhQ (zeY a b c d g) (Ex.exit 2,(zhR a b c d g)):=LF (LS.at ziE 60 [1] [0,1,5,6,7,8] [0] [0] (.f h1<|.e) [1])
theorem zqv (a b:Int) (h1:0<(↑((aZ a).length):Int)) (hL1:zhQ (zgG a b) (Ex.exit 2,(zlJ a b))) (h3:0≤0) (h4:pAd [] (List.take 0 [])):LG zdV (zdF a b) (zbT a b (0) (1)):=Loops.go (LS.at ziE 60 [] [0,1,5,6] [] [1] (.t h1<|.v [0,1,5,6,7,8] [0] hL1<|.c h3<|.c h4<|.e) (ux [1,1005,2,3,4,0]))
theorem zqw (a b:Int) (d:Nat) (f:Int) (g:List Int) (h1:0<(↑((aZ a).length):Int)) (hL1:zhQ (zgG a b) (Ex.exit 2,(zhR a b d f g))) (h3:d≤g.length) (h4:pAd [] (g.take d)):LG zdV (zdF a b) (zbT a b (0+vl (g.take d)) (1)):=Loops.go (LS.at ziE 60 [] [0,1,5,6] [] [1] (.t h1<|.v [0,1,5,6,7,8] [0] hL1<|.c h3<|.c h4<|.e) (ux [1,1005,2,3,4,0]))
theorem zqx (a b:Int) (h1:¬(0<(↑((aZ a).length):Int))):zdV (zdF a b) (Ex.exit 0,(zlL a b)):=LF (LS.at ziE 60 [] [0,1,5,6] [] [0] (.f h1<|.e) [1])
abbrev zgg (s:St) (r:Ex × St):Prop:=Loops 1 tP (kZ tP 90 1) s r
abbrev zeZ (a b c d:Int) (e:Nat) (f:List Int):St:=⟨sp 44 [(0,.ni a),(1,.ni b),(5,.ni c),(6,aI d),(7,.own 0 0 e 1),(8,aI 0)],[.ints f true],[0]⟩
abbrev ze0 (a b c d:Int) (e:Nat) (f:List Int) (g:Nat) (i:Int) (j:List Int):St:=⟨sp 44 [(0,.ni a),(1,.ni b),(5,.ni c),(6,aI d),(7,.own 1 0 g 1),(8,aI i)],[.dead,.ints j true],[0]⟩
abbrev zlK (a b c d:Int) (e:Nat) (f:List Int):St:=⟨sp 44 [(0,.ni a),(1,.ni b),(5,.ni c),(6,aI d),(7,.own 0 0 e 1),(8,aI 0)],[.ints f true],[0]⟩
abbrev ze1 (a b c d:Int) (e:Nat) (f:List Int) (g:Nat) (i:Int) (j:List Int):St:=⟨sp 44 [(0,.ni a),(1,.ni b),(5,.ni c),(6,aI d),(7,.own 1 0 g 1),(8,aI i)],[.dead,.ints j true],[0]⟩
theorem zqr (a b d f:Int) (g:Nat) (j:List Int) (h1:0<(↑((aZ b).length):Int)) (h2:0≤f) (h3:f<(↑((aZ a).length):Int)) (h4:f.toNat<(aZ a).length) (h5:0<(aZ b).length) (h6:r64 ((aZ a).getD f.toNat 0*(aZ b).getD 0 0)) (h7:(g+1)*8≤140737488355328) (h8:g+1≤4611686018427387904) (h9:g≤j.length):LG zgg (zeZ a b d f g j) (ze0 a b d f g j (g+1) (1) (j.take g++List.take 1 [(aZ a).getD f.toNat 0*(aZ b).getD 0 0])):=Loops.go (LS.at ziE 60 [2] [0,1,5,6,7,8] [0] [1] (.t h1<|.t h2<|.t h3<|.t h4<|.t h5<|.i h6<|.t h7<|.t h8<|.t h9<|.c (show decide ((List.take 1 [(aZ a).getD f.toNat 0*(aZ b).getD 0 0]).length=1)=true from decide_eq_true rfl)<|.e) [1,2,3,4,0,1,5,6,7,8,9,10,0])
theorem zqs (a b c d:Int) (g:Nat) (i:List Int) (h1:¬(0<(↑((aZ b).length):Int))):zgg (zeZ a b c d g i) (Ex.exit 2,(zlK a b c d g i)):=LF (LS.at ziE 60 [] [0,1,5,6,7,8] [0] [0] (.f h1<|.e) [1])
theorem zqt (a b d f:Int) (g:Nat) (j:List Int) (l:Nat) (m:Int) (n:List Int) (h1:m<(↑((aZ b).length):Int)) (h2:0≤f) (h3:f<(↑((aZ a).length):Int)) (h4:f.toNat<(aZ a).length) (h5:0≤m) (h6:m.toNat<(aZ b).length) (h7:r64 ((aZ a).getD f.toNat 0*(aZ b).getD m.toNat 0)) (h8:(l+1)*8≤140737488355328) (h9:l+1≤4611686018427387904) (h10:l≤n.length) (h11:r64 (m+1)):LG zgg (ze0 a b d f g j l m n) (ze0 a b d f g j (l+1) (m+1) (n.take l++List.take 1 [(aZ a).getD f.toNat 0*(aZ b).getD m.toNat 0])):=Loops.go (LS.at ziE 60 [3] [0,1,5,6,7,8] [0] [1] (.t h1<|.t h2<|.t h3<|.t h4<|.t h5<|.t h6<|.i h7<|.t h8<|.t h9<|.t h10<|.c (show decide ((List.take 1 [(aZ a).getD f.toNat 0*(aZ b).getD m.toNat 0]).length=1)=true from decide_eq_true rfl)<|.i h11<|.e) [1,2,3,4,5,1,6,7,8,9,10,11,12])
theorem zqu (a b c d:Int) (g:Nat) (i:List Int) (j:Nat) (l:Int) (m:List Int) (h1:¬(l<(↑((aZ b).length):Int))):zgg (ze0 a b c d g i j l m) (Ex.exit 2,(ze1 a b c d g i j l m)):=LF (LS.at ziE 60 [1] [0,1,5,6,7,8] [0] [0] (.f h1<|.e) [1])
theorem zqy (a b d f:Int) (h1:f<(↑((aZ a).length):Int)) (h2:0≤f) (h3:f≤f) (h4:8*f≤281474976710656) (h5:f≤9223372036854775807) (hL1:zgg (zeZ a b d f f.toNat (zaj f.toNat)) (Ex.exit 2,(zlK a b d f f.toNat (zaj f.toNat)))) (h7:f.toNat≤(zaj f.toNat).length) (h8:pAd (aZ d) ((zaj f.toNat).take f.toNat)) (h9:r64 (f+1)):LG zdV (zbT a b d f) (zbT a b (vl (aZ d)+vl ((zaj f.toNat).take f.toNat)) (f+1)):=Loops.go (LS.at ziE 60 [] [0,1,5,6] [] [1] (.t h1<|.t h2<|.t h3<|.t h4<|.t h5<|.v [0,1,5,6,7,8] [0] hL1<|.c h7<|.c h8<|.i h9<|.e) [1,2,3,4,5,0,6,7,8,9])
theorem zqz (a b d f:Int) (g:Nat) (j:Int) (l:List Int) (h1:f<(↑((aZ a).length):Int)) (h2:0≤f) (h3:f≤f) (h4:8*f≤281474976710656) (h5:f≤9223372036854775807) (hL1:zgg (zeZ a b d f f.toNat (zaj f.toNat)) (Ex.exit 2,(ze1 a b d f f.toNat (zaj f.toNat) g j l))) (h7:g≤l.length) (h8:pAd (aZ d) (l.take g)) (h9:r64 (f+1)):LG zdV (zbT a b d f) (zbT a b (vl (aZ d)+vl (l.take g)) (f+1)):=Loops.go (LS.at ziE 60 [] [0,1,5,6] [] [1] (.t h1<|.t h2<|.t h3<|.t h4<|.t h5<|.v [0,1,5,6,7,8] [0] hL1<|.c h7<|.c h8<|.i h9<|.e) [1,2,3,4,5,0,6,7,8,9])
theorem zqA (a b c d:Int) (h1:¬(d<(↑((aZ a).length):Int))):zdV (zbT a b c d) (Ex.exit 0,(ze2 a b c d)):=LF (LS.at ziE 60 [] [0,1,5,6] [] [0] (.f h1<|.e) [1])
theorem rml_0 (x y:List Int) (h1:pNm x) (h2:pNm y) (hL1:zdV (zdF (vl x) (vl y)) (Ex.exit 0,(zlL (vl x) (vl y)))) (h4:pNm []):FC tP 90 [.sq x,.sq y] (.ni 0):=dZ ziE 60 [] (.c h1<|.c h2<|.v [0,1,5,6] [] hL1<|.c h4<|.e) [1,2,0,3,4]
theorem rml_1 (x y:List Int) (a b:Int) (h1:pNm x) (h2:pNm y) (hL1:zdV (zdF (vl x) (vl y)) (Ex.exit 0,(ze2 (vl x) (vl y) a b))) (h4:pNm (aZ a)):FC tP 90 [.sq x,.sq y] (.ni (vl (aZ a))):=dZ ziE 60 [] (.c h1<|.c h2<|.v [0,1,5,6] [] hL1<|.c h4<|.e) [1,2,0,3,4]
end
theorem znc (l:List Int):trm (l.map fun d=>-d)=(trm l).map fun d=>-d:=by
 induction l with
 | nil=>rfl
 | cons d l ih=>
  simp only [List.map_cons,trm,ih,List.map_eq_nil_iff]
  by_cases h:trm l=[]∧d=0
  ·rw [if_pos h,if_pos ⟨h.1,by omega⟩];rfl
  ·rw [if_neg h,if_neg (fun hh=>h ⟨hh.1,by omega⟩)];rfl
theorem zl5 (z:Int):trm (aZ z)=aZ z:=by
 unfold aZ
 split
 ·rw [znc,zcI]
 ·exact zcI _
theorem nform_neg (z:Int):(aZ z).map (fun d=>-d)=aZ (-z):=by
 unfold aZ
 by_cases h:z<0
 ·rw [if_pos h,if_neg (by omega),Int.natAbs_neg]
  generalize digs z.natAbs=l
  induction l with
  | nil=>rfl
  | cons d l ih=>simp only [List.map_cons,Int.neg_neg,ih]
 ·by_cases h0:z=0
  ·subst h0;simp [QZ]
  ·rw [if_neg h,if_pos (by omega),Int.natAbs_neg]
theorem zlX (z:Int):zlW true (aZ z)=aZ (-z):=by unfold zlW;simp only [zl5,nform_neg]
theorem zrk (z:Int):zlW false (aZ z)=aZ z:=by unfold zlW;simp only [zl5]
theorem zlA {z:Int} (h:Sz 1000000 z):pSg (aZ z):=⟨by rw [gZ];have:=zhb h;omega,fun d hd=>by have:=zc2 z d hd;omega⟩
theorem FC.sqNi {P:Program} {f:FuncId} {args:List AV} {l:List Int} {z:Int} (h:FC P f args (.sq l)) (e:l=aZ z):FC P f args (.ni z):=h.res fun E v hr=>hr.toNi rfl e
theorem rsize_fc (z:Int) (h:pNg z):FC tP 168 [.ni z] (.ni (z.natAbs:Int)):=by
 refine FC.sqNi (rsz_0 z h (zlA h)) ?_
 by_cases hz:z<0
 ·rw [decide_eq_true hz,zlX];congr 1;omega
 ·rw [decide_eq_false hz,zrk];congr 1;omega
def pX (x:List Int):Prop:=pQ 400000 x
theorem pX.nm {x:List Int} (h:pX x):pNm x:=pQ.mono h (by decide)
theorem pX.s {x:List Int} (h:pX x):Sz 1000000 (vl x):=(pQ.sz h).mono (by decide)
theorem rNeg_fc (x:List Int) (h:pX x):FC tP 131 [.sq x] (.ni (-vl x)):=
 FC.sqNi (rng_0 x h.nm (zlA h.s)) (zlX _)
theorem rSign_fc (x:List Int) (h:pX x):FC tP 117 [.sq x] (lI (vl x).sign):=by
 have hl:=gZ (vl x)
 by_cases h0:vl x=0
 ·rw [h0];exact rsg_0 x h.nm (by rw [hl,h0];rfl)
 ·have hd:dl (vl x)≠0:=fun h=>h0 (dl_zero.1 h)
  by_cases h1:vl x<0
  ·rw [Int.sign_eq_neg_one_of_neg h1];exact rsg_1 x h.nm (by omega) h.s h1
  ·rw [Int.sign_eq_one_of_pos (by omega)];exact rsg_2 x h.nm (by omega) h.s h1
def ze6 (i:Nat) (d:Int) (Y:List Int) (j:Nat):List Int:=List.replicate i 0++(Y.take j).map fun e=>d*e
theorem ze7 {i:Nat} {d:Int} {Y:List Int} {j:Nat} (h:j<Y.length):ze6 i d Y (j+1)=ze6 i d Y j++[d*Y.getD j 0]:=by
 unfold ze6
 rw [List.take_succ_eq_append_getElem h,List.map_append,← List.append_assoc]
 simp [List.getD,h]
theorem zbE {i:Nat} {d:Int} {Y:List Int} {j:Nat} (h:j≤Y.length):(ze6 i d Y j).length=i+j:=by
 unfold ze6;simp;omega
theorem vl_rep (i:Nat):vl (List.replicate i (0:Int))=0:=by
 induction i with
 | zero=>rfl
 | succ i ih=>simp only [List.replicate_succ,vl,ih];rfl
theorem vl_scale (d:Int) (Y:List Int):vl (Y.map fun e=>d*e)=d*vl Y:=by
 induction Y with
 | nil=>simp [vl]
 | cons y Y ih=>simp only [List.map_cons,vl,ih];grind
theorem vl_rowM (i:Nat) (d:Int) (Y:List Int):vl (ze6 i d Y Y.length)=100000000 ^ i*(d*vl Y):=by
 unfold ze6
 rw [zaK,vl_rep,List.length_replicate,List.take_length,vl_scale];omega
theorem zhp {p q:Int} (hp:-100000000<p∧p<100000000) (hq:-100000000<q∧q<100000000):-10000000000000000≤p*q∧p*q≤10000000000000000:=by
 have h:(p*q).natAbs≤100000000*100000000:=by rw [Int.natAbs_mul];exact Nat.mul_le_mul (by omega) (by omega)
 omega
theorem rm_in (a b c:Int) (i:Nat) (n7:Nat) (lr0:List Int) (hi:i<dl a) (ha:dl a≤200000) (hb:dl b≤200000):∀(m j:Nat),j+m=dl b →
 zgg (ze0 a b c i n7 lr0 (i+j) j (ze6 i ((aZ a).getD i 0) (aZ b) j)) (.exit 2,ze1 a b c i n7 lr0 (i+dl b) (dl b:Nat) (ze6 i ((aZ a).getD i 0) (aZ b) (dl b)))
 | 0,j,hj=>by
  have:j=dl b:=by omega
  subst this
  have lb:=gZ b
  exact zqu a b c i n7 lr0 _ _ _ (by omega)
 | m+1,j,hj=>by
  have la:=gZ a
  have lb:=gZ b
  have ih:=rm_in a b c i n7 lr0 hi ha hb m (j+1) (by omega)
  have h1:Int.toNat (i:Int)=i:=by omega
  have h2:Int.toNat (j:Int)=j:=by omega
  have hm:=zhp (CZ a i) (CZ b j)
  have hl:=zbE (i:=i) (d:=(aZ a).getD i 0) (Y:=aZ b) (j:=j) (by omega)
  have hc:((j+1:Nat):Int)=(j:Int)+1:=by omega
  rw [ze7 (by omega),hc,← Nat.add_assoc] at ih
  refine zqt a b c i n7 lr0 (i+j) j _ (by omega) (by omega) (by omega) (by omega) (by omega) (by omega) (by rw [h1,h2];omega) (by omega) (by omega) (by omega) (by omega) ?_
  rw [h1,h2]
  have:=zfT (ze6 i ((aZ a).getD i 0) (aZ b) j) ((aZ a).getD i 0*(aZ b).getD j 0)
  rw [hl] at this
  rw [this];exact ih
theorem rm_in0 (a b:Int) (h0:0<dl a) (ha:dl a≤200000) (hb:dl b≤200000):∀(m j:Nat),j+m=dl b →
 zhQ (zeY a b j j (ze6 0 ((aZ a).getD 0 0) (aZ b) j)) (.exit 2,zhR a b (dl b) (dl b:Nat) (ze6 0 ((aZ a).getD 0 0) (aZ b) (dl b)))
 | 0,j,hj=>by
  have:j=dl b:=by omega
  subst this
  have lb:=gZ b
  exact zqq a b _ _ _ (by omega)
 | m+1,j,hj=>by
  have la:=gZ a
  have lb:=gZ b
  have ih:=rm_in0 a b h0 ha hb m (j+1) (by omega)
  have h2:Int.toNat (j:Int)=j:=by omega
  have hm:=zhp (CZ a 0) (CZ b j)
  have hl:=zbE (i:=0) (d:=(aZ a).getD 0 0) (Y:=aZ b) (j:=j) (by omega)
  have hc:((j+1:Nat):Int)=(j:Int)+1:=by omega
  rw [ze7 (by omega),hc] at ih
  refine zqp a b j j _ (by omega) (by omega) (by omega) (by omega) (by omega) (by rw [h2];omega) (by omega) (by omega) (by omega) (by omega) ?_
  rw [h2]
  have:=zfT (ze6 0 ((aZ a).getD 0 0) (aZ b) j) ((aZ a).getD 0 0*(aZ b).getD j 0)
  rw [hl,Nat.zero_add] at this
  rw [this];exact ih
theorem take_sz (a:Int) (i:Nat):Sz i (vl ((aZ a).take i)):=by
 have key:∀l:List Int,Digs l→(vl (l.take i)).natAbs<100000000 ^ i:=by
  intro l hl
  have t:Digs (l.take i):=fun d h=>hl d (List.mem_of_mem_take h)
  have h1:=zfW t
  have h2:=FZ t
  have h3:(100000000:Nat) ^ (l.take i).length≤100000000 ^ i:=Nat.pow_le_pow_right (by decide) (by simp;omega)
  have h4:((100000000 ^ (l.take i).length:Nat):Int)=(100000000:Int) ^ (l.take i).length:=Int.natCast_pow 100000000 _
  omega
 unfold Sz aZ
 split
 ·rw [← List.map_take,vl_neg,Int.natAbs_neg]
  exact key _ (oZ _)
 ·exact key _ (oZ _)
theorem row_pQ (i:Nat) (d:Int) (b:Int) (j:Nat) (hd:-100000000<d∧d<100000000) (hj:j≤dl b) (h:i+j≤400000):pQ 400000 (ze6 i d (aZ b) j):=by
 refine ⟨by rw [zbE (by rw [gZ];exact hj)];exact h,fun e he=>?_⟩
 unfold ze6 at he
 rcases List.mem_append.1 he with h1 | h1
 ·have:=List.eq_of_mem_replicate h1
  unfold cZ;omega
 ·obtain ⟨q,hq,rfl⟩:=List.mem_map.1 h1
  have:=zhp hd (zc2 b q (List.mem_of_mem_take hq))
  unfold cZ;omega
theorem rm_out (a b:Int) (ha:dl a≤150000) (hb:dl b≤150000):∀(m i:Nat),i+m=dl a →
    zdV (zbT a b (vl ((aZ a).take i)*b) i) (.exit 0,ze2 a b (a*b) (dl a:Nat))
  | 0,i,hi=>by
    have:i=dl a:=by omega
    subst this
    have la:=gZ a
    rw [List.take_of_length_le (by omega),bZ]
    exact zqA a b _ _ (by omega)
  | m + 1,i,hi=>by
    have la:=gZ a
    have lb:=gZ b
    have ih:=rm_out a b ha hb m (i+1) (by omega)
    have h1:Int.toNat (i:Int)=i:=by omega
    have hlt:i<(aZ a).length:=by omega
    have hg:(aZ a)[i]=(aZ a).getD i 0:=by simp [List.getD,hlt]
    have hlen:((aZ a).take i).length=i:=by simp;omega
    have hsz:Sz 400000 (vl ((aZ a).take i)*b):=((take_sz a i).mul (show Sz (dl b) b from zjD b.natAbs)).mono (by omega)
    have hpq:pQ 400000 (aZ (vl ((aZ a).take i)*b)):=fZ hsz (Nat.le_refl _)
    have hc:((i+1:Nat):Int)=(i:Int)+1:=by omega
    rw [List.take_succ_eq_append_getElem hlt,hg,zbG,hlen,hc] at ih
    have hd:=CZ a i
    by_cases h0:dl b=0
    · have hb0:b=0:=dl_zero.1 h0
      have hrow:List.take i (List.replicate i (0:Int))=List.replicate i 0:=List.take_of_length_le (by simp)
      refine zqy a b _ i (by omega) (by omega) (by omega) (by omega) (by omega) (zqs a b _ i _ _ (by omega)) (by simp) ?_ (by omega) ?_<;>rw [h1,hrow]
      · exact ⟨hpq,⟨by simp;omega,fun d hd=>by have:=List.eq_of_mem_replicate hd;unfold cZ;omega⟩⟩
      · rw [bZ,vl_rep,hb0]
        rw [hb0] at ih
        simpa using ih
    · have hL2:zgg (zeZ a b (vl ((aZ a).take i)*b) i i (List.replicate i 0)) (.exit 2,ze1 a b (vl ((aZ a).take i)*b) i i (List.replicate i 0) (i+dl b) (dl b:Nat) (ze6 i ((aZ a).getD i 0) (aZ b) (dl b))):=by
        have hk:=rm_in a b (vl ((aZ a).take i)*b) i i (List.replicate i 0) (by omega) (by omega) (by omega) (dl b-1) 1 (by omega)
        rw [ze7 (by omega)] at hk
        have hm:=zhp (CZ a i) (CZ b 0)
        have e0:ze6 i ((aZ a).getD i 0) (aZ b) 0=List.replicate i 0:=by simp [ze6]
        rw [e0] at hk
        refine zqr a b _ i i _ (by omega) (by omega) (by omega) (by omega) (by omega) (by rw [h1];omega) (by omega) (by omega) (by simp) ?_
        rw [h1]
        have:=zfT (List.replicate i (0:Int)) ((aZ a).getD i 0*(aZ b).getD 0 0)
        rw [List.length_replicate] at this
        rw [this];exact hk
      have hlr:(ze6 i ((aZ a).getD i 0) (aZ b) (dl b)).length=i+dl b:=zbE (by omega)
      have htk:List.take (i+dl b) (ze6 i ((aZ a).getD i 0) (aZ b) (dl b))=ze6 i ((aZ a).getD i 0) (aZ b) (dl b):=List.take_of_length_le (by omega)
      have hv:vl (ze6 i ((aZ a).getD i 0) (aZ b) (dl b))=100000000 ^ i*((aZ a).getD i 0*b):=by
        have:=vl_rowM i ((aZ a).getD i 0) (aZ b)
        rw [lb,bZ] at this;exact this
      refine zqz a b _ i (i+dl b) (dl b:Nat) (ze6 i ((aZ a).getD i 0) (aZ b) (dl b)) (by omega) (by omega) (by omega) (by omega) (by omega) (by rw [h1];exact hL2) (by omega) ?_ (by omega) ?_
      · rw [htk];exact ⟨hpq,row_pQ _ _ _ _ hd (Nat.le_refl _) (by omega)⟩
      · rw [htk,bZ,hv]
        have e:vl ((aZ a).take i)*b+100000000 ^ i*((aZ a).getD i 0*b)=(vl ((aZ a).take i)+100000000 ^ i*(aZ a).getD i 0)*b:=by grind
        rw [e];exact ih
def pMu (x y:List Int):Prop:=pQ 100000 x∧pQ 100000 y
theorem rMul_fc (x y:List Int) (h:pMu x y):FC tP 90 [.sq x,.sq y] (.ni (vl x*vl y)):=by
 obtain ⟨hx,hy⟩:=h
 have px:pNm x:=hx.mono (by decide)
 have py:pNm y:=hy.mono (by decide)
 have da:=zhb hx.sz
 have db:=zhb hy.sz
 have hz:=hx.sz.mul hy.sz
 have hpn:pNm (aZ (vl x*vl y)):=fZ hz (by decide)
 have fin:∀t,zdV (zdF (vl x) (vl y)) (.exit 0,ze2 (vl x) (vl y) (vl x*vl y) t)→FC tP 90 [.sq x,.sq y] (.ni (vl x*vl y)):=fun t hL=>by
  have:=rml_1 x y (vl x*vl y) t px py hL hpn
  rwa [bZ] at this
 have lx:=gZ (vl x)
 have ly:=gZ (vl y)
 by_cases h0:dl (vl x)=0
 ·have hx0:vl x=0:=dl_zero.1 h0
  have:=rml_0 x y px py (zqx _ _ (by omega)) ⟨by simp,fun d hd=>by cases hd⟩
  rw [hx0,Int.zero_mul];exact this
 ·have hlt:0<(aZ (vl x)).length:=by omega
  have ho:=rm_out (vl x) (vl y) (by omega) (by omega) (dl (vl x)-1) 1 (by omega)
  have hg:(aZ (vl x))[0]=(aZ (vl x)).getD 0 0:=by simp [List.getD,hlt]
  have ht:vl ((aZ (vl x)).take 1)=(aZ (vl x)).getD 0 0:=by
   rw [List.take_succ_eq_append_getElem hlt,hg];simp [vl]
  rw [ht] at ho
  by_cases hb0:dl (vl y)=0
  ·have hy0:vl y=0:=dl_zero.1 hb0
   refine fin (dl (vl x):Nat) (zqv _ _ (by omega) (zqo _ _ (by omega)) (by omega) ⟨⟨by simp,fun d hd=>by cases hd⟩,⟨by simp,fun d hd=>by simp at hd⟩⟩ ?_)
   rw [hy0] at ho ⊢
   simpa using ho
  ·have hk:=rm_in0 (vl x) (vl y) (by omega) (by omega) (by omega) (dl (vl y)-1) 1 (by omega)
   have hm:=zhp (CZ (vl x) 0) (CZ (vl y) 0)
   have e1:ze6 0 ((aZ (vl x)).getD 0 0) (aZ (vl y)) 1=[(aZ (vl x)).getD 0 0*(aZ (vl y)).getD 0 0]:=by rw [ze7 (by omega)];simp [ze6]
   rw [e1] at hk
   have hL0:=zqn (vl x) (vl y) (by omega) (by omega) (by omega) (by omega) (by omega) hk
   have hlr:(ze6 0 ((aZ (vl x)).getD 0 0) (aZ (vl y)) (dl (vl y))).length=dl (vl y):=by rw [zbE (by omega)];omega
   have htk:List.take (dl (vl y)) (ze6 0 ((aZ (vl x)).getD 0 0) (aZ (vl y)) (dl (vl y)))=ze6 0 ((aZ (vl x)).getD 0 0) (aZ (vl y)) (dl (vl y)):=List.take_of_length_le (by omega)
   have hv:vl (ze6 0 ((aZ (vl x)).getD 0 0) (aZ (vl y)) (dl (vl y)))=(aZ (vl x)).getD 0 0*vl y:=by
    have:=vl_rowM 0 ((aZ (vl x)).getD 0 0) (aZ (vl y))
    rw [ly,bZ] at this
    simpa using this
   refine fin (dl (vl x):Nat) (zqw _ _ (dl (vl y)) (dl (vl y):Nat) _ (by omega) hL0 (by omega) ?_ ?_)
   ·rw [htk];exact ⟨⟨by simp,fun d hd=>by cases hd⟩,row_pQ _ _ _ _ (CZ _ _) (Nat.le_refl _) (by omega)⟩
   ·rw [htk,hv]
    simpa using ho
def ctrF5:Ctr:=(168,n1 pNg (fun z=>.ni (z.natAbs:Int))) :: (131,cL pX (fun x=>.ni (-vl x))) :: (117,cL pX (fun x=>lI (vl x).sign)) :: (90,cLL pMu (fun x y=>.ni (vl x*vl y))) :: ctrF4
theorem zkS:∀p∈ctrF5,jZ tP p.1 p.2:=CAll.cons (n1_ok rsize_fc)<|CAll.cons (zjt rNeg_fc)<|CAll.cons (zjt rSign_fc)<|CAll.cons (zbu rMul_fc) zkR
theorem okF5:(eZ tP ctrF5 bw).OK:=JZ zkS
noncomputable section
theorem rsb_0 (x y:List Int) (h1:pX y) (h2:pAd x (aZ (-vl y))):FC tP 134 [.sq x,.sq y] (.ni (vl x+vl (aZ (-vl y)))):=dZ okF5 60 [] (.c h1<|.c h2<|.e) [1,2]
end
def pSu (x y:List Int):Prop:=pQ 390000 x∧pQ 390000 y
theorem rSub_fc (x y:List Int) (h:pSu x y):FC tP 134 [.sq x,.sq y] (.ni (vl x-vl y)):=by
 have:=rsb_0 x y (h.2.mono (by decide)) ⟨h.1.mono (by decide),fZ h.2.sz.neg (by decide)⟩
 rw [bZ,← Int.sub_eq_add_neg] at this
 exact this
def ctrF6:Ctr:=(134,cLL pSu (fun x y=>.ni (vl x-vl y))) :: ctrF5
theorem ctrF6_all:∀p∈ctrF6,jZ tP p.1 p.2:=CAll.cons (zbu rSub_fc) zkS
noncomputable section
end
theorem v1 (d:Int):vl (List.take 1 [d])=d:=by simp [vl]
noncomputable section
end
def inI (z:Int):Prop:=-9223372036854775808≤z∧z≤9223372036854775807
instance {z:Int}:Decidable (inI z):=inferInstanceAs (Decidable (_∧_))
def ctrF8:Ctr:=ctrF6
theorem ctrF8_all:∀p∈ctrF8,jZ tP p.1 p.2:=ctrF6_all
def ctrG:Ctr:=ctrF8++ctrX
theorem znz:∀p∈ctrG,jZ tP p.1 p.2:=fun p hp=>by
 rcases List.mem_append.1 hp with h | h
 ·exact ctrF8_all p h
 ·exact znC p h
theorem okG:(eZ tP ctrG bw).OK:=JZ znz
noncomputable section
end
noncomputable section
abbrev rv_L0 (s:St) (r:Ex × St):Prop:=Loops 0 tP (kZ tP 140 0) s r
abbrev zh3 (a:List Int) (b c d:Int):St:=⟨sp 23 [(0,.sq a),(1,aI b),(5,aI c),(6,aI d)],[],[]⟩
abbrev zkm (a:List Int) (b c d:Int):St:=⟨sp 23 [(0,.sq a),(1,aI b),(5,aI c),(6,aI d)],[],[]⟩
theorem rv_L0_0_0 (a:List Int) (b c d:Int) (h1:d≥0) (h2:r64 (c*b)) (h3:0≤d) (h4:d<(a.length:Int)) (h5:d.toNat<a.length) (h6:r64 (c*b+a.getD d.toNat 0)) (h7:r64 (d-1)):LG rv_L0 (zh3 a b c d) (zh3 a b (c*b+a.getD d.toNat 0) (d-1)):=Loops.go (LS.at okG 60 [] [0,1,5,6] [] [1] (.t h1<|.i h2<|.t h3<|.t h4<|.t h5<|.i h6<|.i h7<|.e) [1,2,3,4,5,6,7])
theorem rv_L0_0_1 (a:List Int) (b c d:Int) (h1:¬(d≥0)):rv_L0 (zh3 a b c d) (Ex.exit 0,(zkm a b c d)):=LF (LS.at okG 60 [] [0,1,5,6] [] [0] (.f h1<|.e) [1])
theorem rv_0 (p:List Int) (x a b:Int) (h1:r64 ((p.length:Int)-1)) (hL1:rv_L0 (zh3 p x (0) ((p.length:Int)-1)) (Ex.exit 0,(zkm p x a b))):FC tP 140 [.sq p,lI x] (aI a):=dZ okG 60 [] (.i h1<|.v [0,1,5,6] [] hL1<|.e) [1,0,2]
theorem fv2_0 (a b x:Int):FunI (eZ tP ctrG bw) 60 150 [.sq [a,b],lI x] [] [] [0,1,2,3,4] (aI ((0*x+List.getD [a,b] 1 0)*x+List.getD [a,b] 0 0)) [inR .i64 (0*x)=true,inR .i64 (0*x+List.getD [a,b] 1 0)=true,inR .i64 ((0*x+List.getD [a,b] 1 0)*x)=true,inR .i64 ((0*x+List.getD [a,b] 1 0)*x+List.getD [a,b] 0 0)=true]:={}
theorem fv3_0 (a b c x:Int):FunI (eZ tP ctrG bw) 60 150 [.sq [a,b,c],lI x] [] [] [0,1,2,3,4,5,6] (aI (((0*x+List.getD [a,b,c] 2 0)*x+List.getD [a,b,c] 1 0)*x+List.getD [a,b,c] 0 0)) [inR .i64 (0*x)=true,inR .i64 (0*x+List.getD [a,b,c] 2 0)=true,inR .i64 ((0*x+List.getD [a,b,c] 2 0)*x)=true,inR .i64 ((0*x+List.getD [a,b,c] 2 0)*x+List.getD [a,b,c] 1 0)=true,inR .i64 (((0*x+List.getD [a,b,c] 2 0)*x+List.getD [a,b,c] 1 0)*x)=true,inR .i64 (((0*x+List.getD [a,b,c] 2 0)*x+List.getD [a,b,c] 1 0)*x+List.getD [a,b,c] 0 0)=true]:={}
theorem fv4_0 (a b c d x:Int):FunI (eZ tP ctrG bw) 60 150 [.sq [a,b,c,d],lI x] [] [] [0,1,2,3,4,5,6,7,8] (aI ((((0*x+List.getD [a,b,c,d] 3 0)*x+List.getD [a,b,c,d] 2 0)*x+List.getD [a,b,c,d] 1 0)*x+List.getD [a,b,c,d] 0 0)) [inR .i64 (0*x)=true,inR .i64 (0*x+List.getD [a,b,c,d] 3 0)=true,inR .i64 ((0*x+List.getD [a,b,c,d] 3 0)*x)=true,inR .i64 ((0*x+List.getD [a,b,c,d] 3 0)*x+List.getD [a,b,c,d] 2 0)=true,inR .i64 (((0*x+List.getD [a,b,c,d] 3 0)*x+List.getD [a,b,c,d] 2 0)*x)=true,inR .i64 (((0*x+List.getD [a,b,c,d] 3 0)*x+List.getD [a,b,c,d] 2 0)*x+List.getD [a,b,c,d] 1 0)=true,inR .i64 ((((0*x+List.getD [a,b,c,d] 3 0)*x+List.getD [a,b,c,d] 2 0)*x+List.getD [a,b,c,d] 1 0)*x)=true,inR .i64 ((((0*x+List.getD [a,b,c,d] 3 0)*x+List.getD [a,b,c,d] 2 0)*x+List.getD [a,b,c,d] 1 0)*x+List.getD [a,b,c,d] 0 0)=true]:={}
theorem fv5_0 (a b c d e x:Int):FunI (eZ tP ctrG bw) 60 150 [.sq [a,b,c,d,e],lI x] [] [] [0,1,2,3,4,5,6,7,8,9,10] (aI (((((0*x+List.getD [a,b,c,d,e] 4 0)*x+List.getD [a,b,c,d,e] 3 0)*x+List.getD [a,b,c,d,e] 2 0)*x+List.getD [a,b,c,d,e] 1 0)*x+List.getD [a,b,c,d,e] 0 0)) [inR .i64 (0*x)=true,inR .i64 (0*x+List.getD [a,b,c,d,e] 4 0)=true,inR .i64 ((0*x+List.getD [a,b,c,d,e] 4 0)*x)=true,inR .i64 ((0*x+List.getD [a,b,c,d,e] 4 0)*x+List.getD [a,b,c,d,e] 3 0)=true,inR .i64 (((0*x+List.getD [a,b,c,d,e] 4 0)*x+List.getD [a,b,c,d,e] 3 0)*x)=true,inR .i64 (((0*x+List.getD [a,b,c,d,e] 4 0)*x+List.getD [a,b,c,d,e] 3 0)*x+List.getD [a,b,c,d,e] 2 0)=true,inR .i64 ((((0*x+List.getD [a,b,c,d,e] 4 0)*x+List.getD [a,b,c,d,e] 3 0)*x+List.getD [a,b,c,d,e] 2 0)*x)=true,inR .i64 ((((0*x+List.getD [a,b,c,d,e] 4 0)*x+List.getD [a,b,c,d,e] 3 0)*x+List.getD [a,b,c,d,e] 2 0)*x+List.getD [a,b,c,d,e] 1 0)=true,inR .i64 (((((0*x+List.getD [a,b,c,d,e] 4 0)*x+List.getD [a,b,c,d,e] 3 0)*x+List.getD [a,b,c,d,e] 2 0)*x+List.getD [a,b,c,d,e] 1 0)*x)=true,inR .i64 (((((0*x+List.getD [a,b,c,d,e] 4 0)*x+List.getD [a,b,c,d,e] 3 0)*x+List.getD [a,b,c,d,e] 2 0)*x+List.getD [a,b,c,d,e] 1 0)*x+List.getD [a,b,c,d,e] 0 0)=true]:={}
end
def pv:List Int→Int→Int
 | [],_=>0
 | c :: l,x=>pv l x*x+c
theorem vb {v x c:Int} {k:Nat} (hv:v.natAbs+1≤1001 ^ k) (hx:x.natAbs≤1001) (hc:c.natAbs≤1000):(v*x).natAbs+1001≤1001 ^ (k+1)∧(v*x+c).natAbs+1≤1001 ^ (k+1):=by
 have h1:(v*x).natAbs≤v.natAbs*1001:=by rw [Int.natAbs_mul];exact Nat.mul_le_mul_left _ hx
 have h2:v.natAbs*1001+1001≤1001 ^ (k+1):=by rw [Nat.pow_succ];omega
 omega
theorem pow5 {k:Nat} (h:k≤5):1001 ^ k≤1005010010005001:=Nat.le_trans (Nat.pow_le_pow_right (by decide) h) (by decide)
theorem pv_le {x:Int} (hx:x.natAbs≤1001):∀(l:List Int),(∀c∈l,c.natAbs≤1000)→(pv l x).natAbs+1≤1001 ^ l.length
 | [],_=>by simp [pv]
 | c :: l,h=>(vb (pv_le hx l fun d hd=>h d (by simp [hd])) hx (h c (by simp))).2
def cnd (x:Int):Int→List Int→List Prop
 | _,[]=>[]
 | v,c :: l=>(inR IntKind.i64 (v*x)=true) :: (inR IntKind.i64 (v*x+c)=true) :: cnd x (v*x+c) l
theorem zkH {x:Int}:∀ {l:List Int} {v:Int} {k:Nat},v.natAbs+1≤1001 ^ k→x.natAbs≤1001→k+l.length≤5→(∀c∈l,c.natAbs≤1000)→AllC (cnd x v l)
 | [],_,_,_,_,_,_=>.nil
 | c :: l,v,k,hv,hx,hk,h=>by
  simp only [List.length_cons] at hk
  obtain ⟨h1,h2⟩:=vb hv hx (h c (by simp))
  have:=pow5 (k:=k+1) (by omega)
  exact .cons (inR64.2 (by omega)) (.cons (inR64.2 (by omega)) (zkH h2 hx (by omega) fun d hd=>h d (by simp [hd])))
def pPv (p:List Int) (x:Int):Prop:=2≤p.length∧p.length≤5∧(∀c∈p,c.natAbs≤1000)∧x.natAbs≤1001
theorem fval_fc (p:List Int) (x:Int) (h:pPv p x):FC tP 150 [.sq p,lI x] (lI (pv p x)):=by
 obtain ⟨h2,h5,ha,hx⟩:=h
 match p,h2,h5,ha,hx with
 | [a,b],_,_,ha,hx=>exact lZ okG (fv2_0 a b x) ((zkH (l:=[b,a]) (k:=0) (by decide) hx (by simp) (fun c hc=>ha c (by simp at hc ⊢;omega))))
 | [a,b,c],_,_,ha,hx=>exact lZ okG (fv3_0 a b c x) ((zkH (l:=[c,b,a]) (k:=0) (by decide) hx (by simp) (fun c hc=>ha c (by simp at hc ⊢;omega))))
 | [a,b,c,d],_,_,ha,hx=>exact lZ okG (fv4_0 a b c d x) ((zkH (l:=[d,c,b,a]) (k:=0) (by decide) hx (by simp) (fun c hc=>ha c (by simp at hc ⊢;omega))))
 | [a,b,c,d,e],_,_,ha,hx=>exact lZ okG (fv5_0 a b c d e x) ((zkH (l:=[e,d,c,b,a]) (k:=0) (by decide) hx (by simp) (fun c hc=>ha c (by simp at hc ⊢;omega))))
 | _ :: _ :: _ :: _ :: _ :: _ :: _,_,h5,_,_=>simp at h5
theorem zfG {l:List Int} {n:Nat} (h:n<l.length):l.drop n=l.getD n 0 :: l.drop (n+1):=by
 rw [List.drop_eq_getElem_cons h];simp [List.getD,h]
theorem zgi (p:List Int) (x:Int) (hp:p.length≤5) (ha:∀c∈p,c.natAbs≤1000) (hx:x.natAbs≤1001):∀(n:Nat),n≤p.length→rv_L0 (zh3 p x (pv (p.drop n) x) ((n:Int)-1)) (Ex.exit 0,zkm p x (pv p x) (-1))
 | 0,_=>by have:=rv_L0_0_1 p x (pv (p.drop 0) x) (((0:Nat):Int)-1) (by simp);exact this
 | n + 1,hn=>by
  have hlt:n<p.length:=by omega
  have e1:((n+1:Nat):Int)-1=(n:Int):=by omega
  have hv:=pv_le hx (p.drop (n+1)) fun c hc=>ha c (List.mem_of_mem_drop hc)
  have hg:(p.getD n 0).natAbs≤1000:=by
   rw [List.getD_eq_getElem?_getD,List.getElem?_eq_getElem hlt];exact ha _ (List.getElem_mem hlt)
  obtain ⟨b1,b2⟩:=vb hv hx hg
  have hk:(p.drop (n+1)).length+1≤5:=by simp;omega
  have:=pow5 hk
  have ih:=zgi p x hp ha hx n (by omega)
  rw [zfG hlt] at ih
  rw [e1]
  refine rv_L0_0_0 p x _ _ (by omega) (by omega) (by omega) (by omega) (by omega) ?_ (by omega) ?_
  ·rw [Int.toNat_natCast];omega
  ·rw [Int.toNat_natCast];exact ih
theorem rvalue_fc (p:List Int) (x:Int) (h:pPv p x):FC tP 140 [.sq p,lI x] (lI (pv p x)):=by
 have l:=zgi p x h.2.1 h.2.2.1 h.2.2.2 p.length (Nat.le_refl _)
 rw [List.drop_length] at l
 exact rv_0 p x (pv p x) (-1) (by have:=h.2.1;omega) l
def ctrH:Ctr:=(150,cLI pPv (fun p x=>lI (pv p x))) :: (140,cLI pPv (fun p x=>lI (pv p x))) :: ctrG
theorem zjx:∀p∈ctrH,jZ tP p.1 p.2:=CAll.cons (cLI_ok fval_fc) (CAll.cons (cLI_ok rvalue_fc) znz)
theorem okH:(eZ tP ctrH bw).OK:=JZ zjx
def cIP (p:List Int→Int→Prop) (r:List Int→Int→AV) (args:List AV):M AV:=match args with
 | [.lit (.int .i64 n),.pd [.sq l] 0]=>do
  tell (p l n)
  M.pure (r l n)
 | _=>fail 218
theorem cIP_ok {P:Program} {f:FuncId} {p:List Int→Int→Prop} {r:List Int→Int→AV} (h:∀l n,p l n→FC P f [lI n,.pd [.sq l] 0] (r l n)):jZ P f (cIP p r):=by
 intro args _
 unfold cIP
 split
 ·exact Spec.bind (Spec.tell fun hp=>Spec.pure' (h _ _ hp))
 ·exact Spec.fail
noncomputable section
theorem d1_0 (x:Int) (p:List Int) (h1:pPv p x):FC tP 149 [lI x,.pd [.sq p] 0] (.lit (.bool (pv p x==0))):=dZ okH 60 [] (.c h1<|.e) [1]
theorem d2_0 (x:Int) (p:List Int) (h1:0<(p.length:Int)) (h2:0<p.length) (h3:¬(x=0)) (h4:r64 (Int.tdiv (p.getD 0 0) x)) (h5:x≠Int.tdiv (p.getD 0 0) x) (h6:1<(p.length:Int)) (h7:1<p.length) (h8:3<(p.length:Int)) (h9:3<p.length) (h10:r64 (x*p.getD 3 0)) (h11:r64 (p.getD 1 0-x*p.getD 3 0)) (h12:r64 (Int.tdiv (p.getD 0 0) x-x)) (h13:¬(Int.tdiv (p.getD 0 0) x-x=0)) (h14:r64 (Int.tdiv (p.getD 1 0-x*p.getD 3 0) (Int.tdiv (p.getD 0 0) x-x))) (h15:Int.tmod (p.getD 1 0-x*p.getD 3 0) (Int.tdiv (p.getD 0 0) x-x)=0) (h16:r64 (x+Int.tdiv (p.getD 0 0) x)) (h17:r64 (p.getD 3 0-Int.tdiv (p.getD 1 0-x*p.getD 3 0) (Int.tdiv (p.getD 0 0) x-x))) (h18:r64 (Int.tdiv (p.getD 1 0-x*p.getD 3 0) (Int.tdiv (p.getD 0 0) x-x)*(p.getD 3 0-Int.tdiv (p.getD 1 0-x*p.getD 3 0) (Int.tdiv (p.getD 0 0) x-x)))) (h19:r64 (x+Int.tdiv (p.getD 0 0) x+Int.tdiv (p.getD 1 0-x*p.getD 3 0) (Int.tdiv (p.getD 0 0) x-x)*(p.getD 3 0-Int.tdiv (p.getD 1 0-x*p.getD 3 0) (Int.tdiv (p.getD 0 0) x-x)))) (h20:2<(p.length:Int)) (h21:2<p.length):FC tP 151 [lI x,.pd [.sq p] 0] (.lit (.bool (x+Int.tdiv (p.getD 0 0) x+Int.tdiv (p.getD 1 0-x*p.getD 3 0) (Int.tdiv (p.getD 0 0) x-x)*(p.getD 3 0-Int.tdiv (p.getD 1 0-x*p.getD 3 0) (Int.tdiv (p.getD 0 0) x-x))==p.getD 2 0))):=dZ okH 60 [1,1] (.t h1<|.t h2<|.y h3<|.i h4<|.c (bne_iff_ne.2 h5)<|.t h6<|.t h7<|.t h8<|.t h9<|.i h10<|.i h11<|.i h12<|.y h13<|.i h14<|.c (beq_iff_eq.2 h15)<|.i h16<|.i h17<|.i h18<|.i h19<|.t h20<|.t h21<|.e) [0,1,2,3,4,5,0,6,7,0,8,9,10,11,12,13,14,12,13,15,16,0,8,9,17,18,19,0,20,21]
theorem d2_1 (x:Int) (p:List Int) (h1:0<(p.length:Int)) (h2:0<p.length) (h3:¬(x=0)) (h4:r64 (Int.tdiv (p.getD 0 0) x)) (h5:x≠Int.tdiv (p.getD 0 0) x) (h6:1<(p.length:Int)) (h7:1<p.length) (h8:3<(p.length:Int)) (h9:3<p.length) (h10:r64 (x*p.getD 3 0)) (h11:r64 (p.getD 1 0-x*p.getD 3 0)) (h12:r64 (Int.tdiv (p.getD 0 0) x-x)) (h13:¬(Int.tdiv (p.getD 0 0) x-x=0)) (h14:r64 (Int.tdiv (p.getD 1 0-x*p.getD 3 0) (Int.tdiv (p.getD 0 0) x-x))) (h15:Int.tmod (p.getD 1 0-x*p.getD 3 0) (Int.tdiv (p.getD 0 0) x-x)≠0):FC tP 151 [lI x,.pd [.sq p] 0] (.ff):=dZ okH 60 [1,0] (.t h1<|.t h2<|.y h3<|.i h4<|.c (bne_iff_ne.2 h5)<|.t h6<|.t h7<|.t h8<|.t h9<|.i h10<|.i h11<|.i h12<|.y h13<|.i h14<|.c (beq_false_of_ne h15)<|.e) [0,1,2,3,4,5,0,6,7,0,8,9,10,11,12,13,14,12,13,15]
theorem d2_2 (x:Int) (p:List Int) (h1:0<(p.length:Int)) (h2:0<p.length) (h3:¬(x=0)) (h4:r64 (Int.tdiv (p.getD 0 0) x)) (h5:x=Int.tdiv (p.getD 0 0) x) (h6:1<(p.length:Int)) (h7:1<p.length) (h8:3<(p.length:Int)) (h9:3<p.length) (h10:r64 (x*p.getD 3 0)) (h11:p.getD 1 0≠x*p.getD 3 0):FC tP 151 [lI x,.pd [.sq p] 0] (.ff):=dZ okH 60 [0,1] (.t h1<|.t h2<|.y h3<|.i h4<|.c (bne_eq_false_iff_eq.2 h5)<|.t h6<|.t h7<|.t h8<|.t h9<|.i h10<|.c (bne_iff_ne.2 h11)<|.e) [0,1,2,3,4,5,0,6,7,0,8,9,10,11]
abbrev zmw (s:St) (r:Ex × St):Prop:=Loops 0 tP (kZ tP 151 0) s r
abbrev zcY (a:Int) (b:List Int) (c:Int):St:=⟨sp 83 [(0,aI a),(1,.pd [.sq b] 0),(7,aI c)],[],[]⟩
abbrev zjz (a:Int) (b:List Int):St:=⟨sp 83 [(3,.tt)],[],[]⟩
abbrev zjA (a:Int) (b:List Int) (c:Int):St:=⟨sp 83 [(0,aI a),(1,.pd [.sq b] 0),(7,aI c)],[],[]⟩
theorem d2_L0_0_0 (a:Int) (b:List Int) (d:Int) (h1:d≤3000) (h2:r64 (d*d)) (h3:3<(b.length:Int)) (h4:3<b.length) (h5:r64 (b.getD 3 0*d)) (h6:r64 (d*d-b.getD 3 0*d)) (h7:2<(b.length:Int)) (h8:2<b.length) (h9:r64 (d*d-b.getD 3 0*d+b.getD 2 0)) (h10:r64 (2*a)) (h11:r64 (d*d-b.getD 3 0*d+b.getD 2 0-2*a)) (h12:d*d-b.getD 3 0*d+b.getD 2 0-2*a=0):zmw (zcY a b d) (Ex.ret,(zjz a b)):=LF (LS.at okH 60 [] [3] [] [1,1] (.t h1<|.i h2<|.t h3<|.t h4<|.i h5<|.i h6<|.t h7<|.t h8<|.i h9<|.i h10<|.i h11<|.c (beq_iff_eq.2 h12)<|.e) [1,2,0,3,4,5,6,0,7,8,9,10,11,12])
theorem d2_L0_0_1 (a:Int) (b:List Int) (d:Int) (h1:d≤3000) (h2:r64 (d*d)) (h3:3<(b.length:Int)) (h4:3<b.length) (h5:r64 (b.getD 3 0*d)) (h6:r64 (d*d-b.getD 3 0*d)) (h7:2<(b.length:Int)) (h8:2<b.length) (h9:r64 (d*d-b.getD 3 0*d+b.getD 2 0)) (h10:r64 (2*a)) (h11:r64 (d*d-b.getD 3 0*d+b.getD 2 0-2*a)) (h12:d*d-b.getD 3 0*d+b.getD 2 0-2*a≠0) (h13:r64 (d+1)):LG zmw (zcY a b d) (zcY a b (d+1)):=Loops.go (LS.at okH 60 [] [0,1,7] [] [1,0] (.t h1<|.i h2<|.t h3<|.t h4<|.i h5<|.i h6<|.t h7<|.t h8<|.i h9<|.i h10<|.i h11<|.c (beq_false_of_ne h12)<|.i h13<|.e) [1,2,0,3,4,5,6,0,7,8,9,10,11,12,13])
theorem d2_L0_0_2 (a:Int) (b:List Int) (c:Int) (h1:¬(c≤3000)):zmw (zcY a b c) (Ex.exit 0,(zjA a b c)):=LF (LS.at okH 60 [] [0,1,7] [] [0] (.f h1<|.e) [1])
theorem d2_3 (x:Int) (p:List Int) (h1:0<(p.length:Int)) (h2:0<p.length) (h3:¬(x=0)) (h4:r64 (Int.tdiv (p.getD 0 0) x)) (h5:x=Int.tdiv (p.getD 0 0) x) (h6:1<(p.length:Int)) (h7:1<p.length) (h8:3<(p.length:Int)) (h9:3<p.length) (h10:r64 (x*p.getD 3 0)) (h11:p.getD 1 0=x*p.getD 3 0) (hL1:zmw (zcY x p (-3000)) (Ex.ret,(zjz x p))):FC tP 151 [lI x,.pd [.sq p] 0] (.tt):=dZ okH 60 [0,0] (.t h1<|.t h2<|.y h3<|.i h4<|.c (bne_eq_false_iff_eq.2 h5)<|.t h6<|.t h7<|.t h8<|.t h9<|.i h10<|.c (bne_eq_false_iff_eq.2 h11)<|.v [0,1,7] [] hL1<|.e) [0,1,2,3,4,5,0,6,7,0,8,9,10,11,0,12]
theorem d2_4 (x:Int) (p:List Int) (a:Int) (h1:0<(p.length:Int)) (h2:0<p.length) (h3:¬(x=0)) (h4:r64 (Int.tdiv (p.getD 0 0) x)) (h5:x=Int.tdiv (p.getD 0 0) x) (h6:1<(p.length:Int)) (h7:1<p.length) (h8:3<(p.length:Int)) (h9:3<p.length) (h10:r64 (x*p.getD 3 0)) (h11:p.getD 1 0=x*p.getD 3 0) (hL1:zmw (zcY x p (-3000)) (Ex.exit 0,(zjA x p a))):FC tP 151 [lI x,.pd [.sq p] 0] (.ff):=dZ okH 60 [0,0] (.t h1<|.t h2<|.y h3<|.i h4<|.c (bne_eq_false_iff_eq.2 h5)<|.t h6<|.t h7<|.t h8<|.t h9<|.i h10<|.c (bne_eq_false_iff_eq.2 h11)<|.v [0,1,7] [] hL1<|.e) [0,1,2,3,4,5,0,6,7,0,8,9,10,11,0,12]
end
theorem zlp {a b:Int} {A B:Nat} (ha:a.natAbs≤A) (hb:b.natAbs≤B):(a*b).natAbs≤A*B:=by
 rw [Int.natAbs_mul];exact Nat.mul_le_mul ha hb
theorem tdivB (a b:Int):(Int.tdiv a b).natAbs≤a.natAbs:=by
 rw [Int.natAbs_tdiv];exact Nat.div_le_self _ _
theorem zeb {p:List Int} (h:∀c∈p,c.natAbs≤1000) (i:Nat):(p.getD i 0).natAbs≤1000:=by
 rw [List.getD_eq_getElem?_getD]
 by_cases hi:i<p.length
 ·rw [List.getElem?_eq_getElem hi];exact h _ (List.getElem_mem hi)
 ·rw [List.getElem?_eq_none (by omega)];decide
def Q2 (p:List Int) (b:Int):Prop:=∃a:Int,b+Int.tdiv (p.getD 0 0) b+a*(p.getD 3 0-a)=p.getD 2 0∧a*Int.tdiv (p.getD 0 0) b+b*(p.getD 3 0-a)=p.getD 1 0
noncomputable def q2 (p:List Int) (b:Int):Bool:=@decide (Q2 p b) (Classical.propDecidable _)
theorem q2_t {p:List Int} {b:Int} (h:Q2 p b):q2 p b=true:=by unfold q2;exact @decide_eq_true _ (Classical.propDecidable _) h
theorem zrW {p:List Int} {b:Int} (h:¬Q2 p b):q2 p b=false:=by unfold q2;exact @decide_eq_false _ (Classical.propDecidable _) h
theorem q2_iff {p:List Int} {b:Int}:q2 p b=true↔Q2 p b:=by unfold q2;exact @decide_eq_true_iff _ (Classical.propDecidable _)
def pD2 (p:List Int) (b:Int):Prop:=p.length=5∧(∀c∈p,c.natAbs≤1000)∧b≠0∧b.natAbs≤1000
theorem d2_loop {p:List Int} {b:Int} (h:pD2 p b):∀(n:Nat) (t:Int),t+n=3001→-3000≤t →
 (∃a,t≤a∧a≤3000∧a*a-p.getD 3 0*a+p.getD 2 0-2*b=0)∧zmw (zcY b p t) (Ex.ret,zjz b p) ∨
 (¬ ∃a,t≤a∧a≤3000∧a*a-p.getD 3 0*a+p.getD 2 0-2*b=0)∧zmw (zcY b p t) (Ex.exit 0,zjA b p 3001)
 | 0,t,ht,_=>by
  obtain rfl:t=3001:=by omega
  exact .inr ⟨fun ⟨a,h1,h2,_⟩=>by omega,d2_L0_0_2 b p 3001 (by omega)⟩
 | n + 1,t,ht,hm=>by
  obtain ⟨hl,ha,h0,hb⟩:=h
  have g3:=zeb ha 3
  have g2:=zeb ha 2
  have b1:=zlp (a:=t) (b:=t) (A:=3000) (B:=3000) (by omega) (by omega)
  have b2:=zlp (a:=p.getD 3 0) (b:=t) (A:=1000) (B:=3000) g3 (by omega)
  by_cases e:t*t-p.getD 3 0*t+p.getD 2 0-2*b=0
  ·exact .inl ⟨⟨t,by omega,by omega,e⟩,d2_L0_0_0 b p t (by omega) (by omega) (by omega) (by omega) (by omega) (by omega) (by omega) (by omega) (by omega) (by omega) (by omega) e⟩
  ·have go:=fun r=>@d2_L0_0_1 b p t (by omega) (by omega) (by omega) (by omega) (by omega) (by omega) (by omega) (by omega) (by omega) (by omega) (by omega) e (by omega) r
   rcases d2_loop ⟨hl,ha,h0,hb⟩ n (t+1) (by omega) (by omega) with ⟨⟨a,h1,h2,h3⟩,k⟩ | ⟨hn,k⟩
   ·exact .inl ⟨⟨a,by omega,h2,h3⟩,go _ k⟩
   ·refine .inr ⟨fun ⟨a,h1,h2,h3⟩=>?_,go _ k⟩
    rcases Int.lt_or_eq_of_le h1 with h | h
    ·exact hn ⟨a,by omega,h2,h3⟩
    ·subst h;exact e h3
theorem zmy (p:List Int) (x:Int) (h:pPv p x):FC tP 149 [lI x,.pd [.sq p] 0] (.lit (.bool (pv p x==0))):=d1_0 x p h
theorem zmz (p:List Int) (b:Int) (h:pD2 p b):FC tP 151 [lI b,.pd [.sq p] 0] (.lit (.bool (q2 p b))):=by
  have h':=h
  obtain ⟨hl,ha,h0,hb⟩:=h'
  have g0:=zeb ha 0
  have g1:=zeb ha 1
  have g2:=zeb ha 2
  have g3:=zeb ha 3
  have bd:=tdivB (p.getD 0 0) b
  have bm:=zlp hb g3
  by_cases e:b=Int.tdiv (p.getD 0 0) b
  · by_cases e1:p.getD 1 0=b*p.getD 3 0
    · rcases d2_loop h 6001 (-3000) (by omega) (by omega) with ⟨⟨a,h1,h2,h3⟩,k⟩ | ⟨hn,k⟩
      · have hq:Q2 p b:=⟨a,by rw [← e];grind,by rw [← e];grind⟩
        rw [q2_t hq]
        exact(d2_3 b p (by omega) (by omega) h0 (by omega) e (by omega) (by omega) (by omega) (by omega) (by omega) e1 k).res fun E v hv=>by cases hv;exact .lit _
      · have hq:¬Q2 p b:=fun ⟨a,h1,h2⟩=>by
          rw [← e] at h1 h2
          by_cases hr:-3000≤a∧a≤3000
          · exact hn ⟨a,hr.1,hr.2,by grind⟩
          · have k1:(a*(p.getD 3 0-a)).natAbs≤3000:=by omega
            rw [Int.natAbs_mul] at k1
            have k2:3001*2001≤a.natAbs*(p.getD 3 0-a).natAbs:=Nat.mul_le_mul (by omega) (by omega)
            omega
        rw [zrW hq]
        exact(d2_4 b p 3001 (by omega) (by omega) h0 (by omega) e (by omega) (by omega) (by omega) (by omega) (by omega) e1 k).res fun E v hv=>by cases hv;exact .lit _
    · have hq:¬Q2 p b:=fun ⟨a,h1,h2⟩=>by rw [← e] at h2;grind
      rw [zrW hq]
      exact(d2_2 b p (by omega) (by omega) h0 (by omega) e (by omega) (by omega) (by omega) (by omega) (by omega) e1).res fun E v hv=>by cases hv;exact .lit _
  · have e0:¬(Int.tdiv (p.getD 0 0) b-b=0):=by omega
    have bt:=tdivB (p.getD 1 0-b*p.getD 3 0) (Int.tdiv (p.getD 0 0) b-b)
    have hm:=Int.mul_tdiv_add_tmod (p.getD 1 0-b*p.getD 3 0) (Int.tdiv (p.getD 0 0) b-b)
    by_cases er:Int.tmod (p.getD 1 0-b*p.getD 3 0) (Int.tdiv (p.getD 0 0) b-b)=0
    · have bp:=zlp (a:=Int.tdiv (p.getD 1 0-b*p.getD 3 0) (Int.tdiv (p.getD 0 0) b-b)) (b:=p.getD 3 0-Int.tdiv (p.getD 1 0-b*p.getD 3 0) (Int.tdiv (p.getD 0 0) b-b)) (A:=1001000) (B:=1002000) (by omega) (by omega)
      have k:=d2_0 b p (by omega) (by omega) h0 (by omega) e (by omega) (by omega) (by omega) (by omega) (by omega) (by omega) (by omega) e0 (by omega) er (by omega) (by omega) (by omega) (by omega) (by omega) (by omega)
      rw [er] at hm
      generalize Int.tdiv (p.getD 1 0-b*p.getD 3 0) (Int.tdiv (p.getD 0 0) b-b)=a0 at *
      have hq:q2 p b=(b+Int.tdiv (p.getD 0 0) b+a0*(p.getD 3 0-a0)==p.getD 2 0):=by
        rw [Bool.eq_iff_iff,q2_iff,beq_iff_eq]
        constructor
        · rintro ⟨a,h1,h2⟩
          have:(Int.tdiv (p.getD 0 0) b-b)*a=(Int.tdiv (p.getD 0 0) b-b)*a0:=by grind
          rw [← Int.eq_of_mul_eq_mul_left e0 this];exact h1
        · intro h1
          exact ⟨a0,h1,by grind⟩
      rw [hq];exact k
    · have hq:¬Q2 p b:=fun ⟨a,h1,h2⟩=>by
        apply er
        apply Int.tmod_eq_zero_of_dvd
        exact ⟨a,by grind⟩
      rw [zrW hq]
      exact(d2_1 b p (by omega) (by omega) h0 (by omega) e (by omega) (by omega) (by omega) (by omega) (by omega) (by omega) (by omega) e0 (by omega) er).res fun E v hv=>by cases hv;exact .lit _
noncomputable def ctrH2:Ctr:=(149,cIP pPv (fun p x=>.lit (.bool (pv p x==0)))) :: (151,cIP pD2 (fun p x=>.lit (.bool (q2 p x)))) :: ctrH
theorem ctrH2_all:∀p∈ctrH2,jZ tP p.1 p.2:=CAll.cons (cIP_ok zmy) (CAll.cons (cIP_ok zmz) zjx)
theorem za6:(eZ tP ctrH2 bw).OK:=JZ ctrH2_all
noncomputable section
theorem dv_0 (p:List Int) (h1:r64 ((p.length:Int)-1)) (h2:(p.length:Int)-1=1):FC tP 110 [.sq p] (.ff):=dZ za6 60 [1] (.i h1<|.c (beq_iff_eq.2 h2)<|.e) [1,2]
theorem dv_1 (p:List Int) (h1:r64 ((p.length:Int)-1)) (h2:(p.length:Int)-1≠1) (h3:0<(p.length:Int)) (h4:0<p.length) (h5:p.getD 0 0=0):FC tP 110 [.sq p] (.tt):=dZ za6 60 [0,1] (.i h1<|.c (beq_false_of_ne h2)<|.t h3<|.t h4<|.c (beq_iff_eq.2 h5)<|.e) [1,2,0,3,4,5]
abbrev zbk (s:St) (r:Ex × St):Prop:=Loops 1 tP (kZ tP 148 0) s r
abbrev zae (a:Int) (b:List Int) (c:Int):St:=⟨sp 29 [(0,aI a),(1,.fn 149 [.ref 0 0]),(5,aI c)],[.flat [.sq b] true],[]⟩
abbrev zbY (a:Int) (b:List Int) (c:Int):St:=⟨sp 29 [(0,aI a),(1,.fn 149 [.ref 0 0]),(5,aI c)],[.flat [.sq b] false],[]⟩
abbrev zcm (a:Int) (b:List Int):St:=⟨sp 29 [(4,.tt)],[.flat [.sq b] false],[]⟩
abbrev zcn (a:Int) (b:List Int) (c:Int):St:=⟨sp 29 [(0,aI a),(1,.fn 149 [.ref 0 0]),(5,aI c)],[.flat [.sq b] true],[]⟩
abbrev zco (a:Int) (b:List Int) (c:Int):St:=⟨sp 29 [(0,aI a),(1,.fn 149 [.ref 0 0]),(5,aI c)],[.flat [.sq b] false],[]⟩
theorem dv_L0_0_0 (a:Int) (b:List Int) (d:Int) (h1:r64 (0-a)) (h2:d≤if 0-a > a then 0-a else a) (h3:¬(d=0)) (h4:Int.tmod a d=0) (h5:pPv b d) (h6:pv b d=0):zbk (zae a b d) (Ex.ret,(zcm a b)):=LF (LS.at za6 60 [] [4] [] [1,1,1] (.i h1<|.t h2<|.y h3<|.c (beq_iff_eq.2 h4)<|.c h5<|.c (beq_iff_eq.2 h6)<|.e) [1,2,3,4,5,6])
theorem dv_L0_0_1 (a:Int) (b:List Int) (d:Int) (h1:r64 (0-a)) (h2:d≤if 0-a > a then 0-a else a) (h3:¬(d=0)) (h4:Int.tmod a d=0) (h5:pPv b d) (h6:pv b d≠0) (h7:r64 (0-d)) (h8:pPv b (0-d)) (h9:pv b (0-d)=0):zbk (zae a b d) (Ex.ret,(zcm a b)):=LF (LS.at za6 60 [] [4] [] [1,1,0,1] (.i h1<|.t h2<|.y h3<|.c (beq_iff_eq.2 h4)<|.c h5<|.c (beq_false_of_ne h6)<|.i h7<|.c h8<|.c (beq_iff_eq.2 h9)<|.e) [1,2,3,4,5,6,7,8,9])
theorem dv_L0_0_2 (a:Int) (b:List Int) (d:Int) (h1:r64 (0-a)) (h2:d≤if 0-a > a then 0-a else a) (h3:¬(d=0)) (h4:Int.tmod a d=0) (h5:pPv b d) (h6:pv b d≠0) (h7:r64 (0-d)) (h8:pPv b (0-d)) (h9:pv b (0-d)≠0) (h10:r64 (d+1)):LG zbk (zae a b d) (zbY a b (d+1)):=Loops.go (LS.at za6 60 [] [0,1,5] [] [1,1,0,0] (.i h1<|.t h2<|.y h3<|.c (beq_iff_eq.2 h4)<|.c h5<|.c (beq_false_of_ne h6)<|.i h7<|.c h8<|.c (beq_false_of_ne h9)<|.i h10<|.e) [1,2,3,4,5,6,7,8,9,10])
theorem dv_L0_0_3 (a:Int) (b:List Int) (d:Int) (h1:r64 (0-a)) (h2:d≤if 0-a > a then 0-a else a) (h3:¬(d=0)) (h4:Int.tmod a d≠0) (h5:r64 (d+1)):LG zbk (zae a b d) (zae a b (d+1)):=Loops.go (LS.at za6 60 [] [0,1,5] [] [1,0] (.i h1<|.t h2<|.y h3<|.c (beq_false_of_ne h4)<|.i h5<|.e) [1,2,3,4,5])
theorem dv_L0_0_4 (a:Int) (b:List Int) (c:Int) (h1:r64 (0-a)) (h2:¬(c≤if 0-a > a then 0-a else a)):zbk (zae a b c) (Ex.exit 0,(zcn a b c)):=LF (LS.at za6 60 [] [0,1,5] [] [0] (.i h1<|.f h2<|.e) [1,2])
theorem dv_L0_1_0 (a:Int) (b:List Int) (d:Int) (h1:r64 (0-a)) (h2:d≤if 0-a > a then 0-a else a) (h3:¬(d=0)) (h4:Int.tmod a d=0) (h5:pPv b d) (h6:pv b d=0):zbk (zbY a b d) (Ex.ret,(zcm a b)):=LF (LS.at za6 60 [] [4] [] [1,1,1] (.i h1<|.t h2<|.y h3<|.c (beq_iff_eq.2 h4)<|.c h5<|.c (beq_iff_eq.2 h6)<|.e) [1,2,3,4,5,6])
theorem dv_L0_1_1 (a:Int) (b:List Int) (d:Int) (h1:r64 (0-a)) (h2:d≤if 0-a > a then 0-a else a) (h3:¬(d=0)) (h4:Int.tmod a d=0) (h5:pPv b d) (h6:pv b d≠0) (h7:r64 (0-d)) (h8:pPv b (0-d)) (h9:pv b (0-d)=0):zbk (zbY a b d) (Ex.ret,(zcm a b)):=LF (LS.at za6 60 [] [4] [] [1,1,0,1] (.i h1<|.t h2<|.y h3<|.c (beq_iff_eq.2 h4)<|.c h5<|.c (beq_false_of_ne h6)<|.i h7<|.c h8<|.c (beq_iff_eq.2 h9)<|.e) [1,2,3,4,5,6,7,8,9])
theorem dv_L0_1_2 (a:Int) (b:List Int) (d:Int) (h1:r64 (0-a)) (h2:d≤if 0-a > a then 0-a else a) (h3:¬(d=0)) (h4:Int.tmod a d=0) (h5:pPv b d) (h6:pv b d≠0) (h7:r64 (0-d)) (h8:pPv b (0-d)) (h9:pv b (0-d)≠0) (h10:r64 (d+1)):LG zbk (zbY a b d) (zbY a b (d+1)):=Loops.go (LS.at za6 60 [] [0,1,5] [] [1,1,0,0] (.i h1<|.t h2<|.y h3<|.c (beq_iff_eq.2 h4)<|.c h5<|.c (beq_false_of_ne h6)<|.i h7<|.c h8<|.c (beq_false_of_ne h9)<|.i h10<|.e) [1,2,3,4,5,6,7,8,9,10])
theorem dv_L0_1_3 (a:Int) (b:List Int) (d:Int) (h1:r64 (0-a)) (h2:d≤if 0-a > a then 0-a else a) (h3:¬(d=0)) (h4:Int.tmod a d≠0) (h5:r64 (d+1)):LG zbk (zbY a b d) (zbY a b (d+1)):=Loops.go (LS.at za6 60 [] [0,1,5] [] [1,0] (.i h1<|.t h2<|.y h3<|.c (beq_false_of_ne h4)<|.i h5<|.e) [1,2,3,4,5])
theorem dv_L0_1_4 (a:Int) (b:List Int) (c:Int) (h1:r64 (0-a)) (h2:¬(c≤if 0-a > a then 0-a else a)):zbk (zbY a b c) (Ex.exit 0,(zco a b c)):=LF (LS.at za6 60 [] [0,1,5] [] [0] (.i h1<|.f h2<|.e) [1,2])
theorem dv_2 (p:List Int) (h1:r64 ((p.length:Int)-1)) (h2:(p.length:Int)-1≠1) (h3:0<(p.length:Int)) (h4:0<p.length) (h5:p.getD 0 0≠0) (hL1:zbk (zae (p.getD 0 0) p (1)) (Ex.ret,(zcm (p.getD 0 0) p))):FC tP 110 [.sq p] (.tt):=dZ za6 60 [0,0] (.i h1<|.c (beq_false_of_ne h2)<|.t h3<|.t h4<|.c (beq_false_of_ne h5)<|.v [0,1,5] [] hL1<|.e) [1,2,0,3,4,5,0,3,4,0,6]
theorem dv_3 (p:List Int) (a:Int) (h1:r64 ((p.length:Int)-1)) (h2:(p.length:Int)-1≠1) (h3:0<(p.length:Int)) (h4:0<p.length) (h5:p.getD 0 0≠0) (hL1:zbk (zae (p.getD 0 0) p (1)) (Ex.exit 0,(zcn (p.getD 0 0) p a))) (h7:(p.length:Int)-1<4):FC tP 110 [.sq p] (.ff):=dZ za6 60 [0,0,1] (.i h1<|.c (beq_false_of_ne h2)<|.t h3<|.t h4<|.c (beq_false_of_ne h5)<|.v [0,1,5] [] hL1<|.t h7<|.e) [1,2,0,3,4,5,0,3,4,0,6,7]
abbrev zcp (s:St) (r:Ex × St):Prop:=Loops 1 tP (kZ tP 148 0) s r
abbrev zaP (a:Int) (b:List Int) (c:Int):St:=⟨sp 29 [(0,aI a),(1,.fn 151 [.ref 0 0]),(5,aI c)],[.flat [.sq b] true],[]⟩
abbrev zbZ (a:Int) (b:List Int) (c:Int):St:=⟨sp 29 [(0,aI a),(1,.fn 151 [.ref 0 0]),(5,aI c)],[.flat [.sq b] false],[]⟩
abbrev zcq (a:Int) (b:List Int):St:=⟨sp 29 [(4,.tt)],[.flat [.sq b] false],[]⟩
abbrev zgr (a:Int) (b:List Int) (c:Int):St:=⟨sp 29 [(0,aI a),(1,.fn 151 [.ref 0 0]),(5,aI c)],[.flat [.sq b] true],[]⟩
abbrev zev (a:Int) (b:List Int) (c:Int):St:=⟨sp 29 [(0,aI a),(1,.fn 151 [.ref 0 0]),(5,aI c)],[.flat [.sq b] false],[]⟩
theorem dv_L1_0_0 (a:Int) (b:List Int) (d:Int) (h1:r64 (0-a)) (h2:d≤if 0-a > a then 0-a else a) (h3:¬(d=0)) (h4:Int.tmod a d=0) (h5:pD2 b d) (h6:q2 b d=true):zcp (zaP a b d) (Ex.ret,(zcq a b)):=LF (LS.at za6 60 [] [4] [] [1,1,1] (.i h1<|.t h2<|.y h3<|.c (beq_iff_eq.2 h4)<|.c h5<|.c h6<|.e) [1,2,3,4,5,6])
theorem dv_L1_0_1 (a:Int) (b:List Int) (d:Int) (h1:r64 (0-a)) (h2:d≤if 0-a > a then 0-a else a) (h3:¬(d=0)) (h4:Int.tmod a d=0) (h5:pD2 b d) (h6:q2 b d=false) (h7:r64 (0-d)) (h8:pD2 b (0-d)) (h9:q2 b (0-d)=true):zcp (zaP a b d) (Ex.ret,(zcq a b)):=LF (LS.at za6 60 [] [4] [] [1,1,0,1] (.i h1<|.t h2<|.y h3<|.c (beq_iff_eq.2 h4)<|.c h5<|.c h6<|.i h7<|.c h8<|.c h9<|.e) [1,2,3,4,5,6,7,8,9])
theorem dv_L1_0_2 (a:Int) (b:List Int) (d:Int) (h1:r64 (0-a)) (h2:d≤if 0-a > a then 0-a else a) (h3:¬(d=0)) (h4:Int.tmod a d=0) (h5:pD2 b d) (h6:q2 b d=false) (h7:r64 (0-d)) (h8:pD2 b (0-d)) (h9:q2 b (0-d)=false) (h10:r64 (d+1)):LG zcp (zaP a b d) (zbZ a b (d+1)):=Loops.go (LS.at za6 60 [] [0,1,5] [] [1,1,0,0] (.i h1<|.t h2<|.y h3<|.c (beq_iff_eq.2 h4)<|.c h5<|.c h6<|.i h7<|.c h8<|.c h9<|.i h10<|.e) [1,2,3,4,5,6,7,8,9,10])
theorem dv_L1_0_3 (a:Int) (b:List Int) (d:Int) (h1:r64 (0-a)) (h2:d≤if 0-a > a then 0-a else a) (h3:¬(d=0)) (h4:Int.tmod a d≠0) (h5:r64 (d+1)):LG zcp (zaP a b d) (zaP a b (d+1)):=Loops.go (LS.at za6 60 [] [0,1,5] [] [1,0] (.i h1<|.t h2<|.y h3<|.c (beq_false_of_ne h4)<|.i h5<|.e) [1,2,3,4,5])
theorem dv_L1_0_4 (a:Int) (b:List Int) (c:Int) (h1:r64 (0-a)) (h2:¬(c≤if 0-a > a then 0-a else a)):zcp (zaP a b c) (Ex.exit 0,(zgr a b c)):=LF (LS.at za6 60 [] [0,1,5] [] [0] (.i h1<|.f h2<|.e) [1,2])
theorem dv_L1_1_0 (a:Int) (b:List Int) (d:Int) (h1:r64 (0-a)) (h2:d≤if 0-a > a then 0-a else a) (h3:¬(d=0)) (h4:Int.tmod a d=0) (h5:pD2 b d) (h6:q2 b d=true):zcp (zbZ a b d) (Ex.ret,(zcq a b)):=LF (LS.at za6 60 [] [4] [] [1,1,1] (.i h1<|.t h2<|.y h3<|.c (beq_iff_eq.2 h4)<|.c h5<|.c h6<|.e) [1,2,3,4,5,6])
theorem dv_L1_1_1 (a:Int) (b:List Int) (d:Int) (h1:r64 (0-a)) (h2:d≤if 0-a > a then 0-a else a) (h3:¬(d=0)) (h4:Int.tmod a d=0) (h5:pD2 b d) (h6:q2 b d=false) (h7:r64 (0-d)) (h8:pD2 b (0-d)) (h9:q2 b (0-d)=true):zcp (zbZ a b d) (Ex.ret,(zcq a b)):=LF (LS.at za6 60 [] [4] [] [1,1,0,1] (.i h1<|.t h2<|.y h3<|.c (beq_iff_eq.2 h4)<|.c h5<|.c h6<|.i h7<|.c h8<|.c h9<|.e) [1,2,3,4,5,6,7,8,9])
theorem dv_L1_1_2 (a:Int) (b:List Int) (d:Int) (h1:r64 (0-a)) (h2:d≤if 0-a > a then 0-a else a) (h3:¬(d=0)) (h4:Int.tmod a d=0) (h5:pD2 b d) (h6:q2 b d=false) (h7:r64 (0-d)) (h8:pD2 b (0-d)) (h9:q2 b (0-d)=false) (h10:r64 (d+1)):LG zcp (zbZ a b d) (zbZ a b (d+1)):=Loops.go (LS.at za6 60 [] [0,1,5] [] [1,1,0,0] (.i h1<|.t h2<|.y h3<|.c (beq_iff_eq.2 h4)<|.c h5<|.c h6<|.i h7<|.c h8<|.c h9<|.i h10<|.e) [1,2,3,4,5,6,7,8,9,10])
theorem dv_L1_1_3 (a:Int) (b:List Int) (d:Int) (h1:r64 (0-a)) (h2:d≤if 0-a > a then 0-a else a) (h3:¬(d=0)) (h4:Int.tmod a d≠0) (h5:r64 (d+1)):LG zcp (zbZ a b d) (zbZ a b (d+1)):=Loops.go (LS.at za6 60 [] [0,1,5] [] [1,0] (.i h1<|.t h2<|.y h3<|.c (beq_false_of_ne h4)<|.i h5<|.e) [1,2,3,4,5])
theorem dv_L1_1_4 (a:Int) (b:List Int) (c:Int) (h1:r64 (0-a)) (h2:¬(c≤if 0-a > a then 0-a else a)):zcp (zbZ a b c) (Ex.exit 0,(zev a b c)):=LF (LS.at za6 60 [] [0,1,5] [] [0] (.i h1<|.f h2<|.e) [1,2])
theorem dv_4 (p:List Int) (a:Int) (h1:r64 ((p.length:Int)-1)) (h2:(p.length:Int)-1≠1) (h3:0<(p.length:Int)) (h4:0<p.length) (h5:p.getD 0 0≠0) (hL1:zbk (zae (p.getD 0 0) p (1)) (Ex.exit 0,(zcn (p.getD 0 0) p a))) (h7:¬((p.length:Int)-1<4)) (hL2:zcp (zaP (p.getD 0 0) p (1)) (Ex.ret,(zcq (p.getD 0 0) p))):FC tP 110 [.sq p] (.tt):=dZ za6 60 [0,0,0] (.i h1<|.c (beq_false_of_ne h2)<|.t h3<|.t h4<|.c (beq_false_of_ne h5)<|.v [0,1,5] [] hL1<|.f h7<|.v [0,1,5] [] hL2<|.e) [1,2,0,3,4,5,0,3,4,0,6,7,0,3,4,0,8]
theorem dv_5 (p:List Int) (a b:Int) (h1:r64 ((p.length:Int)-1)) (h2:(p.length:Int)-1≠1) (h3:0<(p.length:Int)) (h4:0<p.length) (h5:p.getD 0 0≠0) (hL1:zbk (zae (p.getD 0 0) p (1)) (Ex.exit 0,(zcn (p.getD 0 0) p a))) (h7:¬((p.length:Int)-1<4)) (hL2:zcp (zaP (p.getD 0 0) p (1)) (Ex.exit 0,(zgr (p.getD 0 0) p b))):FC tP 110 [.sq p] (.ff):=dZ za6 60 [0,0,0] (.i h1<|.c (beq_false_of_ne h2)<|.t h3<|.t h4<|.c (beq_false_of_ne h5)<|.v [0,1,5] [] hL1<|.f h7<|.v [0,1,5] [] hL2<|.e) [1,2,0,3,4,5,0,3,4,0,6,7,0,3,4,0,8]
theorem dv_6 (p:List Int) (a b:Int) (h1:r64 ((p.length:Int)-1)) (h2:(p.length:Int)-1≠1) (h3:0<(p.length:Int)) (h4:0<p.length) (h5:p.getD 0 0≠0) (hL1:zbk (zae (p.getD 0 0) p (1)) (Ex.exit 0,(zcn (p.getD 0 0) p a))) (h7:¬((p.length:Int)-1<4)) (hL2:zcp (zaP (p.getD 0 0) p (1)) (Ex.exit 0,(zev (p.getD 0 0) p b))):FC tP 110 [.sq p] (.ff):=dZ za6 60 [0,0,0] (.i h1<|.c (beq_false_of_ne h2)<|.t h3<|.t h4<|.c (beq_false_of_ne h5)<|.v [0,1,5] [] hL1<|.f h7<|.v [0,1,5] [] hL2<|.e) [1,2,0,3,4,5,0,3,4,0,6,7,0,3,4,0,8]
theorem dv_7 (p:List Int) (a:Int) (h1:r64 ((p.length:Int)-1)) (h2:(p.length:Int)-1≠1) (h3:0<(p.length:Int)) (h4:0<p.length) (h5:p.getD 0 0≠0) (hL1:zbk (zae (p.getD 0 0) p (1)) (Ex.exit 0,(zco (p.getD 0 0) p a))) (h7:(p.length:Int)-1<4):FC tP 110 [.sq p] (.ff):=dZ za6 60 [0,0,1] (.i h1<|.c (beq_false_of_ne h2)<|.t h3<|.t h4<|.c (beq_false_of_ne h5)<|.v [0,1,5] [] hL1<|.t h7<|.e) [1,2,0,3,4,5,0,3,4,0,6,7]
abbrev ziz (s:St) (r:Ex × St):Prop:=Loops 1 tP (kZ tP 148 0) s r
abbrev za9 (a:Int) (b:List Int) (c:Int):St:=⟨sp 29 [(0,aI a),(1,.fn 151 [.ref 0 0]),(5,aI c)],[.flat [.sq b] false],[]⟩
abbrev zgs (a:Int) (b:List Int):St:=⟨sp 29 [(4,.tt)],[.flat [.sq b] false],[]⟩
abbrev zgt (a:Int) (b:List Int) (c:Int):St:=⟨sp 29 [(0,aI a),(1,.fn 151 [.ref 0 0]),(5,aI c)],[.flat [.sq b] false],[]⟩
theorem dv_L2_0_0 (a:Int) (b:List Int) (d:Int) (h1:r64 (0-a)) (h2:d≤if 0-a > a then 0-a else a) (h3:¬(d=0)) (h4:Int.tmod a d=0) (h5:pD2 b d) (h6:q2 b d=true):ziz (za9 a b d) (Ex.ret,(zgs a b)):=LF (LS.at za6 60 [] [4] [] [1,1,1] (.i h1<|.t h2<|.y h3<|.c (beq_iff_eq.2 h4)<|.c h5<|.c h6<|.e) [1,2,3,4,5,6])
theorem dv_L2_0_1 (a:Int) (b:List Int) (d:Int) (h1:r64 (0-a)) (h2:d≤if 0-a > a then 0-a else a) (h3:¬(d=0)) (h4:Int.tmod a d=0) (h5:pD2 b d) (h6:q2 b d=false) (h7:r64 (0-d)) (h8:pD2 b (0-d)) (h9:q2 b (0-d)=true):ziz (za9 a b d) (Ex.ret,(zgs a b)):=LF (LS.at za6 60 [] [4] [] [1,1,0,1] (.i h1<|.t h2<|.y h3<|.c (beq_iff_eq.2 h4)<|.c h5<|.c h6<|.i h7<|.c h8<|.c h9<|.e) [1,2,3,4,5,6,7,8,9])
theorem dv_L2_0_2 (a:Int) (b:List Int) (d:Int) (h1:r64 (0-a)) (h2:d≤if 0-a > a then 0-a else a) (h3:¬(d=0)) (h4:Int.tmod a d=0) (h5:pD2 b d) (h6:q2 b d=false) (h7:r64 (0-d)) (h8:pD2 b (0-d)) (h9:q2 b (0-d)=false) (h10:r64 (d+1)):LG ziz (za9 a b d) (za9 a b (d+1)):=Loops.go (LS.at za6 60 [] [0,1,5] [] [1,1,0,0] (.i h1<|.t h2<|.y h3<|.c (beq_iff_eq.2 h4)<|.c h5<|.c h6<|.i h7<|.c h8<|.c h9<|.i h10<|.e) [1,2,3,4,5,6,7,8,9,10])
theorem dv_L2_0_3 (a:Int) (b:List Int) (d:Int) (h1:r64 (0-a)) (h2:d≤if 0-a > a then 0-a else a) (h3:¬(d=0)) (h4:Int.tmod a d≠0) (h5:r64 (d+1)):LG ziz (za9 a b d) (za9 a b (d+1)):=Loops.go (LS.at za6 60 [] [0,1,5] [] [1,0] (.i h1<|.t h2<|.y h3<|.c (beq_false_of_ne h4)<|.i h5<|.e) [1,2,3,4,5])
theorem dv_L2_0_4 (a:Int) (b:List Int) (c:Int) (h1:r64 (0-a)) (h2:¬(c≤if 0-a > a then 0-a else a)):ziz (za9 a b c) (Ex.exit 0,(zgt a b c)):=LF (LS.at za6 60 [] [0,1,5] [] [0] (.i h1<|.f h2<|.e) [1,2])
theorem dv_8 (p:List Int) (a:Int) (h1:r64 ((p.length:Int)-1)) (h2:(p.length:Int)-1≠1) (h3:0<(p.length:Int)) (h4:0<p.length) (h5:p.getD 0 0≠0) (hL1:zbk (zae (p.getD 0 0) p (1)) (Ex.exit 0,(zco (p.getD 0 0) p a))) (h7:¬((p.length:Int)-1<4)) (hL2:ziz (za9 (p.getD 0 0) p (1)) (Ex.ret,(zgs (p.getD 0 0) p))):FC tP 110 [.sq p] (.tt):=dZ za6 60 [0,0,0] (.i h1<|.c (beq_false_of_ne h2)<|.t h3<|.t h4<|.c (beq_false_of_ne h5)<|.v [0,1,5] [] hL1<|.f h7<|.v [0,1,5] [] hL2<|.e) [1,2,0,3,4,5,0,3,4,0,6,7,0,3,4,0,8]
theorem dv_9 (p:List Int) (a b:Int) (h1:r64 ((p.length:Int)-1)) (h2:(p.length:Int)-1≠1) (h3:0<(p.length:Int)) (h4:0<p.length) (h5:p.getD 0 0≠0) (hL1:zbk (zae (p.getD 0 0) p (1)) (Ex.exit 0,(zco (p.getD 0 0) p a))) (h7:¬((p.length:Int)-1<4)) (hL2:ziz (za9 (p.getD 0 0) p (1)) (Ex.exit 0,(zgt (p.getD 0 0) p b))):FC tP 110 [.sq p] (.ff):=dZ za6 60 [0,0,0] (.i h1<|.c (beq_false_of_ne h2)<|.t h3<|.t h4<|.c (beq_false_of_ne h5)<|.v [0,1,5] [] hL1<|.f h7<|.v [0,1,5] [] hL2<|.e) [1,2,0,3,4,5,0,3,4,0,6,7,0,3,4,0,8]
theorem re_0 (p:List Int) (h1:r64 ((p.length:Int)-1)) (h2:(p.length:Int)-1=1):FC tP 98 [.sq p] (.ff):=dZ za6 60 [1] (.i h1<|.c (beq_iff_eq.2 h2)<|.e) [1,2]
abbrev zka (s:St) (r:Ex × St):Prop:=Loops 0 tP (kZ tP 98 0) s r
abbrev zb1 (a:List Int) (b c:Int):St:=⟨sp 78 [(0,.sq a),(3,aI b),(4,aI c)],[],[]⟩
abbrev zkb (a:List Int) (b:Int):St:=⟨sp 78 [(2,.tt)],[],[]⟩
abbrev zeS (a:List Int) (b c:Int):St:=⟨sp 78 [(0,.sq a),(3,aI b),(4,aI c)],[],[]⟩
theorem re_L0_0_0 (a:List Int) (b d:Int) (h1:d≤1001) (h2:pPv a d) (h3:pv a d=0):zka (zb1 a b d) (Ex.ret,(zkb a b)):=LF (LS.at za6 60 [] [2] [] [1,1] (.t h1<|.c h2<|.c (beq_iff_eq.2 h3)<|.e) [1,2,3])
theorem re_L0_0_1 (a:List Int) (b d:Int) (h1:d≤1001) (h2:pPv a d) (h3:pv a d≠0) (h4:r64 (d+1)):LG zka (zb1 a b d) (zb1 a b (d+1)):=Loops.go (LS.at za6 60 [] [0,3,4] [] [1,0] (.t h1<|.c h2<|.c (beq_false_of_ne h3)<|.i h4<|.e) [1,2,3,4])
theorem re_L0_0_2 (a:List Int) (b c:Int) (h1:¬(c≤1001)):zka (zb1 a b c) (Ex.exit 0,(zeS a b c)):=LF (LS.at za6 60 [] [0,3,4] [] [0] (.f h1<|.e) [1])
theorem re_1 (p:List Int) (h1:r64 ((p.length:Int)-1)) (h2:(p.length:Int)-1≠1) (hL1:zka (zb1 p ((p.length:Int)-1) (-1001)) (Ex.ret,(zkb p ((p.length:Int)-1)))):FC tP 98 [.sq p] (.tt):=dZ za6 60 [0] (.i h1<|.c (beq_false_of_ne h2)<|.v [0,3,4] [] hL1<|.e) [1,2,0,3]
abbrev zhI (s:St) (r:Ex × St):Prop:=Loops 0 tP (kZ tP 98 1) s r
abbrev zaF (a:List Int) (b c:Int):St:=⟨sp 78 [(0,.sq a),(3,aI b),(5,aI c)],[],[]⟩
abbrev zke (a:List Int) (b:Int):St:=⟨sp 78 [(2,.tt)],[],[]⟩
abbrev zeT (a:List Int) (b c:Int):St:=⟨sp 78 [(0,.sq a),(3,aI b),(5,aI c)],[],[]⟩
theorem re_L3_0_0 (a:List Int) (b d:Int) (h1:d≤1000) (h2:b=4) (h3:d=0) (h4:r64 (d+1)):LG zhI (zaF a b d) (zaF a b (d+1)):=Loops.go (LS.at za6 60 [] [0,3,5] [] [1,1,1] (.t h1<|.c (beq_iff_eq.2 h2)<|.c (beq_iff_eq.2 h3)<|.i h4<|.e) [1,2,3,4])
theorem re_L3_0_1 (a:List Int) (b d:Int) (h1:d≤1000) (h2:b=4) (h3:d≠0) (h4:0<(a.length:Int)) (h5:0<a.length) (h6:¬(d=0)) (h7:Int.tmod (a.getD 0 0) d≠0) (h8:r64 (d+1)):LG zhI (zaF a b d) (zaF a b (d+1)):=Loops.go (LS.at za6 60 [] [0,3,5] [] [1,1,0,1] (.t h1<|.c (beq_iff_eq.2 h2)<|.c (beq_false_of_ne h3)<|.t h4<|.t h5<|.y h6<|.c (bne_iff_ne.2 h7)<|.i h8<|.e) [1,2,3,0,4,5,6,7,8])
abbrev zkc (s:St) (r:Ex × St):Prop:=Loops 0 tP (kZ tP 98 2) s r
abbrev zbC (a:List Int) (b c d:Int):St:=⟨sp 78 [(0,.sq a),(3,aI b),(5,aI c),(6,aI d)],[],[]⟩
abbrev zkd (a:List Int) (b c:Int):St:=⟨sp 78 [(2,.tt)],[],[]⟩
abbrev zgD (a:List Int) (b c d:Int):St:=⟨sp 78 [(0,.sq a),(3,aI b),(5,aI c),(6,aI d)],[],[]⟩
theorem re_L2_0_0 (a:List Int) (b d f:Int) (h1:f≤2002) (h2:3<(a.length:Int)) (h3:3<a.length) (h4:r64 (a.getD 3 0-f)) (h5:2<(a.length:Int)) (h6:2<a.length) (h7:r64 (a.getD 2 0-d)) (h8:r64 (f*(a.getD 3 0-f))) (h9:r64 (a.getD 2 0-d-f*(a.getD 3 0-f))) (h10:r64 (d*(a.getD 2 0-d-f*(a.getD 3 0-f)))) (h11:0<(a.length:Int)) (h12:0<a.length) (h13:d*(a.getD 2 0-d-f*(a.getD 3 0-f))=a.getD 0 0) (h14:r64 (f*(a.getD 2 0-d-f*(a.getD 3 0-f)))) (h15:r64 (d*(a.getD 3 0-f))) (h16:r64 (f*(a.getD 2 0-d-f*(a.getD 3 0-f))+d*(a.getD 3 0-f))) (h17:1<(a.length:Int)) (h18:1<a.length) (h19:f*(a.getD 2 0-d-f*(a.getD 3 0-f))+d*(a.getD 3 0-f)=a.getD 1 0):zkc (zbC a b d f) (Ex.ret,(zkd a b d)):=LF (LS.at za6 60 [] [2] [] [1,1,1] (.t h1<|.t h2<|.t h3<|.i h4<|.t h5<|.t h6<|.i h7<|.i h8<|.i h9<|.i h10<|.t h11<|.t h12<|.c (beq_iff_eq.2 h13)<|.i h14<|.i h15<|.i h16<|.t h17<|.t h18<|.c (beq_iff_eq.2 h19)<|.e) [1,0,2,3,4,0,5,6,7,8,9,10,0,11,12,13,14,15,16,0,17,18,19])
theorem re_L2_0_1 (a:List Int) (b d f:Int) (h1:f≤2002) (h2:3<(a.length:Int)) (h3:3<a.length) (h4:r64 (a.getD 3 0-f)) (h5:2<(a.length:Int)) (h6:2<a.length) (h7:r64 (a.getD 2 0-d)) (h8:r64 (f*(a.getD 3 0-f))) (h9:r64 (a.getD 2 0-d-f*(a.getD 3 0-f))) (h10:r64 (d*(a.getD 2 0-d-f*(a.getD 3 0-f)))) (h11:0<(a.length:Int)) (h12:0<a.length) (h13:d*(a.getD 2 0-d-f*(a.getD 3 0-f))=a.getD 0 0) (h14:r64 (f*(a.getD 2 0-d-f*(a.getD 3 0-f)))) (h15:r64 (d*(a.getD 3 0-f))) (h16:r64 (f*(a.getD 2 0-d-f*(a.getD 3 0-f))+d*(a.getD 3 0-f))) (h17:1<(a.length:Int)) (h18:1<a.length) (h19:f*(a.getD 2 0-d-f*(a.getD 3 0-f))+d*(a.getD 3 0-f)≠a.getD 1 0) (h20:r64 (f+1)):LG zkc (zbC a b d f) (zbC a b d (f+1)):=Loops.go (LS.at za6 60 [] [0,3,5,6] [] [1,1,0] (.t h1<|.t h2<|.t h3<|.i h4<|.t h5<|.t h6<|.i h7<|.i h8<|.i h9<|.i h10<|.t h11<|.t h12<|.c (beq_iff_eq.2 h13)<|.i h14<|.i h15<|.i h16<|.t h17<|.t h18<|.c (beq_false_of_ne h19)<|.i h20<|.e) [1,0,2,3,4,0,5,6,7,8,9,10,0,11,12,13,14,15,16,0,17,18,19,20])
theorem re_L2_0_2 (a:List Int) (b d f:Int) (h1:f≤2002) (h2:3<(a.length:Int)) (h3:3<a.length) (h4:r64 (a.getD 3 0-f)) (h5:2<(a.length:Int)) (h6:2<a.length) (h7:r64 (a.getD 2 0-d)) (h8:r64 (f*(a.getD 3 0-f))) (h9:r64 (a.getD 2 0-d-f*(a.getD 3 0-f))) (h10:r64 (d*(a.getD 2 0-d-f*(a.getD 3 0-f)))) (h11:0<(a.length:Int)) (h12:0<a.length) (h13:d*(a.getD 2 0-d-f*(a.getD 3 0-f))≠a.getD 0 0) (h14:r64 (f+1)):LG zkc (zbC a b d f) (zbC a b d (f+1)):=Loops.go (LS.at za6 60 [] [0,3,5,6] [] [1,0] (.t h1<|.t h2<|.t h3<|.i h4<|.t h5<|.t h6<|.i h7<|.i h8<|.i h9<|.i h10<|.t h11<|.t h12<|.c (beq_false_of_ne h13)<|.i h14<|.e) [1,0,2,3,4,0,5,6,7,8,9,10,0,11,12,13,14])
theorem re_L2_0_3 (a:List Int) (b c d:Int) (h1:¬(d≤2002)):zkc (zbC a b c d) (Ex.exit 4,(zgD a b c d)):=LF (LS.at za6 60 [] [0,3,5,6] [] [0] (.f h1<|.e) [1])
theorem re_L3_0_2 (a:List Int) (b d:Int) (h1:d≤1000) (h2:b=4) (h3:d≠0) (h4:0<(a.length:Int)) (h5:0<a.length) (h6:¬(d=0)) (h7:Int.tmod (a.getD 0 0) d=0) (hL1:zkc (zbC a b d (-2002)) (Ex.ret,(zkd a b d))):zhI (zaF a b d) (Ex.ret,(zke a b)):=LF (LS.at za6 60 [] [2] [] [1,1,0,0] (.t h1<|.c (beq_iff_eq.2 h2)<|.c (beq_false_of_ne h3)<|.t h4<|.t h5<|.y h6<|.c (bne_eq_false_iff_eq.2 h7)<|.v [0,3,5,6] [] hL1<|.e) [1,2,3,0,4,5,6,7,0,8])
theorem re_L3_0_3 (a:List Int) (b d f:Int) (h1:d≤1000) (h2:b=4) (h3:d≠0) (h4:0<(a.length:Int)) (h5:0<a.length) (h6:¬(d=0)) (h7:Int.tmod (a.getD 0 0) d=0) (hL1:zkc (zbC a b d (-2002)) (Ex.exit 4,(zgD a b d f))) (h9:r64 (d+1)):LG zhI (zaF a b d) (zaF a b (d+1)):=Loops.go (LS.at za6 60 [] [0,3,5] [] [1,1,0,0] (.t h1<|.c (beq_iff_eq.2 h2)<|.c (beq_false_of_ne h3)<|.t h4<|.t h5<|.y h6<|.c (bne_eq_false_iff_eq.2 h7)<|.v [0,3,5,6] [] hL1<|.i h9<|.e) [1,2,3,0,4,5,6,7,0,8,9])
theorem re_L3_0_4 (a:List Int) (b d:Int) (h1:d≤1000) (h2:b≠4):zhI (zaF a b d) (Ex.exit 2,(zeT a b d)):=LF (LS.at za6 60 [] [0,3,5] [] [1,0] (.t h1<|.c (beq_false_of_ne h2)<|.e) [1,2])
theorem re_L3_0_5 (a:List Int) (b c:Int) (h1:¬(c≤1000)):zhI (zaF a b c) (Ex.exit 2,(zeT a b c)):=LF (LS.at za6 60 [] [0,3,5] [] [0] (.f h1<|.e) [1])
theorem re_2 (p:List Int) (a:Int) (h1:r64 ((p.length:Int)-1)) (h2:(p.length:Int)-1≠1) (hL1:zka (zb1 p ((p.length:Int)-1) (-1001)) (Ex.exit 0,(zeS p ((p.length:Int)-1) a))) (hL2:zhI (zaF p ((p.length:Int)-1) (-1000)) (Ex.ret,(zke p ((p.length:Int)-1)))):FC tP 98 [.sq p] (.tt):=dZ za6 60 [0] (.i h1<|.c (beq_false_of_ne h2)<|.v [0,3,4] [] hL1<|.v [0,3,5] [] hL2<|.e) [1,2,0,3,0,4]
theorem re_3 (p:List Int) (a b:Int) (h1:r64 ((p.length:Int)-1)) (h2:(p.length:Int)-1≠1) (hL1:zka (zb1 p ((p.length:Int)-1) (-1001)) (Ex.exit 0,(zeS p ((p.length:Int)-1) a))) (hL2:zhI (zaF p ((p.length:Int)-1) (-1000)) (Ex.exit 2,(zeT p ((p.length:Int)-1) b))):FC tP 98 [.sq p] (.ff):=dZ za6 60 [0] (.i h1<|.c (beq_false_of_ne h2)<|.v [0,3,4] [] hL1<|.v [0,3,5] [] hL2<|.e) [1,2,0,3,0,4]
end
theorem zd6 {R:Type} (B:Int→R→Prop) (G:Int→Prop) (lo hi:Int) (e0:R) (e2:Int→R) (h0:∀t,lo≤t→t≤hi→G t→B t e0) (h1:∀t,lo≤t→t≤hi→¬G t→∀r,B (t+1) r→B t r) (h2:B (hi+1) (e2 (hi+1))) :
 ∀(n:Nat) (t:Int),t+n=hi+1→lo≤t→(∃a,t≤a∧a≤hi∧G a)∧B t e0∨(¬ ∃a,t≤a∧a≤hi∧G a)∧B t (e2 (hi+1))
 | 0,t,ht,_=>by
  grind
 | n + 1,t,ht,hm=>by
  by_cases e:G t
  ·grind
  ·have go:=h1 t hm (by omega) e
   rcases zd6 B G lo hi e0 e2 h0 h1 h2 n (t+1) (by omega) (by omega) with ⟨⟨a,h1,h2,h3⟩,k⟩ | ⟨hn,k⟩
   ·grind
   grind
theorem zjw {R:Type} (A B:Int→R→Prop) (G:Int→Prop) (lo hi:Int) (e0:R) (e1 e2:Int→R) (hB:∀(n:Nat) (t:Int),t+n=hi+1→lo≤t→(∃a,t≤a∧a≤hi∧G a)∧B t e0∨(¬ ∃a,t≤a∧a≤hi∧G a)∧B t (e2 (hi+1)))
 (h0:∀t,lo≤t→t≤hi→G t→A t e0) (h1:∀t,lo≤t→t≤hi→¬G t→(∀r,B (t+1) r→A t r)∨(∀r,A (t+1) r→A t r)) (h2:A (hi+1) (e1 (hi+1))) :
 ∀(n:Nat) (t:Int),t+n=hi+1→lo≤t→(∃a,t≤a∧a≤hi∧G a)∧A t e0∨(¬ ∃a,t≤a∧a≤hi∧G a)∧(A t (e1 (hi+1))∨A t (e2 (hi+1)))
 | 0,t,ht,_=>by
  grind
 | n + 1,t,ht,hm=>by
  have up:(¬ ∃a,t+1≤a∧a≤hi∧G a)→¬G t→¬ ∃a,t≤a∧a≤hi∧G a:=fun hn e ⟨a,h1,h2,h3⟩=>by
   grind
  by_cases e:G t
  ·grind
  ·rcases h1 t hm (by omega) e with go | go
   ·grind
   ·rcases zjw A B G lo hi e0 e1 e2 hB h0 h1 h2 n (t+1) (by omega) (by omega) with ⟨⟨a,h1,h2,h3⟩,k⟩ | ⟨hn,k | k⟩
    ·grind
    ·simp_all
    simp_all
def Red (p:List Int):Prop:=p.length≠2∧((∃x,pv p x=0)∨p.length=5∧∃b,b≠0∧b∣p.getD 0 0∧Q2 p b)
noncomputable def red (p:List Int):Bool:=@decide (Red p) (Classical.propDecidable _)
theorem zqc {p:List Int} (h:Red p):AV.lit (.bool (red p))=.lit (.bool true):=by unfold red;simp_all
theorem ziI {p:List Int} (h:¬Red p):AV.lit (.bool (red p))=.lit (.bool false):=by unfold red;simp_all
def zcx (p:List Int):Prop:=2≤p.length∧p.length≤5∧(∀c∈p,c.natAbs≤1000)
instance tRed {p:List Int}:Tst (zcx p):=⟨false,fun h=>by cases h⟩
theorem pv_dvd {p:List Int} {x:Int} (h:pv p x=0):x∣p.getD 0 0:=by
 cases p with
 | nil=>simp
 | cons c l=>exact ⟨- pv l x,by simp only [pv] at h;simp;grind⟩
theorem zj4 {p:List Int} (h:p.getD 0 0=0):pv p 0=0:=by
 cases p with
 | nil=>rfl
 | cons c l=>simp only [pv];simp at h;omega
theorem dvdB {x a:Int} (h:x∣a) (h0:a≠0):x.natAbs≤a.natAbs:=Nat.le_of_dvd (by omega) (Int.natAbs_dvd_natAbs.2 h)
theorem ttT {P:Program} {f:FuncId} {a:List AV} {b:Bool} (h:FC P f a .tt) (e:AV.lit (.bool b)=.lit (.bool true)):FC P f a (.lit (.bool b)):=by rw [e];exact h.res fun E v hv=>by cases hv;exact .lit _
theorem ffF {P:Program} {f:FuncId} {a:List AV} {b:Bool} (h:FC P f a .ff) (e:AV.lit (.bool b)=.lit (.bool false)):FC P f a (.lit (.bool b)):=by rw [e];exact h.res fun E v hv=>by cases hv;exact .lit _
def Dv (n:Int) (H:Int→Prop) (t:Int):Prop:=Int.tmod n t=0∧(H t∨H (0-t))
theorem dv_ex {n:Int} (h0:n≠0) {H:Int→Prop} {m:Int} (hm:m=(if 0-n > n then 0-n else n)):(∃a,1≤a∧a≤m∧Dv n H a)↔∃b,b≠0∧b∣n∧H b:=by
 constructor
 ·rintro ⟨a,h1,h2,h3,h4⟩
  have hd:=Int.dvd_of_tmod_eq_zero h3
  rcases h4 with h | h
  ·grind
  ·exact ⟨0-a,by omega,by simp_all,h⟩
 ·rintro ⟨b,h1,h2,h3⟩
  have hb:=dvdB h2 h0
  have hm':(m:Int)=n.natAbs:=by subst hm;split<;>omega
  rcases Int.lt_or_le 0 b with h | h
  ·exact ⟨b,by omega,by omega,Int.tmod_eq_zero_of_dvd h2,.inl h3⟩
  ·refine ⟨-b,by omega,by omega,Int.tmod_eq_zero_of_dvd ((Int.neg_dvd).2 h2),.inr ?_⟩
   simp_all
theorem dv0 {p:List Int} (h:zcx p) (h0:p.getD 0 0≠0) {m:Int} (hm:m=(if 0-p.getD 0 0 > p.getD 0 0 then 0-p.getD 0 0 else p.getD 0 0)) :
 (∃b,b≠0∧b∣p.getD 0 0∧pv p b=0)∧zbk (zae (p.getD 0 0) p 1) (Ex.ret,zcm (p.getD 0 0) p) ∨
 (¬ ∃b,b≠0∧b∣p.getD 0 0∧pv p b=0)∧(zbk (zae (p.getD 0 0) p 1) (Ex.exit 0,zcn (p.getD 0 0) p (m+1))∨zbk (zae (p.getD 0 0) p 1) (Ex.exit 0,zco (p.getD 0 0) p (m+1))):=by
 obtain ⟨h2,h5,ha⟩:=h
 have g0:=zeb ha 0
 have hm':(m:Int)=(p.getD 0 0).natAbs:=by subst hm;split<;>omega
 have pp:∀t:Int,t.natAbs≤1000→pPv p t:=fun t ht=>⟨h2,h5,ha,by omega⟩
 rw [← dv_ex h0 hm]
 refine zjw (fun t=>zbk (zae (p.getD 0 0) p t)) (fun t=>zbk (zbY (p.getD 0 0) p t)) (Dv (p.getD 0 0) fun t=>pv p t=0) 1 m (Ex.ret,zcm (p.getD 0 0) p) (fun t=>(Ex.exit 0,zcn (p.getD 0 0) p t)) (fun t=>(Ex.exit 0,zco (p.getD 0 0) p t)) ?_ ?_ ?_ ?_ m.toNat 1 (by omega) (by omega)
 ·refine zd6 (fun t=>zbk (zbY (p.getD 0 0) p t)) _ 1 m _ (fun t=>(Ex.exit 0,zco (p.getD 0 0) p t)) ?_ ?_ ?_
  ·rintro t t1 t2 ⟨k1,k2⟩
   by_cases k3:pv p t=0
   ·exact dv_L0_1_0 _ _ t (by omega) (by omega) (by omega) k1 (pp _ (by omega)) k3
   ·exact dv_L0_1_1 _ _ t (by omega) (by omega) (by omega) k1 (pp _ (by omega)) k3 (by omega) (pp _ (by omega)) (k2.resolve_left k3)
  ·intro t t1 t2 hn r k
   by_cases k1:Int.tmod (p.getD 0 0) t=0
   ·have n1:pv p t≠0:=fun e=>hn ⟨k1,.inl e⟩
    have n2:pv p (0-t)≠0:=fun e=>hn ⟨k1,.inr e⟩
    exact dv_L0_1_2 _ _ t (by omega) (by omega) (by omega) k1 (pp _ (by omega)) n1 (by omega) (pp _ (by omega)) n2 (by omega) k
   ·exact dv_L0_1_3 _ _ t (by omega) (by omega) (by omega) k1 (by omega) k
  ·exact dv_L0_1_4 _ _ _ (by omega) (by omega)
 ·rintro t t1 t2 ⟨k1,k2⟩
  by_cases k3:pv p t=0
  ·exact dv_L0_0_0 _ _ t (by omega) (by omega) (by omega) k1 (pp _ (by omega)) k3
  ·exact dv_L0_0_1 _ _ t (by omega) (by omega) (by omega) k1 (pp _ (by omega)) k3 (by omega) (pp _ (by omega)) (k2.resolve_left k3)
 ·intro t t1 t2 hn
  by_cases k1:Int.tmod (p.getD 0 0) t=0
  ·have n1:pv p t≠0:=fun e=>hn ⟨k1,.inl e⟩
   have n2:pv p (0-t)≠0:=fun e=>hn ⟨k1,.inr e⟩
   exact .inl fun r k=>dv_L0_0_2 _ _ t (by omega) (by omega) (by omega) k1 (pp _ (by omega)) n1 (by omega) (pp _ (by omega)) n2 (by omega) k
  ·exact .inr fun r k=>dv_L0_0_3 _ _ t (by omega) (by omega) (by omega) k1 (by omega) k
 ·exact dv_L0_0_4 _ _ _ (by omega) (by omega)
theorem dv1 {p:List Int} (h:zcx p) (hl:p.length=5) (h0:p.getD 0 0≠0) {m:Int} (hm:m=(if 0-p.getD 0 0 > p.getD 0 0 then 0-p.getD 0 0 else p.getD 0 0)) :
 (∃b,b≠0∧b∣p.getD 0 0∧Q2 p b)∧zcp (zaP (p.getD 0 0) p 1) (Ex.ret,zcq (p.getD 0 0) p) ∨
 (¬ ∃b,b≠0∧b∣p.getD 0 0∧Q2 p b)∧(zcp (zaP (p.getD 0 0) p 1) (Ex.exit 0,zgr (p.getD 0 0) p (m+1))∨zcp (zaP (p.getD 0 0) p 1) (Ex.exit 0,zev (p.getD 0 0) p (m+1))):=by
 obtain ⟨h2,_,ha⟩:=h
 have h5:=hl
 have g0:=zeb ha 0
 have hm':(m:Int)=(p.getD 0 0).natAbs:=by subst hm;split<;>omega
 have pp:∀t:Int,t≠0→t.natAbs≤1000→pD2 p t:=fun t h1 ht=>⟨h5,ha,h1,ht⟩
 rw [← dv_ex h0 hm]
 refine zjw (fun t=>zcp (zaP (p.getD 0 0) p t)) (fun t=>zcp (zbZ (p.getD 0 0) p t)) (Dv (p.getD 0 0) fun t=>Q2 p t) 1 m (Ex.ret,zcq (p.getD 0 0) p) (fun t=>(Ex.exit 0,zgr (p.getD 0 0) p t)) (fun t=>(Ex.exit 0,zev (p.getD 0 0) p t)) ?_ ?_ ?_ ?_ m.toNat 1 (by omega) (by omega)
 ·refine zd6 (fun t=>zcp (zbZ (p.getD 0 0) p t)) _ 1 m _ (fun t=>(Ex.exit 0,zev (p.getD 0 0) p t)) ?_ ?_ ?_
  ·rintro t t1 t2 ⟨k1,k2⟩
   by_cases k3:Q2 p t
   ·exact dv_L1_1_0 _ _ t (by omega) (by omega) (by omega) k1 (pp _ (by omega) (by omega)) (q2_t k3)
   ·exact dv_L1_1_1 _ _ t (by omega) (by omega) (by omega) k1 (pp _ (by omega) (by omega)) (zrW k3) (by omega) (pp _ (by omega) (by omega)) (q2_t (k2.resolve_left k3))
  ·intro t t1 t2 hn r k
   by_cases k1:Int.tmod (p.getD 0 0) t=0
   ·have n1:=zrW fun(e:Q2 p t)=>hn ⟨k1,.inl e⟩
    have n2:=zrW fun(e:Q2 p (0-t))=>hn ⟨k1,.inr e⟩
    exact dv_L1_1_2 _ _ t (by omega) (by omega) (by omega) k1 (pp _ (by omega) (by omega)) n1 (by omega) (pp _ (by omega) (by omega)) n2 (by omega) k
   ·exact dv_L1_1_3 _ _ t (by omega) (by omega) (by omega) k1 (by omega) k
  ·exact dv_L1_1_4 _ _ _ (by omega) (by omega)
 ·rintro t t1 t2 ⟨k1,k2⟩
  by_cases k3:Q2 p t
  ·exact dv_L1_0_0 _ _ t (by omega) (by omega) (by omega) k1 (pp _ (by omega) (by omega)) (q2_t k3)
  ·exact dv_L1_0_1 _ _ t (by omega) (by omega) (by omega) k1 (pp _ (by omega) (by omega)) (zrW k3) (by omega) (pp _ (by omega) (by omega)) (q2_t (k2.resolve_left k3))
 ·intro t t1 t2 hn
  by_cases k1:Int.tmod (p.getD 0 0) t=0
  ·have n1:=zrW fun(e:Q2 p t)=>hn ⟨k1,.inl e⟩
   have n2:=zrW fun(e:Q2 p (0-t))=>hn ⟨k1,.inr e⟩
   exact .inl fun r k=>dv_L1_0_2 _ _ t (by omega) (by omega) (by omega) k1 (pp _ (by omega) (by omega)) n1 (by omega) (pp _ (by omega) (by omega)) n2 (by omega) k
  ·exact .inr fun r k=>dv_L1_0_3 _ _ t (by omega) (by omega) (by omega) k1 (by omega) k
 ·exact dv_L1_0_4 _ _ _ (by omega) (by omega)
theorem dv2 {p:List Int} (h:zcx p) (hl:p.length=5) (h0:p.getD 0 0≠0) {m:Int} (hm:m=(if 0-p.getD 0 0 > p.getD 0 0 then 0-p.getD 0 0 else p.getD 0 0)) :
 (∃b,b≠0∧b∣p.getD 0 0∧Q2 p b)∧ziz (za9 (p.getD 0 0) p 1) (Ex.ret,zgs (p.getD 0 0) p) ∨
 (¬ ∃b,b≠0∧b∣p.getD 0 0∧Q2 p b)∧ziz (za9 (p.getD 0 0) p 1) (Ex.exit 0,zgt (p.getD 0 0) p (m+1)):=by
 obtain ⟨h2,_,ha⟩:=h
 have g0:=zeb ha 0
 have hm':(m:Int)=(p.getD 0 0).natAbs:=by subst hm;split<;>omega
 have pp:∀t:Int,t≠0→t.natAbs≤1000→pD2 p t:=fun t h1 ht=>⟨hl,ha,h1,ht⟩
 rw [← dv_ex h0 hm]
 refine zd6 (fun t=>ziz (za9 (p.getD 0 0) p t)) (Dv (p.getD 0 0) fun t=>Q2 p t) 1 m _ (fun t=>(Ex.exit 0,zgt (p.getD 0 0) p t)) ?_ ?_ ?_ m.toNat 1 (by omega) (by omega)
 ·rintro t t1 t2 ⟨k1,k2⟩
  by_cases k3:Q2 p t
  ·exact dv_L2_0_0 _ _ t (by omega) (by omega) (by omega) k1 (pp _ (by omega) (by omega)) (q2_t k3)
  ·exact dv_L2_0_1 _ _ t (by omega) (by omega) (by omega) k1 (pp _ (by omega) (by omega)) (zrW k3) (by omega) (pp _ (by omega) (by omega)) (q2_t (k2.resolve_left k3))
 ·intro t t1 t2 hn r k
  by_cases k1:Int.tmod (p.getD 0 0) t=0
  ·have n1:=zrW fun(e:Q2 p t)=>hn ⟨k1,.inl e⟩
   have n2:=zrW fun(e:Q2 p (0-t))=>hn ⟨k1,.inr e⟩
   exact dv_L2_0_2 _ _ t (by omega) (by omega) (by omega) k1 (pp _ (by omega) (by omega)) n1 (by omega) (pp _ (by omega) (by omega)) n2 (by omega) k
  ·exact dv_L2_0_3 _ _ t (by omega) (by omega) (by omega) k1 (by omega) k
 ·exact dv_L2_0_4 _ _ _ (by omega) (by omega)
theorem zoZ (p:List Int) (h:zcx p):FC tP 110 [.sq p] (.lit (.bool (red p))):=by
 have h':=h
 obtain ⟨h2,h5,ha⟩:=h'
 have g0:=zeb ha 0
 by_cases e2:p.length=2
 ·exact ffF (dv_0 p (by omega) (by omega)) (ziI fun k=>k.1 e2)
 by_cases e0:p.getD 0 0=0
 ·exact ttT (dv_1 p (by omega) (by omega) (by omega) (by omega) e0) (zqc ⟨e2,.inl ⟨0,zj4 e0⟩⟩)
 have q1:-9223372036854775808≤(p.length:Int)-1∧(p.length:Int)-1≤9223372036854775807:=by omega
 have q2:(p.length:Int)-1≠1:=by omega
 have q3:(0:Int)<p.length:=by omega
 have q4:0<p.length:=by omega
 have q5:p.length=5→¬((p.length:Int)-1<4):=fun h=>by omega
 have q6:p.length≠5→(p.length:Int)-1<4:=fun h=>by omega
 have hr:(∃x,pv p x=0)↔∃b,b≠0∧b∣p.getD 0 0∧pv p b=0:=
  ⟨fun ⟨x,hx⟩=>⟨x,fun e=>e0 (by have:=pv_dvd hx;simp_all),pv_dvd hx,hx⟩,fun ⟨b,_,_,hb⟩=>⟨b,hb⟩⟩
 rcases dv0 h e0 rfl with ⟨ex,k⟩ | ⟨nx,k⟩
 ·exact ttT (dv_2 p q1 q2 q3 q4 e0 k) (zqc ⟨e2,.inl (hr.2 ex)⟩)
 by_cases e5:p.length=5
 ·rcases k with k | k
  ·rcases dv1 h e5 e0 rfl with ⟨ex,j⟩ | ⟨ny,j⟩
   ·exact ttT (dv_4 p _ q1 q2 q3 q4 e0 k (q5 e5) j) (zqc ⟨e2,.inr ⟨e5,ex⟩⟩)
   ·have nr:¬Red p:=fun r=>r.2.elim (fun hx=>nx (hr.1 hx)) fun hx=>ny hx.2
    rcases j with j | j
    ·exact ffF (dv_5 p _ _ q1 q2 q3 q4 e0 k (q5 e5) j) (ziI nr)
    ·exact ffF (dv_6 p _ _ q1 q2 q3 q4 e0 k (q5 e5) j) (ziI nr)
  ·rcases dv2 h e5 e0 rfl with ⟨ex,j⟩ | ⟨ny,j⟩
   ·exact ttT (dv_8 p _ q1 q2 q3 q4 e0 k (q5 e5) j) (zqc ⟨e2,.inr ⟨e5,ex⟩⟩)
   ·exact ffF (dv_9 p _ _ q1 q2 q3 q4 e0 k (q5 e5) j) (ziI fun r=>r.2.elim (fun hx=>nx (hr.1 hx)) fun hx=>ny hx.2)
 ·have nr:¬Red p:=fun r=>r.2.elim (fun hx=>nx (hr.1 hx)) fun hx=>e5 hx.1
  rcases k with k | k
  ·exact ffF (dv_3 p _ q1 q2 q3 q4 e0 k (q6 e5)) (ziI nr)
  ·exact ffF (dv_7 p _ q1 q2 q3 q4 e0 k (q6 e5)) (ziI nr)
def Eq2 (p:List Int) (b a:Int):Prop:=b*(p.getD 2 0-b-a*(p.getD 3 0-a))=p.getD 0 0∧a*(p.getD 2 0-b-a*(p.getD 3 0-a))+b*(p.getD 3 0-a)=p.getD 1 0
theorem re2 {p:List Int} (hl:p.length=5) (ha:∀c∈p,c.natAbs≤1000) {b:Int} (hb:b.natAbs≤1000) :
 (∃a,-2002≤a∧a≤2002∧Eq2 p b a)∧zkc (zbC p 4 b (-2002)) (Ex.ret,zkd p 4 b)∨(¬ ∃a,-2002≤a∧a≤2002∧Eq2 p b a)∧zkc (zbC p 4 b (-2002)) (Ex.exit 4,zgD p 4 b 2003):=by
 have g0:=zeb ha 0
 have g1:=zeb ha 1
 have g2:=zeb ha 2
 have g3:=zeb ha 3
 refine zd6 (fun t=>zkc (zbC p 4 b t)) (Eq2 p b) (-2002) 2002 _ (fun t=>(Ex.exit 4,zgD p 4 b t)) ?_ ?_ ?_ 4005 (-2002) (by omega) (by omega)
 ·rintro t t1 t2 ⟨k1,k2⟩
  have m1:=zlp (a:=t) (b:=p.getD 3 0-t) (A:=2002) (B:=3002) (by omega) (by omega)
  have m2:=zlp (a:=b) (b:=p.getD 2 0-b-t*(p.getD 3 0-t)) (A:=1000) (B:=6012004) (by omega) (by omega)
  have m3:=zlp (a:=t) (b:=p.getD 2 0-b-t*(p.getD 3 0-t)) (A:=2002) (B:=6012004) (by omega) (by omega)
  have m4:=zlp (a:=b) (b:=p.getD 3 0-t) (A:=1000) (B:=3002) (by omega) (by omega)
  exact re_L2_0_0 p 4 b t (by omega) (by omega) (by omega) (by omega) (by omega) (by omega) (by omega) (by omega) (by omega) (by omega) (by omega) (by omega) k1 (by omega) (by omega) (by omega) (by omega) (by omega) k2
 ·intro t t1 t2 hn r k
  have m1:=zlp (a:=t) (b:=p.getD 3 0-t) (A:=2002) (B:=3002) (by omega) (by omega)
  have m2:=zlp (a:=b) (b:=p.getD 2 0-b-t*(p.getD 3 0-t)) (A:=1000) (B:=6012004) (by omega) (by omega)
  have m3:=zlp (a:=t) (b:=p.getD 2 0-b-t*(p.getD 3 0-t)) (A:=2002) (B:=6012004) (by omega) (by omega)
  have m4:=zlp (a:=b) (b:=p.getD 3 0-t) (A:=1000) (B:=3002) (by omega) (by omega)
  by_cases k1:b*(p.getD 2 0-b-t*(p.getD 3 0-t))=p.getD 0 0
  ·exact re_L2_0_1 p 4 b t (by omega) (by omega) (by omega) (by omega) (by omega) (by omega) (by omega) (by omega) (by omega) (by omega) (by omega) (by omega) k1 (by omega) (by omega) (by omega) (by omega) (by omega) (fun k2=>hn ⟨k1,k2⟩) (by omega) k
  ·exact re_L2_0_2 p 4 b t (by omega) (by omega) (by omega) (by omega) (by omega) (by omega) (by omega) (by omega) (by omega) (by omega) (by omega) (by omega) k1 (by omega) k
 ·exact re_L2_0_3 p 4 b _ (by omega)
theorem eq2_iff {p:List Int} (ha:∀c∈p,c.natAbs≤1000) (h0:p.getD 0 0≠0) {b:Int} (hb0:b≠0) (hd:b∣p.getD 0 0):(∃a,-2002≤a∧a≤2002∧Eq2 p b a)↔Q2 p b:=by
 have g0:=zeb ha 0
 have g2:=zeb ha 2
 have g3:=zeb ha 3
 have hm:=Int.mul_tdiv_cancel' hd
 have hb:=dvdB hd h0
 have hq:=tdivB (p.getD 0 0) b
 constructor
 ·rintro ⟨a,_,_,k1,k2⟩
  have e:p.getD 2 0-b-a*(p.getD 3 0-a)=Int.tdiv (p.getD 0 0) b:=Int.eq_of_mul_eq_mul_left hb0 (by rw [k1,hm])
  rw [e] at k2
  exact ⟨a,by omega,k2⟩
 ·rintro ⟨a,k1,k2⟩
  have e:p.getD 2 0-b-a*(p.getD 3 0-a)=Int.tdiv (p.getD 0 0) b:=by omega
  have hr:-2002≤a∧a≤2002:=by
   by_cases hr:-2002≤a∧a≤2002
   ·exact hr
   ·have m1:(a*(p.getD 3 0-a)).natAbs≤3000:=by omega
    rw [Int.natAbs_mul] at m1
    have m2:2003*1003≤a.natAbs*(p.getD 3 0-a).natAbs:=Nat.mul_le_mul (by omega) (by omega)
    omega
  exact ⟨a,hr.1,hr.2,by rw [Eq2,e];exact ⟨hm,k2⟩⟩
theorem re0 {p:List Int} (h:zcx p) (n:Int):(∃x,pv p x=0)∧zka (zb1 p n (-1001)) (Ex.ret,zkb p n)∨(¬ ∃x,pv p x=0)∧zka (zb1 p n (-1001)) (Ex.exit 0,zeS p n 1002):=by
 obtain ⟨h2,h5,ha⟩:=h
 have g0:=zeb ha 0
 have pp:∀t:Int,t.natAbs≤1001→pPv p t:=fun t ht=>⟨h2,h5,ha,by omega⟩
 have hr:(∃x,pv p x=0)↔∃x,-1001≤x∧x≤1001∧pv p x=0:=by
  constructor
  ·rintro ⟨x,hx⟩
   by_cases e:p.getD 0 0=0
   ·exact ⟨0,by omega,by omega,zj4 e⟩
   ·have:=dvdB (pv_dvd hx) e
    grind
  grind
 rw [hr]
 refine zd6 (fun t=>zka (zb1 p n t)) (fun x=>pv p x=0) (-1001) 1001 _ (fun t=>(Ex.exit 0,zeS p n t)) ?_ ?_ ?_ 2003 (-1001) (by omega) (by omega)
 ·intro t t1 t2 k;exact re_L0_0_0 p n t (by omega) (pp t (by omega)) k
 ·intro t t1 t2 k r j;exact re_L0_0_1 p n t (by omega) (pp t (by omega)) k (by omega) j
 ·exact re_L0_0_2 p n _ (by omega)
theorem re3 {p:List Int} (h:zcx p) (hl:p.length=5) (h0:p.getD 0 0≠0):(∃b,b≠0∧b∣p.getD 0 0∧Q2 p b)∧zhI (zaF p 4 (-1000)) (Ex.ret,zke p 4)∨(¬ ∃b,b≠0∧b∣p.getD 0 0∧Q2 p b)∧zhI (zaF p 4 (-1000)) (Ex.exit 2,zeT p 4 1001):=by
 obtain ⟨h2,h5,ha⟩:=h
 have g0:=zeb ha 0
 have hr:(∃b,b≠0∧b∣p.getD 0 0∧Q2 p b)↔∃b,-1000≤b∧b≤1000∧(b≠0∧b∣p.getD 0 0∧Q2 p b):=
  ⟨fun ⟨b,k⟩=>⟨b,by have:=dvdB k.2.1 h0;omega,by have:=dvdB k.2.1 h0;omega,k⟩,fun ⟨b,_,_,k⟩=>⟨b,k⟩⟩
 rw [hr]
 refine zd6 (fun t=>zhI (zaF p 4 t)) (fun b=>b≠0∧b∣p.getD 0 0∧Q2 p b) (-1000) 1000 _ (fun t=>(Ex.exit 2,zeT p 4 t)) ?_ ?_ ?_ 2001 (-1000) (by omega) (by omega)
 ·rintro t t1 t2 ⟨k1,k2,k3⟩
  rcases re2 hl ha (b:=t) (by omega) with ⟨ex,j⟩ | ⟨nx,j⟩
  ·exact re_L3_0_2 p 4 t (by omega) rfl k1 (by omega) (by omega) k1 (Int.tmod_eq_zero_of_dvd k2) j
  ·exact absurd ((eq2_iff ha h0 k1 k2).2 k3) nx
 ·intro t t1 t2 hn r k
  by_cases k1:t=0
  ·exact re_L3_0_0 p 4 t (by omega) rfl k1 (by omega) k
  by_cases k2:Int.tmod (p.getD 0 0) t=0
  ·rcases re2 hl ha (b:=t) (by omega) with ⟨ex,j⟩ | ⟨nx,j⟩
   ·exact absurd ⟨k1,Int.dvd_of_tmod_eq_zero k2,(eq2_iff ha h0 k1 (Int.dvd_of_tmod_eq_zero k2)).1 ex⟩ hn
   ·exact re_L3_0_3 p 4 t _ (by omega) rfl k1 (by omega) (by omega) k1 k2 j (by omega) k
  ·exact re_L3_0_1 p 4 t (by omega) rfl k1 (by omega) (by omega) k1 k2 (by omega) k
 ·exact re_L3_0_5 p 4 _ (by omega)
theorem zkA (p:List Int) (h:zcx p):FC tP 98 [.sq p] (.lit (.bool (red p))):=by
 have h':=h
 obtain ⟨h2,h5,ha⟩:=h'
 by_cases e2:p.length=2
 ·exact ffF (re_0 p (by omega) (by omega)) (ziI fun k=>k.1 e2)
 rcases re0 h ((p.length:Int)-1) with ⟨ex,k⟩ | ⟨nx,k⟩
 ·exact ttT (re_1 p (by omega) (by omega) k) (zqc ⟨e2,.inl ex⟩)
 have e0:p.getD 0 0≠0:=fun e=>nx ⟨0,zj4 e⟩
 by_cases e5:p.length=5
 ·have e4:(p.length:Int)-1=4:=by omega
  have r2:=fun t4=>re_2 p t4 (by omega) (by omega)
  have r3:=fun t4 t5=>re_3 p t4 t5 (by omega) (by omega)
  rw [e4] at k r2 r3
  rcases re3 h e5 e0 with ⟨ex,j⟩ | ⟨ny,j⟩
  ·exact ttT (r2 _ k j) (zqc ⟨e2,.inr ⟨e5,ex⟩⟩)
  ·exact ffF (r3 _ _ k j) (ziI fun r=>r.2.elim nx fun hx=>ny hx.2)
 ·exact ffF (re_3 p _ _ (by omega) (by omega) k (re_L3_0_4 p _ _ (by omega) (by omega))) (ziI fun r=>r.2.elim nx fun hx=>e5 hx.1)
noncomputable def ctrH3:Ctr:=(110,cL zcx (fun p=>.lit (.bool (red p)))) :: (98,cL zcx (fun p=>.lit (.bool (red p)))) :: ctrH
theorem zkW:∀p∈ctrH3,jZ tP p.1 p.2:=CAll.cons (zjt zoZ) (CAll.cons (zjt zkA) zjx)
abbrev kdW:List (TypeId × EK):=[(97,.whole)]
theorem ziG:(eZ tP ctrH3 bw [] kdW).OK:=vZ zaC mixed zkW zaA
noncomputable section
abbrev zpD (s:St) (r:Ex × St):Prop:=Loops 1 tP (kZ tP 101 0) s r
abbrev zmZ (a:List Int) (b c d e:Int):St:=⟨sp 20 [(3,aN),(7,.sq a),(8,aI b),(9,aI 0)],[.flat [.sq a,aI c,aI d,aI e] true],[]⟩
abbrev zhA (a:List Int) (b c d e:Int) (f:Nat) (g:Int) (i:List Int):St:=⟨sp 20 [(3,.own 1 0 f 2),(7,.sq a),(8,aI b),(9,aI g)],[.flat [.sq a,aI c,aI d,aI e] true,.lst EK.whole i true],[]⟩
abbrev po_L0_E0 (a:List Int) (b c d e:Int):St:=⟨sp 20 [(3,aN),(7,.sq a),(8,aI b),(9,aI 0)],[.flat [.sq a,aI c,aI d,aI e] true],[]⟩
abbrev zj2 (a:List Int) (b c d e:Int) (f:Nat) (g:Int) (i:List Int):St:=⟨sp 20 [(3,.own 1 0 f 2),(7,.sq a),(8,aI b),(9,aI g)],[.flat [.sq a,aI c,aI d,aI e] true,.lst EK.whole i true],[]⟩
theorem po_L0_0_0 (a:List Int) (b d f g:Int) (h1:0<b) (h2:0<(a.length:Int)) (h3:0<a.length) (h4:cZ (a.getD 0 0)) (h5:1≤List.length [a.getD 0 0]) (h6:0<(List.take 1 [a.getD 0 0]).length) (h7:(List.take 1 [a.getD 0 0]).length*32≤140737488355328) (h8:(List.take 1 [a.getD 0 0]).length≤4611686018427387904):LG zpD (zmZ a b d f g) (zhA a b d f g (1) (1) ([a.getD 0 0])):=Loops.go (LS.at ziG 60 [2] [3,7,8,9] [] [1] (.t h1<|.t h2<|.t h3<|.c h4<|.c h5<|.t h6<|.t h7<|.t h8<|.e) [1,0,2,3,4,0,5,6,7,8,0])
theorem po_L0_0_1 (a:List Int) (b c d g:Int) (h1:¬(0<b)):zpD (zmZ a b c d g) (Ex.exit 0,(po_L0_E0 a b c d g)):=LF (LS.at ziG 60 [] [3,7,8,9] [] [0] (.f h1<|.e) [1])
theorem po_L0_1_0 (a:List Int) (b d f g:Int) (j:Nat) (l:Int) (m:List Int) (h1:l<b) (h2:0≤l) (h3:l<(a.length:Int)) (h4:l.toNat<a.length) (h5:cZ (a.getD l.toNat 0)) (h6:1≤List.length [a.getD l.toNat 0]) (h7:(j+(List.take 1 [a.getD l.toNat 0]).length)*32≤140737488355328) (h8:j+(List.take 1 [a.getD l.toNat 0]).length≤4611686018427387904) (h9:j≤m.length) (h10:r64 (l+1)):LG zpD (zhA a b d f g j l m) (zhA a b d f g (j+(List.take 1 [a.getD l.toNat 0]).length) (l+1) (m.take j++List.take 1 [a.getD l.toNat 0])):=Loops.go (LS.at ziG 60 [3] [3,7,8,9] [] [1] (.t h1<|.t h2<|.t h3<|.t h4<|.c h5<|.c h6<|.t h7<|.t h8<|.t h9<|.i h10<|.e) [1,2,3,4,5,0,6,7,8,9,10])
theorem po_L0_1_1 (a:List Int) (b c d g:Int) (i:Nat) (j:Int) (l:List Int) (h1:¬(j<b)):zpD (zhA a b c d g i j l) (Ex.exit 0,(zj2 a b c d g i j l)):=LF (LS.at ziG 60 [1] [3,7,8,9] [] [0] (.f h1<|.e) [1])
theorem po_1 (p:List Int) (a b c:Int) (d:Nat) (f:Int) (g:List Int) (hL1:zpD (zmZ p ((p.length:Int)) a b c) (Ex.exit 0,(zj2 p ((p.length:Int)) a b c d f g))) (h2:d≤g.length):FC tP 101 [.agg [.sq p,lI a,lI b,lI c]] (.lst EK.whole (g.take d)):=dZ ziG 60 [] (.v [3,7,8,9] [] hL1<|.c h2<|.e) [0,1,2]
abbrev zmC (s:St) (r:Ex × St):Prop:=Loops 0 tP (kZ tP 180 0) s r
abbrev zhc (a:List Int) (b c:Int):St:=⟨sp 24 [(3,aN),(6,.lst EK.whole a),(7,aI b),(8,aI c)],[],[]⟩
abbrev zhd (a:List Int) (b:Int) (c:Nat) (d:Int) (e:List Int):St:=⟨sp 24 [(3,.own 0 0 c 2),(6,.lst EK.whole a),(7,aI b),(8,aI d)],[.lst EK.whole e true],[]⟩
abbrev zgq (a:List Int) (b:Int) (c:Nat) (d:Int) (e:List Int):St:=⟨sp 24 [(3,.own 0 0 c 2),(6,.lst EK.whole a),(7,aI b),(8,aI d)],[.lst EK.whole e true],[]⟩
theorem dr_L0_0_0 (a:List Int) (b d:Int) (h1:d<b) (h2:0≤d) (h3:d<(a.length:Int)) (h4:d > 0) (h5:cZ d) (h6:decide (a.getD d.toNat 0<OfNat.ofNat 0)=decide (a.getD d.toNat 0<0)) (h7:pDD (a.getD d.toNat 0) d) (h8:1≤List.length [a.getD d.toNat 0*d]) (h9:0<(List.take 1 [a.getD d.toNat 0*d]).length) (h10:(List.take 1 [a.getD d.toNat 0*d]).length*32≤140737488355328) (h11:(List.take 1 [a.getD d.toNat 0*d]).length≤4611686018427387904) (h12:r64 (d+1)):LG zmC (zhc a b d) (zhd a b (1) (d+1) ([a.getD d.toNat 0*d])):=Loops.go (LS.at ziG 60 [2] [3,6,7,8] [] [1,1] (.t h1<|.t h2<|.t h3<|.t h4<|.c h5<|.c h6<|.c h7<|.c h8<|.t h9<|.t h10<|.t h11<|.i h12<|.e) [1,2,3,4,5,6,0,7,0,8,9,10,11,12])
theorem dr_L0_0_1 (a:List Int) (b c:Int) (h1:c<b) (h2:0≤c) (h3:c<(a.length:Int)) (h4:¬(c > 0)) (h5:r64 (c+1)):LG zmC (zhc a b c) (zhc a b (c+1)):=Loops.go (LS.at ziG 60 [] [3,6,7,8] [] [1,0] (.t h1<|.t h2<|.t h3<|.f h4<|.i h5<|.e) [1,2,3,4,5])
theorem dr_L0_1_0 (a:List Int) (b:Int) (d:Nat) (f:Int) (g:List Int) (h1:f<b) (h2:0≤f) (h3:f<(a.length:Int)) (h4:f > 0) (h5:cZ f) (h6:decide (a.getD f.toNat 0<OfNat.ofNat 0)=decide (a.getD f.toNat 0<0)) (h7:pDD (a.getD f.toNat 0) f) (h8:1≤List.length [a.getD f.toNat 0*f]) (h9:(d+(List.take 1 [a.getD f.toNat 0*f]).length)*32≤140737488355328) (h10:d+(List.take 1 [a.getD f.toNat 0*f]).length≤4611686018427387904) (h11:d≤g.length) (h12:r64 (f+1)):LG zmC (zhd a b d f g) (zhd a b (d+(List.take 1 [a.getD f.toNat 0*f]).length) (f+1) (g.take d++List.take 1 [a.getD f.toNat 0*f])):=Loops.go (LS.at ziG 60 [3] [3,6,7,8] [] [1,1] (.t h1<|.t h2<|.t h3<|.t h4<|.c h5<|.c h6<|.c h7<|.c h8<|.t h9<|.t h10<|.t h11<|.i h12<|.e) [1,2,3,4,5,6,0,7,0,8,9,10,11,12])
theorem dr_L0_1_2 (a:List Int) (b:Int) (c:Nat) (d:Int) (g:List Int) (h1:¬(d<b)):zmC (zhd a b c d g) (Ex.exit 0,(zgq a b c d g)):=LF (LS.at ziG 60 [0] [3,6,7,8] [] [0] (.f h1<|.e) [1])
theorem dr_1 (p:List Int) (a:Nat) (b:Int) (d:List Int) (hL1:zmC (zhc p ((p.length:Int)) (0)) (Ex.exit 0,(zgq p ((p.length:Int)) a b d))) (h2:a≤d.length):FC tP 180 [.lst .whole p] (.lst EK.whole (d.take a)):=dZ ziG 60 [] (.v [3,6,7,8] [] hL1<|.c h2<|.e) [0,1,2]
end
theorem zoz {l:List Int} {k:Nat} (h:k<l.length):List.take k (List.take k l)++List.take 1 [l.getD k 0]=l.take (k+1):=by
 rw [List.take_take,Nat.min_self,List.take_succ_eq_append_getElem h]
 simp [List.getD,h]
theorem flB {x:Int} (h:x.natAbs≤1000):cZ x:=by unfold cZ;omega
theorem po_loop {p:List Int} (h:zcx p) (a b c:Int):∀(n k:Nat),k+n=p.length→1≤k→zpD (zhA p p.length a b c k k (p.take k)) (Ex.exit 0,zj2 p p.length a b c p.length p.length p)
 | 0,k,hk,_=>by
  obtain rfl:k=p.length:=by omega
  have:=po_L0_1_1 p p.length a b c p.length p.length (p.take p.length) (by omega)
  rw [List.take_length] at this ⊢
  exact this
 | n+1,k,hk,h1=>by
  have hlt:k<p.length:=by omega
  have hl:=h.2.1
  have ih:=po_loop h a b c n (k+1) (by omega) (by omega)
  rw [← zoz hlt] at ih
  have hg:=zeb h.2.2 k
  have e:Int.toNat (k:Int)=k:=by omega
  refine po_L0_1_0 p p.length a b c k k (p.take k) (by omega) (by omega) (by omega) (by omega) (flB (by rw [e];exact hg)) (by simp) (by simp;omega) (by simp;omega) (by simp;omega) (by omega) ?_
  rw [e]
  exact ih
theorem zhB (p:List Int) (a b c:Int) (h:zcx p):FC tP 101 [.agg [.sq p,lI a,lI b,lI c]] (.lst .whole p):=by
 have hl:=h.1
 have hg:=zeb h.2.2 0
 have k:=po_loop h a b c (p.length-1) 1 (by omega) (by omega)
 have e1:p.take 1=[p.getD 0 0]:=by
  rw [← zoz (k:=0) (by omega)];rfl
 have s:=po_L0_0_0 p p.length a b c (by omega) (by omega) (by omega) (flB hg) (by simp) (by simp) (by simp) (by simp) (by rw [e1] at k;exact k)
 have:=po_1 p a b c p.length p.length p s (by omega)
 rw [List.take_length] at this
 exact this
def der (p:List Int):List Int:=(List.range (p.length-1)).map fun i=>p.getD (i+1) 0*((i+1:Nat):Int)
theorem zsI {p:List Int} {k:Nat} (h:k+1<p.length):(der p).getD k 0=p.getD (k+1) 0*((k+1:Nat):Int):=by
 unfold der
 rw [List.getD_eq_getElem?_getD,List.getElem?_map,List.getElem?_range (by omega)]
 rfl
theorem zd7 (p:List Int):(der p).length=p.length-1:=by simp [der]
theorem dr_loop {p:List Int} (h:zcx p):∀(n k:Nat),k+n=p.length→2≤k→zmC (zhd p p.length (k-1) k ((der p).take (k-1))) (Ex.exit 0,zgq p p.length (p.length-1) p.length (der p))
 | 0,k,hk,_=>by
  obtain rfl:k=p.length:=by omega
  have:=dr_L0_1_2 p p.length (p.length-1) p.length ((der p).take (p.length-1)) (by omega)
  rw [← zd7,List.take_length] at this ⊢
  exact this
 | n+1,k,hk,h2=>by
  have hlt:k<p.length:=by omega
  have hl:=h.2.1
  obtain ⟨j,rfl⟩:∃j,k=j+1:=⟨k-1,by omega⟩
  have ih:=dr_loop h n (j+1+1) (by omega) (by omega)
  have hd:j<(der p).length:=by rw [zd7];omega
  rw [show j+1+1-1=j+1 by omega,← zoz hd,zsI hlt] at ih
  have hg:=zeb h.2.2 (j+1)
  have e:Int.toNat ((j+1:Nat):Int)=j+1:=by omega
  have s1:Sz 3 (p.getD (j+1) 0):=by unfold Sz;omega
  have s2:Sz 3 ((j+1:Nat):Int):=by unfold Sz;omega
  have hD:pDD (p.getD (j+1) 0) ((j+1:Nat):Int):=⟨rZ s1 (by decide),rZ s2 (by decide)⟩
  rw [show j+1-1=j by omega]
  refine dr_L0_1_0 p p.length j ((j+1:Nat):Int) ((der p).take j) (by omega) (by omega) (by omega) (by omega) (by unfold cZ;omega) rfl (by rw [e];exact hD) (by simp) (by simp;omega) (by simp;omega) (by simp;omega) (by omega) ?_
  rw [e]
  exact ih
theorem zoY (p:List Int) (h:zcx p):FC tP 180 [.lst .whole p] (.lst .whole (der p)):=by
 have hl:=h.1
 have hg:=zeb h.2.2 1
 have k:=dr_loop h (p.length-2) 2 (by omega) (by omega)
 have s1:Sz 3 (p.getD 1 0):=by unfold Sz;omega
 have hD:pDD (p.getD 1 0) 1:=⟨rZ s1 (by decide),rZ (k:=3) (by unfold Sz;omega) (by decide)⟩
 have e1:(der p).take 1=[p.getD 1 0*1]:=by
  have hd:0<(der p).length:=by rw [zd7];omega
  have:=zoz hd
  rw [zsI (by omega)] at this
  rw [← this];rfl
 have s0:zmC (zhc p p.length 1) (Ex.exit 0,zgq p p.length (p.length-1:Nat) p.length (der p)):=
  dr_L0_0_0 p p.length 1 (by omega) (by omega) (by omega) (by omega) (by unfold cZ;omega) rfl hD (by simp) (by simp) (by simp) (by simp) (by omega) (by rw [show(2:Nat)-1=1 by rfl,e1] at k;exact k)
 have s:=dr_L0_0_1 p p.length 0 (by omega) (by omega) (by omega) (by omega) (by omega) s0
 have:=dr_1 p (p.length-1:Nat) p.length (der p) s (by rw [zd7];omega)
 rw [← zd7,List.take_length] at this
 exact this
end Go.Proofs.YtagbldogmjhdpaaGreatDoor
end
section
namespace Go.Kf
set_option linter.unusedVariables false
class CR (R:Type) where
 add:R→R→R
 mul:R→R→R
 neg:R→R
 zero:R
 one:R
 add_assoc:∀a b c,add (add a b) c=add a (add b c)
 add_comm:∀a b,add a b=add b a
 zero_add:∀a,add zero a=a
 neg_add:∀a,add (neg a) a=zero
 mul_assoc:∀a b c,mul (mul a b) c=mul a (mul b c)
 mul_comm:∀a b,mul a b=mul b a
 one_mul:∀a,mul one a=a
 mul_add:∀a b c,mul a (add b c)=add (mul a b) (mul a c)
namespace CR
variable {R:Type} [CR R]
theorem add_zero (a:R):add a zero=a:=by rw [add_comm,zero_add]
theorem add_neg (a:R):add a (neg a)=zero:=by rw [add_comm,neg_add]
theorem add_mul (a b c:R):mul (add a b) c=add (mul a c) (mul b c):=by rw [mul_comm,mul_add,mul_comm c a,mul_comm c b]
theorem ziM {a b c:R} (h:add a b=add a c):b=c:=by
 have:=congrArg (add (neg a)) h
 rwa [← add_assoc,← add_assoc,neg_add,zero_add,zero_add] at this
theorem mul_zero (a:R):mul a zero=zero:=by
 refine ziM (a:=mul a zero) ?_
 rw [← mul_add,zero_add,add_zero]
theorem zero_mul (a:R):mul zero a=zero:=by rw [mul_comm,mul_zero]
theorem mul_one (a:R):mul a one=a:=by rw [mul_comm,one_mul]
theorem zfI {a b:R} (h:add a b=zero):b=neg a:=by
 refine ziM (a:=a) ?_
 rw [h,add_neg]
theorem mul_neg (a b:R):mul a (neg b)=neg (mul a b):=zfI (by rw [← mul_add,add_neg,mul_zero])
theorem neg_neg (a:R):neg (neg a)=a:=(zfI (neg_add a)).symm
theorem neg_zero:neg (zero:R)=zero:=(zfI (add_zero zero)).symm
end CR
section
variable {R:Type} [CR R]
end
section
variable {R:Type} [CR R]
open CR
variable (e:Nat→R)
end
end Go.Kf
end
section
namespace Go.Kf
set_option linter.unusedVariables false
set_option linter.unusedSimpArgs false
abbrev V:=Nat→Rat
namespace V
def add (x y:V):V:=fun i=>x i+y i
def sm (r:Rat) (x:V):V:=fun i=>r*x i
def zero:V:=fun _=>0
def e0:V:=fun i=>if i=0 then 1 else 0
end V
open V
def Sup (n:Nat) (x:V):Prop:=∀i,n≤i→x i=0
def T (n:Nat) (p:V) (x:V):V:=fun i=>if i<n then(if i=0 then 0 else x (i-1))-x (n-1)*p i else 0
section
variable {n:Nat} {p:V}
theorem sup_T (x:V):Sup n (T n p x):=fun i h=>if_neg (by omega)
theorem zm8 {x y:V} (hx:Sup n x) (hy:Sup n y):Sup n (add x y):=fun i h=>by
 show x i+y i=0
 rw [hx i h,hy i h];exact Rat.add_zero 0
theorem zdm {r:Rat} {x:V} (hx:Sup n x):Sup n (sm r x):=fun i h=>by
 show r*x i=0
 rw [hx i h];exact Rat.mul_zero r
theorem zow:Sup n zero:=fun _ _=>rfl
theorem zcQ (h:1≤n):Sup n e0:=fun i hi=>if_neg (by omega)
theorem zkB (x y:V):T n p (add x y)=add (T n p x) (T n p y):=by
 funext i
 simp only [T,add]
 grind
theorem T_sm (r:Rat) (x:V):T n p (sm r x)=sm r (T n p x):=by
 funext i
 simp only [T,sm]
 grind
theorem T_zero:T n p zero=zero:=by
 funext i
 simp only [T,zero]
 grind
end
section
variable (n:Nat) (p:V)
def zaa:List Rat→V→V
 | [],_=>zero
 | c :: l,y=>add (sm c y) (T n p (zaa l y))
def crd (x:V):List Rat:=(List.range n).map x
def mul (x y:V):V:=zaa n p (crd n x) y
end
theorem zgR (x y:V):add x y=add y x:=funext fun i=>Rat.add_comm _ _
theorem zal (x y z:V):add (add x y) z=add x (add y z):=funext fun i=>Rat.add_assoc _ _ _
theorem LZ (x:V):add zero x=x:=funext fun i=>Rat.zero_add _
theorem za1 (x:V):add x zero=x:=funext fun i=>Rat.add_zero _
theorem zh5 (r:Rat) (x y:V):sm r (add x y)=add (sm r x) (sm r y):=funext fun i=>Rat.mul_add _ _ _
theorem zb3 (r s:Rat) (x:V):sm r (sm s x)=sm (r*s) x:=funext fun i=>(Rat.mul_assoc _ _ _).symm
theorem zb4 (r:Rat):sm r zero=zero:=funext fun i=>Rat.mul_zero _
theorem zak (x:V):sm 0 x=zero:=funext fun i=>Rat.zero_mul _
theorem zf8 (x:V):sm 1 x=x:=funext fun i=>Rat.one_mul _
theorem zgS (r s:Rat) (x:V):sm (r+s) x=add (sm r x) (sm s x):=funext fun i=>Rat.add_mul _ _ _
theorem sm_comm (r s:Rat) (x:V):sm r (sm s x)=sm s (sm r x):=by rw [zb3,zb3,Rat.mul_comm]
theorem add4 (a b c d:V):add (add a b) (add c d)=add (add a c) (add b d):=by
 rw [zal,← zal b,zgR b c,zal c,← zal]
section
variable {n:Nat} {p:V}
theorem znP (l:List Rat) (x y:V):zaa n p l (add x y)=add (zaa n p l x) (zaa n p l y):=by
 induction l with
 | nil=>exact(LZ _).symm
 | cons c l ih=>show add (sm c (add x y)) (T n p (zaa n p l (add x y)))=_;rw [ih,zkB,zh5,add4];rfl
theorem zjT (l:List Rat) (r:Rat) (x:V):zaa n p l (sm r x)=sm r (zaa n p l x):=by
 induction l with
 | nil=>exact(zb4 _).symm
 | cons c l ih=>show add (sm c (sm r x)) (T n p (zaa n p l (sm r x)))=_;rw [ih,T_sm,sm_comm,← zh5];rfl
theorem mulL_T (l:List Rat) (x:V):zaa n p l (T n p x)=T n p (zaa n p l x):=by
 induction l with
 | nil=>exact T_zero.symm
 | cons c l ih=>show add (sm c (T n p x)) (T n p (zaa n p l (T n p x)))=T n p (add (sm c x) (T n p (zaa n p l x)));rw [ih,zkB,T_sm]
theorem zlr (l m:List Rat) (x:V):zaa n p l (zaa n p m x)=zaa n p m (zaa n p l x):=by
 induction l with
 | nil=>
  show zero=zaa n p m zero
  have:=zjT (n:=n) (p:=p) m 0 zero
  rw [zak,zak] at this
  exact this.symm
 | cons c l ih=>
  show add (sm c (zaa n p m x)) (T n p (zaa n p l (zaa n p m x)))=zaa n p m (add (sm c x) (T n p (zaa n p l x)))
  rw [znP,zjT,mulL_T,ih]
theorem zov (l:List Rat) {x:V} (hx:Sup n x):Sup n (zaa n p l x):=by
 cases l with
 | nil=>exact zow
 | cons c l=>exact zm8 (zdm hx) (sup_T _)
def ei (k:Nat):V:=fun i=>if i=k then 1 else 0
theorem T_ei {k:Nat} (h:k+1<n):T n p (ei k)=ei (k+1):=by
 funext i
 have h1:ei k (n-1)=0:=if_neg (by omega)
 simp only [T,h1]
 by_cases hi:i<n
 ·rw [if_pos hi]
  by_cases h0:i=0
  ·rw [if_pos h0]
   have:ei (k+1) i=0:=if_neg (by omega)
   rw [this];grind
  ·rw [if_neg h0]
   by_cases hk:i=k+1
   ·have h2:ei k (i-1)=1:=if_pos (by omega)
    have h3:ei (k+1) i=1:=if_pos hk
    rw [h2,h3];grind
   ·have h2:ei k (i-1)=0:=if_neg (by omega)
    have h3:ei (k+1) i=0:=if_neg hk
    rw [h2,h3];grind
 ·rw [if_neg hi]
  have:ei (k+1) i=0:=if_neg (by omega)
  exact this.symm
def ofL:Nat→List Rat→V
 | _,[]=>zero
 | k,c :: l=>add (sm c (ei k)) (ofL (k+1) l)
theorem zmQ:∀(l:List Rat) (k:Nat),k+l.length≤n→zaa n p l (ei k)=ofL k l
 | [],_,_=>rfl
 | [c],k,_=>by show add (sm c (ei k)) (T n p zero)=add (sm c (ei k)) zero;rw [T_zero]
 | c :: d :: l,k,h=>by
  simp only [List.length_cons] at h
  show add (sm c (ei k)) (T n p (zaa n p (d :: l) (ei k)))=add (sm c (ei k)) (ofL (k+1) (d :: l))
  rw [← mulL_T,T_ei (by omega),zmQ (d :: l) (k+1) (by simp;omega)]
theorem zmS:∀(l:List Rat) (k i:Nat),ofL k l i=if k≤i then l.getD (i-k) 0 else 0
 | [],k,i=>by simp [ofL,zero]
 | c :: l,k,i=>by
  show c*ei k i+ofL (k+1) l i=_
  rw [zmS l (k+1) i]
  by_cases h:i=k
  ·subst h
   rw [show ei i i=1 from if_pos rfl,if_neg (by omega),if_pos (by omega)]
   simp;grind
  ·rw [show ei k i=0 from if_neg h]
   grind
theorem e0_ei:e0=ei 0:=rfl
theorem ziT (x:V):(crd n x).length=n:=by simp [crd]
theorem zms (x:V) (i:Nat) (h:i<n):(crd n x).getD i 0=x i:=by
 simp [crd,List.getD_eq_getElem?_getD,List.getElem?_map,List.getElem?_range h]
theorem zjR {x:V} (hx:Sup n x):zaa n p (crd n x) e0=x:=by
 rw [e0_ei,zmQ _ 0 (by rw [ziT];omega)]
 funext i
 rw [zmS,if_pos (Nat.zero_le _)]
 by_cases h:i<n
 ·exact zms x i h
 ·rw [hx i (by omega)]
  simp [List.getD_eq_getElem?_getD,crd]
  simp_all
def ev (n:Nat) (p:V) (l:List Rat):V:=zaa n p l e0
theorem zfo (h:1≤n) (l:List Rat):Sup n (ev n p l):=zov l (zcQ h)
theorem zjS {y:V} (hy:Sup n y) (l:List Rat):zaa n p l y=zaa n p (crd n y) (ev n p l):=by
 show _=zaa n p (crd n y) (zaa n p l e0)
 rw [zlr,zjR hy]
theorem zpe {y:V} (hy:Sup n y) {l m:List Rat} (h:ev n p l=ev n p m):zaa n p l y=zaa n p m y:=by
 rw [zjS hy,zjS hy,h]
theorem ev_crd {x:V} (hx:Sup n x):ev n p (crd n x)=x:=zjR hx
theorem zhq (h1:1≤n) {y:V} (hy:Sup n y) (l:List Rat):zaa n p l y=mul n p (ev n p l) y:=
 zpe hy (by rw [ev_crd (zfo h1 l)])
theorem RZ {x y:V} (hx:Sup n x) (hy:Sup n y):mul n p x y=mul n p y x:=by
 show zaa n p (crd n x) y=zaa n p (crd n y) x
 rw [zjS hy,ev_crd hx]
theorem mul_add' (x y z:V):mul n p x (add y z)=add (mul n p x y) (mul n p x z):=znP _ _ _
theorem zi6 (r:Rat) (x y:V):mul n p x (sm r y)=sm r (mul n p x y):=zjT _ _ _
theorem mul_T (x y:V):mul n p x (T n p y)=T n p (mul n p x y):=mulL_T _ _
theorem mul_left' (x y z:V):mul n p x (mul n p y z)=mul n p y (mul n p x z):=zlr _ _ _
theorem zh9 {x y:V} (hy:Sup n y):Sup n (mul n p x y):=zov _ hy
theorem zi5 {x y z:V} (hx:Sup n x) (hy:Sup n y) (hz:Sup n z):mul n p (mul n p x y) z=mul n p x (mul n p y z):=by
 rw [RZ (zh9 hy) hz,RZ hy hz,mul_left']
theorem ziX (h:1≤n) {x:V} (hx:Sup n x):mul n p e0 x=x:=by
 rw [RZ (zcQ h) hx];exact zjR hx
end
class Fact' (q:Prop):Prop where
 ok:q
def F (n:Nat) (_p:V):Type:={ x:V // Sup n x }
instance instF {n:Nat} {p:V} [h:Fact' (1≤n)]:CR (F n p) where
 add x y:=⟨add x.1 y.1,zm8 x.2 y.2⟩
 mul x y:=⟨mul n p x.1 y.1,zh9 y.2⟩
 neg x:=⟨sm (-1) x.1,zdm x.2⟩
 zero:=⟨zero,zow⟩
 one:=⟨e0,zcQ h.ok⟩
 add_assoc _ _ _:=Subtype.ext (zal _ _ _)
 add_comm _ _:=Subtype.ext (zgR _ _)
 zero_add _:=Subtype.ext (LZ _)
 neg_add x:=Subtype.ext (by
  show add (sm (-1) x.1) x.1=zero
  conv=>lhs;arg 2;rw [← zf8 x.1]
  rw [← zgS,show(-1+1:Rat)=0 by grind]
  exact zak _)
 mul_assoc x y z:=Subtype.ext (zi5 x.2 y.2 z.2)
 mul_comm x y:=Subtype.ext (RZ x.2 y.2)
 one_mul x:=Subtype.ext (ziX h.ok x.2)
 mul_add _ _ _:=Subtype.ext (mul_add' _ _ _)
end Go.Kf
end
section
namespace Go.Kf
set_option linter.unusedVariables false
set_option linter.unusedSimpArgs false
def gL (g:Nat):List Int→Nat
 | []=>g
 | x :: l=>gL (Int.gcd g x) l
theorem gL_dvd:∀(l:List Int) (g:Nat),gL g l∣g∧∀x∈l,(gL g l:Int)∣x
 | [],g=>⟨Nat.dvd_refl g,fun _ h=>by cases h⟩
 | x :: l,g=>by
  obtain ⟨h1,h2⟩:=gL_dvd l (Int.gcd g x)
  have a:Int.gcd (g:Int) x∣g:=by have:=Int.gcd_dvd_natAbs_left (g:Int) x;simpa using this
  have b:((Int.gcd (g:Int) x:Nat):Int)∣x:=Int.gcd_dvd_right ..
  refine ⟨Nat.dvd_trans h1 a,fun y hy=>?_⟩
  rcases List.mem_cons.1 hy with rfl | hy
  ·exact Int.dvd_trans (Int.natCast_dvd_natCast.2 h1) b
  ·exact h2 y hy
theorem dvd_gL:∀(l:List Int) (g k:Nat),k∣g→(∀x∈l,(k:Int)∣x)→k∣gL g l
 | [],g,k,h,_=>h
 | x :: l,g,k,h,hl=>dvd_gL l _ k (Int.dvd_gcd (Int.natCast_dvd_natCast.2 h) (hl x (by simp))) fun y hy=>hl y (by simp [hy])
theorem gL_pos {g:Nat} (h:0<g) (l:List Int):0<gL g l:=Nat.pos_of_dvd_of_pos (gL_dvd l g).1 h
def dvs (c:List Int) (d:Int):Int:=if d<0 then -(gL d.natAbs c:Int) else(gL d.natAbs c:Int)
def loC (c:List Int) (d:Int) (i:Nat):Int:=c.getD i 0 / dvs c d
def loD (c:List Int) (d:Int):Int:=d / dvs c d
theorem zhe {c:List Int} {d:Int} (h:d≠0):dvs c d≠0:=by
 have:=gL_pos (g:=d.natAbs) (by omega) c
 unfold dvs;split<;>omega
theorem zea (c:List Int) (d:Int):dvs c d∣d∧∀i,dvs c d∣c.getD i 0:=by
 obtain ⟨h1,h2⟩:=gL_dvd c d.natAbs
 have h1':(gL d.natAbs c:Int)∣d:=Int.dvd_natAbs.1 (Int.natCast_dvd_natCast.2 h1)
 have h2':∀i,(gL d.natAbs c:Int)∣c.getD i 0:=fun i=>by
  by_cases h:i<c.length
  ·simp_all
  simp_all
 unfold dvs
 split
 ·simp_all
 ·exact ⟨h1',h2'⟩
theorem zhm {c : List Int} {d:Int} (h:d≠0):0<loD c d:=by
 obtain ⟨k,hk⟩:=(zea c d).1
 have h0:=zhe (c:=c) h
 have : loD c d = k := by unfold loD;conv=>lhs;arg 1;rw [hk]
                          exact Int.mul_ediv_cancel_left k h0
 rw [this]
 have hp:=gL_pos (g:=d.natAbs) (by omega) c
 unfold dvs at hk
 split at hk
 ·rename_i hd
  rcases Int.lt_trichotomy k 0 with h1 | h1 | h1
  ·exfalso
   have:0 < -(gL d.natAbs c:Int)*k:=Int.mul_pos_of_neg_of_neg (by omega) h1
   omega
  ·subst h1;simp at hk;omega
  ·exact h1
 ·rename_i hd
  rcases Int.lt_trichotomy k 0 with h1 | h1 | h1
  ·exfalso
   have:(gL d.natAbs c:Int)*k<0:=Int.mul_neg_of_pos_of_neg (by omega) h1
   omega
  ·subst h1;simp at hk;omega
  ·exact h1
theorem zbb (c:List Int) (d:Int):loD c d*dvs c d=d:=Int.ediv_mul_cancel (zea c d).1
theorem zba (c:List Int) (d:Int) (i:Nat):loC c d i*dvs c d=c.getD i 0:=Int.ediv_mul_cancel ((zea c d).2 i)
theorem znN {c:List Int} {d:Int} (h:d≠0) {k:Nat} (h1:(k:Int)∣loD c d) (h2:∀i,(k:Int)∣loC c d i):k=1:=by
 have hg:=gL_pos (g:=d.natAbs) (by omega) c
 have ha:(dvs c d).natAbs=gL d.natAbs c:=by unfold dvs;split<;>omega
 have hd:d.natAbs=k*gL d.natAbs c*(loD c d / k).natAbs:=by
  obtain ⟨m,hm⟩:=h1
  have hk:(k:Int)≠0:=fun hk=>by
   have:=zbb c d
   simp_all
  have e1:loD c d / k=m:=by simp_all
  have e2:=congrArg Int.natAbs (zbb c d)
  rw [Int.natAbs_mul,ha] at e2
  have e3:=congrArg Int.natAbs hm
  rw [Int.natAbs_mul,Int.natAbs_natCast] at e3
  grind
 have h3:k*gL d.natAbs c∣gL d.natAbs c:=by
  refine dvd_gL _ _ _ ⟨_,hd⟩ fun x hx=>?_
  obtain ⟨i,hi,rfl⟩:=List.getElem_of_mem hx
  obtain ⟨m,hm⟩:=h2 i
  have:=zba c d i
  rw [hm,List.getD_eq_getElem?_getD,List.getElem?_eq_getElem hi] at this
  simp only [Option.getD_some] at this
  have e4:((k*gL d.natAbs c:Nat):Int)∣(k:Int)*m*dvs c d:=by
   rw [← ha,Int.natCast_mul]
   rcases Int.natAbs_eq (dvs c d) with e | e
   ·rw [← e];exact ⟨m,by grind⟩
   ·exact ⟨-m,by grind⟩
  rw [this] at e4
  exact e4
 have h4:=Nat.le_of_dvd hg h3
 rcases Nat.lt_or_ge k 2 with h5 | h5
 ·grind
 ·have:2*gL d.natAbs c≤k*gL d.natAbs c:=Nat.mul_le_mul_right _ h5
  omega
theorem lo_eq {c c':List Int} {d d':Int} (h:d≠0) (h':d'≠0) (hc:∀i,c.getD i 0*d'=c'.getD i 0*d):loD c d=loD c' d'∧∀i,loC c d i=loC c' d' i:=by
 have g0:=zhe (c:=c) h
 have g0':=zhe (c:=c') h'
 have e:∀i,loC c d i*loD c' d'=loC c' d' i*loD c d:=fun i=>by
  have:=hc i
  rw [← zba c d i,← zba c' d' i,← zbb c d,← zbb c' d'] at this
  rw [zbb,zbb,zba,zba] at *
  have h2:(loC c d i*loD c' d'-loC c' d' i*loD c d)*(dvs c d*dvs c' d')=0:=by
   have a1:=zba c d i;have a2:=zba c' d' i;have a3:=zbb c d;have a4:=zbb c' d'
   grind
  rcases Int.mul_eq_zero.1 h2 with h3 | h3
  ·omega
  ·rcases Int.mul_eq_zero.1 h3 with h4 | h4<;>contradiction
 have p:=zhm (c:=c) h
 have p':=zhm (c:=c') h'
 have key:∀ {c c':List Int} {d d':Int},d≠0→0<loD c d→0<loD c' d'→(∀i,loC c d i*loD c' d'=loC c' d' i*loD c d)→loD c d∣loD c' d':=by
  intro c c' d d' h p p' e
  have hg:Int.gcd (loD c d) (loD c' d')≠0:=by
   intro h0;simp_all
  obtain ⟨a,ha⟩:=Int.gcd_dvd_left (loD c d) (loD c' d')
  obtain ⟨b,hb⟩:=Int.gcd_dvd_right (loD c d) (loD c' d')
  have cop:Int.gcd a b=1:=by
   have:=Int.gcd_mul_left (Int.gcd (loD c d) (loD c' d'):Int) a b
   rw [← ha,← hb] at this
   simp at this
   have h1:Int.gcd (loD c d) (loD c' d')*Int.gcd a b=Int.gcd (loD c d) (loD c' d')*1:=by omega
   exact Nat.eq_of_mul_eq_mul_left (by omega) h1
  have hdiv:∀i,a∣loC c d i:=fun i=>by
   have:=e i
   rw [ha,hb] at this
   have h3:loC c d i*b=loC c' d' i*a:=by
    have:(loC c d i*b-loC c' d' i*a)*(Int.gcd (loD c d) (loD c' d'):Int)=0:=by grind
    rcases Int.mul_eq_zero.1 this with h4 | h4<;>omega
   have h4:a.natAbs∣(loC c d i).natAbs*b.natAbs:=by
    rw [← Int.natAbs_mul,h3,Int.natAbs_mul];exact Nat.dvd_mul_left ..
   exact Int.natAbs_dvd_natAbs.1 (Nat.Coprime.dvd_of_dvd_mul_right (show Nat.gcd a.natAbs b.natAbs=1 from cop) h4)
  have h1:a.natAbs=1:=znN (k:=a.natAbs) h (by rw [Int.natAbs_dvd];exact ⟨_,by rw [Int.mul_comm];exact ha⟩) fun i=>Int.natAbs_dvd.2 (hdiv i)
  have h2:(Int.gcd (loD c d) (loD c' d'):Int)=loD c d:=by
   grind
  exact ⟨b,by rw [← h2];exact hb⟩
 have d1:=key h p p' e
 have d2:=key h' p' p fun i=>(e i).symm
 have eD:loD c d=loD c' d':=Int.dvd_antisymm (by omega) (by omega) d1 d2
 refine ⟨eD,fun i=>?_⟩
 have:=e i
 rw [eD] at this
 exact Int.eq_of_mul_eq_mul_right (by omega) this
end Go.Kf
end
section
namespace Go.Kf
set_option linter.unusedVariables false
set_option linter.unusedSimpArgs false
open V
def qL (c:List Int):List Rat:=c.map fun z:Int=>(z:Rat)
def pV (p:List Int):V:=fun i=>((p.getD i 0:Int):Rat)
theorem qL_cons (x:Int) (l:List Int):qL (x :: l)=(x:Rat) :: qL l:=rfl
theorem zbA (l:List Int):(qL l).length=l.length:=by simp [qL]
theorem zbz (l:List Int) (i:Nat):(qL l).getD i 0=((l.getD i 0:Int):Rat):=by
 simp only [qL,List.getD_eq_getElem?_getD,List.getElem?_map]
 cases l[i]? <;> simp
section
variable {n:Nat} {p:V}
theorem zdw {l:List Rat} (h:l.length≤n):ev n p l=fun i=>l.getD i 0:=by
 unfold ev
 rw [e0_ei,zmQ l 0 (by omega)]
 funext i
 rw [zmS,if_pos (Nat.zero_le _)];rfl
def Tn (n:Nat) (p:V):Nat→V→V
 | 0,x=>x
 | k+1,x=>T n p (Tn n p k x)
theorem Tn_add (k:Nat) (x y:V):Tn n p k (add x y)=add (Tn n p k x) (Tn n p k y):=by
 induction k with
 | zero=>rfl
 | succ k ih=>show T n p (Tn n p k (add x y))=_;rw [ih,zkB];rfl
theorem zsU (k:Nat) (r:Rat) (x:V):Tn n p k (sm r x)=sm r (Tn n p k x):=by
 induction k with
 | zero=>rfl
 | succ k ih=>show T n p (Tn n p k (sm r x))=_;rw [ih,T_sm];rfl
theorem Tn_Tn (j k:Nat) (x:V):Tn n p j (Tn n p k x)=Tn n p (j+k) x:=by
 induction j with
 | zero=>rw [Nat.zero_add];rfl
 | succ j ih=>show T n p (Tn n p j (Tn n p k x))=_;rw [ih,Nat.succ_add];rfl
theorem Tn_ei:∀(k:Nat),k<n→Tn n p k e0=ei k
 | 0,_=>rfl
 | k+1,h=>by show T n p (Tn n p k e0)=_;rw [Tn_ei k (by omega),T_ei h]
theorem zsJ (l:List Rat) (t:Rat):ev n p (l++[t])=add (ev n p l) (sm t (Tn n p l.length e0)):=by
 unfold ev
 induction l with
 | nil=>show add (sm t e0) (T n p zero)=add zero (sm t e0);rw [T_zero,za1,LZ]
 | cons x l ih=>
  show add (sm x e0) (T n p (zaa n p (l++[t]) e0))=add (add (sm x e0) (T n p (zaa n p l e0))) (sm t (T n p (Tn n p l.length e0)))
  rw [ih,zkB,T_sm,zal]
end
def zipS:List Int→Int→List Int→List Int
 | _,_,[]=>[]
 | [],_,x :: l=>x :: l
 | q :: p,t,x :: l=>(x + -(t*q)) :: zipS p t l
def red1 (p:List Int) (t:Int):Nat→List Int→List Int
 | 0,l=>zipS p t l
 | _+1,[]=>[]
 | k+1,x :: l=>x :: red1 p t k l
theorem ziu:∀(p:List Int) (t:Int) (l:List Int),(zipS p t l).length=l.length
 | _,_,[]=>by unfold zipS;rfl
 | [],_,x :: l=>rfl
 | q :: p,t,x :: l=>by simp [zipS,ziu p t l]
theorem zhJ (p:List Int) (t:Int):∀(k:Nat) (l:List Int),(red1 p t k l).length=l.length
 | 0,l=>ziu p t l
 | _+1,[]=>rfl
 | k+1,x :: l=>by simp [red1,zhJ p t k l]
theorem zrm (t q:Int):((-(t*q):Int):Rat) = -(t:Rat)*(q:Rat):=by
 grind
section
variable {n:Nat} {p:V}
theorem ev_zipS:∀(q:List Int) (t:Int) (l:List Int),l.length=q.length→ev n p (qL (zipS q t l))=add (ev n p (qL l)) (sm (-(t:Rat)) (ev n p (qL q)))
 | [],t,[],_=>by show zero=add zero (sm _ zero);rw [zb4,za1]
 | [],_,_ :: _,h=>by simp at h
 | _ :: _,_,[],h=>by simp at h
 | q :: qs,t,x :: l,h=>by
  have ih:=ev_zipS qs t l (by simpa using h)
  unfold ev at *
  show add (sm ((x + -(t*q):Int):Rat) e0) (T n p (zaa n p (qL (zipS qs t l)) e0))=add (add (sm (x:Rat) e0) (T n p (zaa n p (qL l) e0))) (sm (-(t:Rat)) (add (sm (q:Rat) e0) (T n p (zaa n p (qL qs) e0))))
  rw [ih,zkB,T_sm,zh5,zb3,add4,Rat.intCast_add,zrm,zgS]
theorem ev_red1:∀(q:List Int) (t:Int) (k:Nat) (l:List Int),l.length=k+q.length→ev n p (qL (red1 q t k l))=add (ev n p (qL l)) (sm (-(t:Rat)) (Tn n p k (ev n p (qL q))))
 | q,t,0,l,h=>ev_zipS q t l (by omega)
 | q,t,k+1,[],h=>by simp at h;omega
 | q,t,k+1,x :: l,h=>by
  have ih:=ev_red1 q t k l (by simp at h;omega)
  unfold ev at *
  show add (sm (x:Rat) e0) (T n p (zaa n p (qL (red1 q t k l)) e0))=add (add (sm (x:Rat) e0) (T n p (zaa n p (qL l) e0))) (sm (-(t:Rat)) (T n p (Tn n p k (zaa n p (qL q) e0))))
  rw [ih,zkB,T_sm,zal]
end
theorem Tn_top {q:List Int} (h:1≤q.length):Tn q.length (pV q) q.length e0=sm (-1) (ev q.length (pV q) (qL q)):=by
 obtain ⟨m,hm⟩:∃m,q.length=m+1:=⟨q.length-1,by omega⟩
 rw [zdw (by rw [zbA];exact Nat.le_refl _)]
 conv=>lhs;rw [hm]
 show T (m+1) (pV q) (Tn (m+1) (pV q) m e0)=_
 rw [Tn_ei m (by omega)]
 funext i
 have h1:ei m (m+1-1)=1:=if_pos rfl
 show(if i<m+1 then(if i=0 then 0 else ei m (i-1))-ei m (m+1-1)*pV q i else 0) = -1*(qL q).getD i 0
 rw [h1,zbz]
 by_cases hi:i<m+1
 ·rw [if_pos hi]
  have h2:(if i=0 then(0:Rat) else ei m (i-1))=0:=by
   split
   ·rfl
   ·exact if_neg (by omega)
  rw [h2];unfold pV;grind
 ·rw [if_neg hi,List.getD_eq_getElem?_getD,List.getElem?_eq_none (by omega)]
  simp
theorem ev_step {q:List Int} (hq:1≤q.length) {k:Nat} {c:List Int} (hc:c.length=q.length+k+1):ev q.length (pV q) (qL (red1 q (c.getLastD 0) k c.dropLast))=ev q.length (pV q) (qL c):=by
 have hne:c≠[]:=by grind
 have e1:c=c.dropLast++[c.getLastD 0]:=by
  rw [List.getLastD_eq_getLast?,List.getLast?_eq_some_getLast hne];exact(List.dropLast_concat_getLast hne).symm
 have hl:c.dropLast.length=k+q.length:=by grind
 rw [ev_red1 _ _ _ _ hl]
 conv=>rhs;rw [e1]
 have e2:qL (c.dropLast++[c.getLastD 0])=qL c.dropLast++[((c.getLastD 0:Int):Rat)]:=by simp [qL]
 rw [e2,zsJ,zbA,hl,← Tn_Tn,Tn_top hq,zsU,zb3]
 congr 2
 grind
def val (q:List Int) (c:List Int) (d:Int):V:=sm ((d:Rat)⁻¹) (ev q.length (pV q) (qL c))
theorem za8 {d:Int} (h:d≠0):(d:Rat)≠0:=fun e=>h (by exact_mod_cast e)
def zl8:List Int→List Int→List Int
 | [],y=>y
 | a :: x,[]=>a :: x
 | a :: x,b :: y=>(a+b) :: zl8 x y
def smZ (k:Int) (x:List Int):List Int:=x.map fun a=>k*a
def cvZ:List Int→List Int→List Int
 | [],_=>[]
 | a :: x,y=>zl8 (smZ a y) (0 :: cvZ x y)
section
variable {n:Nat} {p:V}
theorem zmF (c:Rat) (l:List Rat):ev n p (c :: l)=add (sm c e0) (T n p (ev n p l)):=rfl
theorem zmE:∀x y:List Int,ev n p (qL (zl8 x y))=add (ev n p (qL x)) (ev n p (qL y))
 | [],y=>(LZ _).symm
 | a :: x,[]=>(za1 _).symm
 | a :: x,b :: y=>by
  show add (sm ((a+b:Int):Rat) e0) (T n p (ev n p (qL (zl8 x y))))=add (add (sm (a:Rat) e0) (T n p (ev n p (qL x)))) (add (sm (b:Rat) e0) (T n p (ev n p (qL y))))
  rw [zmE x y,zkB,Rat.intCast_add,zgS,add4]
theorem zi2 (k:Int):∀x:List Int,ev n p (qL (smZ k x))=sm (k:Rat) (ev n p (qL x))
 | []=>(zb4 _).symm
 | a :: x=>by
  show add (sm ((k*a:Int):Rat) e0) (T n p (ev n p (qL (smZ k x))))=sm (k:Rat) (add (sm (a:Rat) e0) (T n p (ev n p (qL x))))
  rw [zi2 k x,zh5,zb3,T_sm,Rat.intCast_mul]
theorem ev_cvZ:∀x y:List Int,ev n p (qL (cvZ x y))=zaa n p (qL x) (ev n p (qL y))
 | [],y=>rfl
 | a :: x,y=>by
  show ev n p (qL (zl8 (smZ a y) (0 :: cvZ x y)))=add (sm (a:Rat) (ev n p (qL y))) (T n p (zaa n p (qL x) (ev n p (qL y))))
  rw [zmE,zi2,← ev_cvZ x y]
  congr 1
  show add (sm ((0:Int):Rat) e0) (T n p (ev n p (qL (cvZ x y))))=_
  rw [show((0:Int):Rat)=0 from rfl,zak,LZ]
theorem zgv:∀l:List Rat,(∀c∈l,c=0)→ev n p l=zero
 | [],_=>rfl
 | c :: l,h=>by
  rw [zmF,zgv l fun d hd=>h d (by simp [hd]),h c (by simp),zak,T_zero,LZ]
theorem zlb:∀(l m:List Rat),(∀c∈m,c=0)→ev n p (l++m)=ev n p l
 | [],m,h=>zgv m h
 | c :: l,m,h=>by
  show add (sm c e0) (T n p (ev n p (l++m)))=_
  rw [zlb l m h];rfl
theorem znH {l:List Rat} (h:∀i,n≤i→l.getD i 0=0):ev n p l=fun i=>l.getD i 0:=by
 have e:l=l.take n++l.drop n:=(List.take_append_drop n l).symm
 have hz:∀c∈l.drop n,c=0:=fun c hc=>by
  obtain ⟨i,hi,rfl⟩:=List.getElem_of_mem hc
  have:=h (n+i) (by omega)
  grind
 have e1:ev n p l=ev n p (l.take n):=by
  conv=>lhs;rw [e]
  exact zlb _ _ hz
 rw [e1,zdw (by rw [List.length_take];omega)]
 grind
end
theorem sm_mul {n:Nat} {p:V} (r:Rat) {x y:V} (hx:Sup n x) (hy:Sup n y):mul n p (sm r x) y=sm r (mul n p x y):=by
 rw [RZ (zdm hx) hy,zi6,RZ hy hx]
def zmg (q c:List Int):Prop:=∀i,q.length≤i→c.getD i 0=0
theorem zm6 {q c:List Int} (h:c.length≤q.length):zmg q c:=fun i hi=>by
 grind
section
variable {q:List Int}
abbrev vAdd (x y:V):V:=V.add x y
theorem val_add {c c':List Int} {d d':Int} (hd:d≠0) (hd':d'≠0):val q (zl8 (smZ d' c) (smZ d c')) (d*d')=add (val q c d) (val q c' d'):=by
 unfold val
 rw [zmE,zi2,zi2,zh5,zb3,zb3,Rat.intCast_mul]
 have a:=za8 hd
 have b:=za8 hd'
 congr 2<;>grind
theorem val_mul (hq:1≤q.length) {c c':List Int} {d d':Int} (hd:d≠0) (hd':d'≠0):val q (cvZ c c') (d*d')=mul q.length (pV q) (val q c d) (val q c' d'):=by
 unfold val
 have s1:=zfo (p:=pV q) hq (qL c)
 have s2:=zfo (p:=pV q) hq (qL c')
 rw [ev_cvZ,zhq hq s2,zi6,sm_mul _ s1 s2,zb3,Rat.intCast_mul]
 grind
theorem val_neg {c:List Int} {d:Int}:val q (smZ (-1) c) d=sm (-1) (val q c d):=by
 unfold val
 rw [zi2,sm_comm];rfl
theorem val_scale {c:List Int} {d k:Int} (hd:d≠0) (hk:k≠0):val q (smZ k c) (k*d)=val q c d:=by
 unfold val
 rw [zi2,zb3,Rat.intCast_mul]
 have a:=za8 hd
 have b:=za8 hk
 congr 1;grind
theorem zks (hq:1≤q.length) (c:List Int) (d:Int):Sup q.length (val q c d):=zdm (zfo hq _)
theorem val_inj2 {c c':List Int} {d d':Int} (hd:d≠0) (hd':d'≠0) (hc:zmg q c) (hc':zmg q c') (h:val q c d=val q c' d') (i:Nat):c.getD i 0*d'=c'.getD i 0*d:=by
 have h1:=congrFun h i
 unfold val at h1
 rw [znH (n:=q.length) (l:=qL c) (fun i hi=>by rw [zbz,hc i hi];rfl),znH (n:=q.length) (l:=qL c') (fun i hi=>by rw [zbz,hc' i hi];rfl)] at h1
 have h2:(d:Rat)⁻¹*((c.getD i 0:Int):Rat)=(d':Rat)⁻¹*((c'.getD i 0:Int):Rat):=by
  have:=h1
  simp only [sm] at this
  rwa [zbz,zbz] at this
 have a:=za8 hd
 have b:=za8 hd'
 have h3:((c.getD i 0:Int):Rat)*(d':Rat)=((c'.getD i 0:Int):Rat)*(d:Rat):=by grind
 exact_mod_cast h3
theorem lo_val2 {c c':List Int} {d d':Int} (hd:d≠0) (hd':d'≠0) (hc:zmg q c) (hc':zmg q c') (h:val q c d=val q c' d'):loD c d=loD c' d'∧∀i,loC c d i=loC c' d' i:=
 lo_eq hd hd' (val_inj2 hd hd' hc hc' h)
def WZ:List Int→List Int
 | []=>[]
 | x :: l=>match WZ l with
  | []=>if x=0 then [] else [x]
  | y :: m=>x :: y :: m
theorem zam:∀(l:List Int) (i:Nat),(WZ l).getD i 0=l.getD i 0
 | [],i=>rfl
 | x :: l,i=>by
  have ih:=zam l
  unfold WZ
  split
  ·rename_i h
   rw [h] at ih
   split
   ·rename_i hx
    subst hx
    cases i with
    | zero=>rfl
    | succ i=>simpa using ih i
   ·cases i with
    | zero=>rfl
    | succ i=>simpa using ih i
  ·rename_i y m h
   rw [h] at ih
   cases i with
   | zero=>rfl
   | succ i=>simpa using ih i
theorem zcg:∀l:List Int,WZ l=[]∨(WZ l).getLastD 0≠0
 | []=>.inl rfl
 | x :: l=>by
  have ih:=zcg l
  unfold WZ
  grind
theorem trim_ext {a b:List Int} (ha:a=[]∨a.getLastD 0≠0) (hb:b=[]∨b.getLastD 0≠0) (h:∀i,a.getD i 0=b.getD i 0):a=b:=by
 have key:∀ {a b:List Int},(a=[]∨a.getLastD 0≠0)→(∀i,a.getD i 0=b.getD i 0)→a.length≤b.length:=by
  intro a b ha h
  rcases ha with rfl | ha
  ·simp
  ·by_cases hl:a.length≤b.length
   ·exact hl
   ·exfalso
    apply ha
    have hne:a≠[]:=by grind
    have:=h (a.length-1)
    grind
 have l1:=key ha h
 have l2:=key hb fun i=>(h i).symm
 apply List.ext_getElem (by omega)
 intro i h1 h2
 have:=h i
 simp_all
end
end Go.Kf
end
section
namespace Go.Kf
set_option linter.unusedVariables false
set_option linter.unusedSimpArgs false
def agC (q:List Int) (sq first:Int) (shift i:Nat) (x:Int):Int:=if shift≤i then x*sq + -(first*q.getD (i-shift) 0) else x*sq
def agR (q:List Int) (sq first:Int) (shift:Nat) (r:List Int):Nat→List Int
 | 0=>r
 | i+1=>(agR q sq first shift r i).set i (agC q sq first shift i (r.getD i 0))
theorem zgU (q:List Int) (sq first:Int) (shift:Nat) (r:List Int):∀i,(agR q sq first shift r i).length=r.length
 | 0=>rfl
 | i+1=>by simp [agR,zgU q sq first shift r i]
theorem zgT (q:List Int) (sq first:Int) (shift:Nat) (r:List Int):∀i j,i≤r.length→(agR q sq first shift r i).getD j 0=if j<i then agC q sq first shift j (r.getD j 0) else r.getD j 0
 | 0,j,_=>by simp [agR]
 | i+1,j,h=>by
  have ih:=zgT q sq first shift r i j (by omega)
  have hl:=zgU q sq first shift r i
  unfold agR
  grind
def cutN (r:List Int):Nat→Nat
 | 0=>0
 | m+1=>if r.getD m 0=0 then cutN r m else m+1
theorem zg7 (r:List Int):∀n,cutN r n≤n
 | 0=>Nat.le_refl _
 | m+1=>by
  unfold cutN
  split
  ·exact Nat.le_succ_of_le (zg7 r m)
  ·exact Nat.le_refl _
def agN (q:List Int):Nat→Nat→List Int→Nat × List Int
 | 0,n,r=>(n,r)
 | k + 1,n,r=>if q.length≤n then
  let t:=q.getD (q.length-1) 0
  let r':=agR q (t*t) (r.getD (n-1) 0*t) (n-q.length) r n
  agN q k (cutN r' n) r'
  else(n,r)
def ngR (r:List Int):Nat→List Int
 | 0=>r
 | i+1=>(ngR r i).set i (-(r.getD i 0))
theorem zfJ (r:List Int):∀i,(ngR r i).length=r.length
 | 0=>rfl
 | i+1=>by simp [ngR,zfJ r i]
theorem zjV (r:List Int):∀i j,i≤r.length→(ngR r i).getD j 0=if j<i then -(r.getD j 0) else r.getD j 0
 | 0,j,_=>by simp [ngR]
 | i+1,j,h=>by
  have ih:=zjV r i j (by omega)
  have hl:=zfJ r i
  unfold ngR
  grind
def agst (p q:List Int):List Int:=(ngR (agN q p.length p.length p).2 (agN q p.length p.length p).1).take (agN q p.length p.length p).1
end Go.Kf
end
section
open Go Go.Ev Go.RowKit
namespace Go.Proofs.YtagbldogmjhdpaaGreatDoor
open Go.Proofs
set_option maxRecDepth 100000
set_option maxHeartbeats 1000000
set_option linter.unusedVariables false
set_option linter.unusedSimpArgs false
noncomputable section
abbrev ag_L2 (s:St) (r:Ex × St):Prop:=Loops 4 tP (kZ tP 181 0) s r
abbrev zgV (a:List Int) (b c:Int) (d:Nat) (e:List Int):St:=⟨sp 93 [(1,.lst EK.whole a),(5,.own 1 0 d 2),(6,.ref 2 0),(7,.ref 3 0)],[.dead,.lst EK.whole e true,.flat [aD b,.wd b] true,.flat [aD c,.wd c] true],[3,2,1,0]⟩
abbrev zjq (a:List Int) (b c:Int) (d:Nat) (e:List Int):St:=⟨sp 93 [(1,.lst EK.whole a),(5,.own 1 0 d 2),(6,.ref 2 0),(7,.ref 3 0)],[.dead,.lst EK.whole e true,.flat [aD b,.wd b] true,.flat [aD c,.wd c] true],[3,2,1,0]⟩
abbrev ag_L0 (s:St) (r:Ex × St):Prop:=Loops 5 tP (kZ tP 181 1) s r
abbrev zd0 (a:List Int) (b:Nat) (c d e f g i:Int) (j:List Int):St:=⟨sp 93 [(1,.lst EK.whole a),(5,.own 1 0 b 2),(6,.ref 2 0),(7,.ref 3 0),(8,.ref 4 0),(9,aI c),(42,aI d),(43,aI i)],[.dead,.lst EK.whole j true,.flat [aD e,.wd e] true,.flat [aD f,.wd f] true,.flat [aD g,.wd g] true],[0,1,2,3]⟩
abbrev zen (a:List Int) (b:Nat) (c d e f g i:Int) (j:List Int):St:=⟨sp 93 [(1,.lst EK.whole a),(5,.own 1 0 b 2),(6,.ref 2 0),(7,.ref 3 0),(8,.ref 4 0),(9,aI c),(42,aI d),(43,aI i)],[.dead,.lst EK.whole j true,.flat [aD e,.wd e] true,.flat [aD f,.wd f] true,.flat [aD g,.wd g] true],[0,1,2,3]⟩
theorem ag_L0_0_0 (a:List Int) (b:Nat) (d f g j l m:Int) (n:List Int) (h1:m<f) (h2:0≤m) (h3:m<(b:Int)) (h4:m.toNat<n.length) (h5:decide (n.getD m.toNat 0<OfNat.ofNat 0)=decide (n.getD m.toNat 0<0)) (h6:pDD (n.getD m.toNat 0) j) (h7:m≥d) (h8:r64 (m-d)) (h9:0≤m-d) (h10:m-d<(a.length:Int)) (h11:m.toNat<(n.set m.toNat (n.getD m.toNat 0*j)).length) (h12:decide (a.getD (m-d).toNat 0<OfNat.ofNat 0)=decide (a.getD (m-d).toNat 0<0)) (h13:pDD l (a.getD (m-d).toNat 0)) (h14:decide ((n.set m.toNat (n.getD m.toNat 0*j)).getD m.toNat 0<OfNat.ofNat 0)=decide ((n.set m.toNat (n.getD m.toNat 0*j)).getD m.toNat 0<0)) (h15:pDD ((n.set m.toNat (n.getD m.toNat 0*j)).getD m.toNat 0) (-(l*a.getD (m-d).toNat 0))) (h16:r64 (m+1)):LG ag_L0 (zd0 a b d f g j l m n) (zd0 a b d f g j l (m+1) ((n.set m.toNat (n.getD m.toNat 0*j)).set m.toNat ((n.set m.toNat (n.getD m.toNat 0*j)).getD m.toNat 0 + -(l*a.getD (m-d).toNat 0)))):=Loops.go (LS.at ziG 60 [] [1,5,6,7,8,9,42,43] [0,1,2,3] [1,1] (.t h1<|.t h2<|.t h3<|.t h4<|.c h5<|.c h6<|.t h7<|.i h8<|.t h9<|.t h10<|.t h11<|.c h12<|.c h13<|.c h14<|.c h15<|.i h16<|.e) [1,2,3,4,5,0,6,2,3,4,0,7,2,3,8,9,10,11,0,12,13,0,0,14,0,15,2,3,11,0,0,12,13,11,0,0,14,0,15,2,3,11,0,0,0,11,14,0,15,2,3,11,0,0,0,16])
theorem ag_L0_0_1 (a:List Int) (b:Nat) (d g j l m n:Int) (o:List Int) (h1:n<g) (h2:0≤n) (h3:n<(b:Int)) (h4:n.toNat<o.length) (h5:decide (o.getD n.toNat 0<OfNat.ofNat 0)=decide (o.getD n.toNat 0<0)) (h6:pDD (o.getD n.toNat 0) l) (h7:¬(n≥d)) (h8:r64 (n+1)):LG ag_L0 (zd0 a b d g j l m n o) (zd0 a b d g j l m (n+1) (o.set n.toNat (o.getD n.toNat 0*l))):=Loops.go (LS.at ziG 60 [] [1,5,6,7,8,9,42,43] [0,1,2,3] [1,0] (.t h1<|.t h2<|.t h3<|.t h4<|.c h5<|.c h6<|.f h7<|.i h8<|.e) [1,2,3,4,5,0,6,2,3,4,0,7,8])
theorem ag_L0_0_2 (a:List Int) (b:Nat) (c d g i j l:Int) (m:List Int) (h1:¬(l<d)):ag_L0 (zd0 a b c d g i j l m) (Ex.exit 2,(zen a b c d g i j l m)):=LF (LS.at ziG 60 [] [1,5,6,7,8,9,42,43] [0,1,2,3] [0] (.f h1<|.e) [1])
abbrev ag_L1 (s:St) (r:Ex × St):Prop:=Loops 5 tP (kZ tP 193 0) s r
abbrev zfy (a:List Int) (b c d:Int) (e:Nat):St:=⟨sp 22 [(0,.own 1 0 e 2)],[.dead,.lst EK.whole a true,.flat [aD b,.wd b] true,.flat [aD c,.wd c] true,.flat [aD d,.wd d] true],[0,1,2,3]⟩
abbrev zeo (a:List Int) (b c d:Int) (e:Nat):St:=⟨sp 22 [(0,.own 1 0 e 2)],[.dead,.lst EK.whole a true,.flat [aD b,.wd b] true,.flat [aD c,.wd c] true,.flat [aD d,.wd d] true],[0,1,2,3]⟩
theorem ag_L1_0_0 (a:List Int) (b d f:Int) (g:Nat) (h1:(g:Int) > 0) (h2:r64 ((g:Int)-1)) (h3:0≤(g:Int)-1) (h4:(g:Int)-1<(g:Int)) (h5:((g:Int)-1).toNat<a.length) (h6:decide (a.getD ((g:Int)-1).toNat 0<OfNat.ofNat 0)=decide (a.getD ((g:Int)-1).toNat 0<0)) (h7:(a.getD ((g:Int)-1).toNat 0).sign=0) (h8:(g:Int)-1≤(g:Int)):LG ag_L1 (zfy a b d f g) (zfy a b d f ((g:Int)-1).toNat):=Loops.go (LS.at ziG 60 [] [0] [0,1,2,3] [1,1] (.t h1<|.i h2<|.t h3<|.t h4<|.t h5<|.c h6<|.c (beq_iff_eq.2 h7)<|.t h8<|.e) [1,2,3,4,5,6,0,7,2,3,8])
theorem ag_L1_0_1 (a:List Int) (b d f:Int) (g:Nat) (h1:(g:Int) > 0) (h2:r64 ((g:Int)-1)) (h3:0≤(g:Int)-1) (h4:(g:Int)-1<(g:Int)) (h5:((g:Int)-1).toNat<a.length) (h6:decide (a.getD ((g:Int)-1).toNat 0<OfNat.ofNat 0)=decide (a.getD ((g:Int)-1).toNat 0<0)) (h7:(a.getD ((g:Int)-1).toNat 0).sign≠0):ag_L1 (zfy a b d f g) (Ex.exit 0,(zeo a b d f g)):=LF (LS.at ziG 60 [] [0] [0,1,2,3] [1,0] (.t h1<|.i h2<|.t h3<|.t h4<|.t h5<|.c h6<|.c (beq_false_of_ne h7)<|.e) [1,2,3,4,5,6,0,7])
theorem ag_L1_0_2 (a:List Int) (b c d:Int) (g:Nat) (h1:¬((g:Int) > 0)):ag_L1 (zfy a b c d g) (Ex.exit 0,(zeo a b c d g)):=LF (LS.at ziG 60 [] [0] [0,1,2,3] [0] (.f h1<|.e) [1])
theorem ag_L2_0_0 (a:List Int) (b d:Int) (f:Nat) (g:List Int) (j:Int) (l:List Int) (m:Nat) (h1:(f:Int)≥(a.length:Int)) (h2:r64 ((f:Int)-1)) (h3:0≤(f:Int)-1) (h4:(f:Int)-1<(f:Int)) (h5:((f:Int)-1).toNat<g.length) (h6:decide (g.getD ((f:Int)-1).toNat 0<OfNat.ofNat 0)=decide (g.getD ((f:Int)-1).toNat 0<0)) (h7:pDD (g.getD ((f:Int)-1).toNat 0) b) (h8:r64 ((f:Int)-(a.length:Int))) (hL1:ag_L0 (zd0 a f ((f:Int)-(a.length:Int)) ((f:Int)) b d (g.getD ((f:Int)-1).toNat 0*b) (0) g) (Ex.exit 2,(zen a f ((f:Int)-(a.length:Int)) ((f:Int)) b d (g.getD ((f:Int)-1).toNat 0*b) j l))) (hL2:ag_L1 (zfy l b d (g.getD ((f:Int)-1).toNat 0*b) f) (Ex.exit 0,(zeo l b d (g.getD ((f:Int)-1).toNat 0*b) m))):LG ag_L2 (zgV a b d f g) (zgV a b d m l):=Loops.go (LS.at ziG 60 [] [1,5,6,7] [3,2,1,0] [1] (.t h1<|.i h2<|.t h3<|.t h4<|.t h5<|.c h6<|.c h7<|.i h8<|.v [1,5,6,7,8,9,42,43] [0,1,2,3] hL1<|.v [0] [0,1,2,3] hL2<|.e) [1,2,3,4,5,6,0,7,6,0,7,0,8,0,9,0,10])
theorem ag_L2_0_1 (a:List Int) (b c:Int) (d:Nat) (g:List Int) (h1:¬((d:Int)≥(a.length:Int))):ag_L2 (zgV a b c d g) (Ex.exit 0,(zjq a b c d g)):=LF (LS.at ziG 60 [] [1,5,6,7] [3,2,1,0] [0] (.f h1<|.e) [1])
abbrev ag_L3 (s:St) (r:Ex × St):Prop:=Loops 4 tP (kZ tP 181 2) s r
abbrev zfz (a:Nat) (b c d e:Int) (f:List Int):St:=⟨sp 93 [(5,.own 1 0 a 2),(79,aI b),(80,aI e)],[.dead,.lst EK.whole f true,.flat [aD c,.wd c] true,.flat [aD d,.wd d] true],[3,2,1,0]⟩
abbrev zgn (a:Nat) (b c d e:Int) (f:List Int):St:=⟨sp 93 [(5,.own 1 0 a 2),(79,aI b),(80,aI e)],[.dead,.lst EK.whole f true,.flat [aD c,.wd c] true,.flat [aD d,.wd d] true],[3,2,1,0]⟩
theorem ag_L3_0_0 (a:Nat) (b d f g:Int) (j:List Int) (h1:g<b) (h2:0≤g) (h3:g<(a:Int)) (h4:g.toNat<j.length) (h5:decide (j.getD g.toNat 0<OfNat.ofNat 0)=decide (j.getD g.toNat 0<0)) (h6:r64 (g+1)):LG ag_L3 (zfz a b d f g j) (zfz a b d f (g+1) (j.set g.toNat (-j.getD g.toNat 0))):=Loops.go (LS.at ziG 60 [] [5,79,80] [3,2,1,0] [1] (.t h1<|.t h2<|.t h3<|.t h4<|.c h5<|.i h6<|.e) [1,2,3,4,5,0,2,3,4,0,6])
theorem ag_L3_0_1 (a:Nat) (b c d g:Int) (i:List Int) (h1:¬(g<b)):ag_L3 (zfz a b c d g i) (Ex.exit 4,(zgn a b c d g i)):=LF (LS.at ziG 60 [] [5,79,80] [3,2,1,0] [0] (.f h1<|.e) [1])
theorem ag_0 (p q:List Int) (a:Nat) (b:List Int) (d:Int) (f:List Int) (h1:p≠[]) (h2:(0+p.length)*32≤140737488355328) (h3:0+p.length≤4611686018427387904) (h4:r64 ((q.length:Int)-1)) (h5:0≤(q.length:Int)-1) (h6:(q.length:Int)-1<(q.length:Int)) (h7:decide (q.getD ((q.length:Int)-1).toNat 0<OfNat.ofNat 0)=decide (q.getD ((q.length:Int)-1).toNat 0<0)) (h8:pDD (q.getD ((q.length:Int)-1).toNat 0) (q.getD ((q.length:Int)-1).toNat 0)) (hL1:ag_L2 (zgV q (q.getD ((q.length:Int)-1).toNat 0) (q.getD ((q.length:Int)-1).toNat 0*q.getD ((q.length:Int)-1).toNat 0) (0+p.length) (List.take 0 []++p)) (Ex.exit 0,(zjq q (q.getD ((q.length:Int)-1).toNat 0) (q.getD ((q.length:Int)-1).toNat 0*q.getD ((q.length:Int)-1).toNat 0) a b))) (hL2:ag_L3 (zfz a ((a:Int)) (q.getD ((q.length:Int)-1).toNat 0) (q.getD ((q.length:Int)-1).toNat 0*q.getD ((q.length:Int)-1).toNat 0) (0) b) (Ex.exit 4,(zgn a ((a:Int)) (q.getD ((q.length:Int)-1).toNat 0) (q.getD ((q.length:Int)-1).toNat 0*q.getD ((q.length:Int)-1).toNat 0) d f))) (h11:a≤f.length):FC tP 181 [.lst .whole p,.lst .whole q] (.lst EK.whole (f.take a)):=dZ ziG 60 [] (.c (congrArg Bool.not (zaV h1))<|.t h2<|.t h3<|.i h4<|.t h5<|.t h6<|.c h7<|.c h8<|.v [1,5,6,7] [3,2,1,0] hL1<|.v [5,79,80] [3,2,1,0] hL2<|.c h11<|.e) [1,2,3,0,4,5,6,7,7,8,0,9,0,10,11]
end
open Go.Kf
theorem getD_agR {q r:List Int} {sq first:Int} {shift i:Nat} (h:i≤r.length):(agR q sq first shift r i).getD i 0=r.getD i 0:=by
 rw [zgT _ _ _ _ _ _ _ h,if_neg (Nat.lt_irrefl i)]
theorem getDsetS {l:List Int} {i:Nat} {v:Int} (h:i<l.length):(l.set i v).getD i 0=v:=by
 simp_all
theorem ag_l0 {q r:List Int} {n shift:Nat} {top sq first t9:Int} {k:Nat} (hn:n≤r.length) (hm:n≤100000) (h9:t9=(shift:Int)) (hs:shift+q.length=n) (hk:k≤400000) (hr:∀j,Sz k (r.getD j 0)) (hsq:Sz k sq) (hf:Sz k first) (hq:∀j,Sz k (q.getD j 0)) :
    ∀(m i:Nat),i+m=n→ag_L0 (zd0 q n t9 n top sq first i (agR q sq first shift r i)) (Ex.exit 2,zen q n t9 n top sq first n (agR q sq first shift r n))
  | 0,i,hi=>by
    obtain rfl:i=n:=by omega
    exact ag_L0_0_2 q i t9 i top sq first i _ (by omega)
  | m + 1, i,hi=>by
    have hlen:=zgU q sq first shift r i
    have hg:=getD_agR (q:=q) (sq:=sq) (first:=first) (shift:=shift) (r:=r) (i:=i) (by omega)
    have ih:=ag_l0 (top:=top) hn hm h9 hs hk hr hsq hf hq m (i+1) (by omega)
    have fz:∀ {z:Int} {j:Nat},Sz j z→j≤1048576→zag z:=fun h h2=>rZ h h2
    have e1:Int.toNat (i:Int)=i:=rfl
    by_cases hsh:shift≤i
    · have e2:Int.toNat ((i:Int)-t9)=i-shift:=by omega
      have hset:((agR q sq first shift r i).set i (r.getD i 0*sq)).getD i 0=r.getD i 0*sq:=getDsetS (by omega)
      have key:agR q sq first shift r (i+1)=((agR q sq first shift r i).set i (r.getD i 0*sq)).set i (r.getD i 0*sq + -(first*q.getD (i-shift) 0)):=by
        rw [List.set_set]
        show(agR q sq first shift r i).set i (agC q sq first shift i (r.getD i 0))=_
        unfold agC;rw [if_pos hsh]
      rw [key] at ih
      have go:=@ag_L0_0_0 q n t9 n top sq first i (agR q sq first shift r i) (by omega) (by omega) (by omega) (by rw [e1,hlen];omega) rfl (by rw [e1];show pDD ((agR q sq first shift r i).getD i 0) sq;rw [hg];exact ⟨fz (hr i) (by omega),fz hsq (by omega)⟩) (by omega) (by omega) (by omega) (by omega)
        (by grind) rfl (by rw [e2];exact ⟨fz hf (by omega),fz (hq _) (by omega)⟩) rfl
        (by
          rw [e1,e2]
          show pDD (((agR q sq first shift r i).set i ((agR q sq first shift r i).getD i 0*sq)).getD i 0) (-(first*q.getD (i-shift) 0))
          rw [hg,hset]
          exact ⟨fz ((hr i).mul hsq) (by omega),fz ((hf.mul (hq _)).neg) (by omega)⟩) (by omega) (Ex.exit 2,zen q n t9 n top sq first n (agR q sq first shift r n))
      grind
    · have key:agR q sq first shift r (i+1)=(agR q sq first shift r i).set i (r.getD i 0*sq):=by
        show(agR q sq first shift r i).set i (agC q sq first shift i (r.getD i 0))=_
        unfold agC;rw [if_neg hsh]
      rw [key] at ih
      have go:=@ag_L0_0_1 q n t9 n top sq first i (agR q sq first shift r i) (by omega) (by omega) (by omega) (by rw [e1,hlen];omega) rfl (by rw [e1];show pDD ((agR q sq first shift r i).getD i 0) sq;rw [hg];exact ⟨fz (hr i) (by omega),fz hsq (by omega)⟩) (by omega) (by omega) (Ex.exit 2,zen q n t9 n top sq first n (agR q sq first shift r n))
      grind
theorem ag_l1 {r:List Int} {a b c:Int}:∀(n:Nat),n≤r.length→n≤100000→ag_L1 (zfy r a b c n) (Ex.exit 0,zeo r a b c (cutN r n))
 | 0,_,_=>ag_L1_0_2 r a b c 0 (by omega)
 | n + 1,h,hm=>by
  have e1:Int.toNat (((n+1:Nat):Int)-1)=n:=by omega
  unfold cutN
  by_cases hz:r.getD n 0=0
  ·rw [if_pos hz]
   have ih:=ag_l1 (r:=r) (a:=a) (b:=b) (c:=c) n (by omega) (by omega)
   have go:=@ag_L1_0_0 r a b c (n+1) (by omega) (by omega) (by omega) (by omega) (by omega) rfl (by grind) (by omega) (Ex.exit 0,zeo r a b c (cutN r n))
   simp_all
  ·rw [if_neg hz]
   exact ag_L1_0_1 r a b c (n+1) (by omega) (by omega) (by omega) (by omega) (by omega) rfl (by grind)
theorem ag_l3 {r:List Int} {n:Nat} {a b:Int} (hn:n≤r.length) (hm:n≤100000):∀(m i:Nat),i+m=n→ag_L3 (zfz n n a b i (ngR r i)) (Ex.exit 4,zgn n n a b n (ngR r n))
 | 0,i,hi=>by
  obtain rfl:i=n:=by omega
  exact ag_L3_0_1 i i a b i _ (by omega)
 | m+1,i,hi=>by
  have hlen:=zfJ r i
  have hg:(ngR r i).getD i 0=r.getD i 0:=by rw [zjV _ _ _ (by omega),if_neg (Nat.lt_irrefl i)]
  have ih:=ag_l3 (a:=a) (b:=b) hn hm m (i+1) (by omega)
  have e1:Int.toNat (i:Int)=i:=rfl
  have go:=@ag_L3_0_0 n n a b i (ngR r i) (by omega) (by omega) (by omega) (by rw [e1,hlen];omega) rfl (by omega) (Ex.exit 4,zgn n n a b n (ngR r n))
  rw [e1] at go
  refine go ?_
  show ag_L3 (zfz n n a b ((i:Int)+1) ((ngR r i).set i (-((ngR r i).getD i 0)))) _
  rw [hg]
  exact ih
theorem agC_sz {q:List Int} {sq first x:Int} {shift i a b c d m:Nat} (hx:Sz a x) (hs:Sz b sq) (hf:Sz c first) (hq:∀j,Sz d (q.getD j 0)) (h1:a+b<m) (h2:c+d<m):Sz m (agC q sq first shift i x):=by
 unfold agC
 split
 ·exact Sz.add (hx.mul hs) ((hf.mul (hq _)).neg) h1 h2
 ·exact(hx.mul hs).mono (by omega)
theorem agR_sz {q r:List Int} {sq first:Int} {shift n a b c d m:Nat} (hn:n≤r.length) (hr:∀j,Sz a (r.getD j 0)) (hs:Sz b sq) (hf:Sz c first) (hq:∀j,Sz d (q.getD j 0)) (h1:a+b<m) (h2:c+d<m) (j:Nat):Sz m ((agR q sq first shift r n).getD j 0):=by
 rw [zgT _ _ _ _ _ _ _ hn]
 split
 ·exact agC_sz (hr j) hs hf hq h1 h2
 ·exact(hr j).mono (by omega)
theorem znD {r:List Int} {n:Nat} (h:r.getD n 0=0):cutN r (n+1)≤n:=by
 unfold cutN;rw [if_pos h];exact zg7 r n
theorem ag_l2 {q:List Int} {d:Nat} (hq0:1≤q.length) (hq:∀j,Sz d (q.getD j 0)):∀(k n:Nat) (r:List Int) (a:Nat),n≤k→n≤r.length→n≤1000→(∀j,Sz a (r.getD j 0))→a+k*(2*d+1)≤300000→d≤50000 →
    ag_L2 (zgV q (q.getD (q.length-1) 0) (q.getD (q.length-1) 0*q.getD (q.length-1) 0) n r) (Ex.exit 0,zjq q (q.getD (q.length-1) 0) (q.getD (q.length-1) 0*q.getD (q.length-1) 0) (agN q k n r).1 (agN q k n r).2) ∧
      (agN q k n r).1≤(agN q k n r).2.length∧(agN q k n r).1≤n∧(agN q k n r).2.length=r.length∧(q.length≤n→(agN q k n r).1<q.length)∧(∀j,Sz (a+k*(2*d+1)) ((agN q k n r).2.getD j 0))
  | k, n,r,a,hk,hn,hm,hr,hs,hd=>by
    by_cases hc:q.length≤n
    · obtain ⟨k,rfl⟩:∃j,k=j+1:=⟨k-1,by omega⟩
      obtain ⟨m,rfl⟩:∃j,n=j+1:=⟨n-1,by omega⟩
      have hmul:(k+1)*(2*d+1)=k*(2*d+1)+(2*d+1):=Nat.succ_mul _ _
      have ht:=hq (q.length-1)
      generalize htt:q.getD (q.length-1) 0=t at ht
      have hsq:Sz (d+d) (t*t):=ht.mul ht
      have hf:Sz (a+d) (r.getD m 0*t):=(hr m).mul ht
      have hR:∀j,Sz (a+(2*d+1)) ((agR q (t*t) (r.getD m 0*t) (m+1-q.length) r (m+1)).getD j 0):=agR_sz hn hr hsq hf hq (by omega) (by omega)
      have hl:=zgU q (t*t) (r.getD m 0*t) (m+1-q.length) r (m+1)
      have htop:(agR q (t*t) (r.getD m 0*t) (m+1-q.length) r (m+1)).getD m 0=0:=by
        rw [zgT _ _ _ _ _ _ _ hn,if_pos (by omega)]
        unfold agC
        grind
      have hcut:=znD htop
      have hcut2:=zg7 (agR q (t*t) (r.getD m 0*t) (m+1-q.length) r (m+1)) (m+1)
      have e:agN q (k+1) (m+1) r=agN q k (cutN (agR q (t*t) (r.getD m 0*t) (m+1-q.length) r (m+1)) (m+1)) (agR q (t*t) (r.getD m 0*t) (m+1-q.length) r (m+1)):=by
        conv=>lhs;unfold agN
        simp_all
      obtain ⟨i1,i2,i3,i4,i5,i6⟩:=ag_l2 hq0 hq k (cutN (agR q (t*t) (r.getD m 0*t) (m+1-q.length) r (m+1)) (m+1)) (agR q (t*t) (r.getD m 0*t) (m+1-q.length) r (m+1)) (a+(2*d+1)) (by omega) (by omega) (by omega) hR (by omega) hd
      rw [htt] at i1
      rw [e]
      have e1:Int.toNat (((m+1:Nat):Int)-1)=m:=by omega
      have fz:∀ {z:Int} {j:Nat},Sz j z→j≤1048576→zag z:=fun h h2=>rZ h h2
      have L0:=ag_l0 (q:=q) (r:=r) (n:=m+1) (shift:=m+1-q.length) (top:=t) (sq:=t*t) (first:=r.getD m 0*t) (t9:=((m+1:Nat):Int)-(q.length:Int)) (k:=a+d+d+d) hn (by omega) (by omega) (by omega) (by omega)
        (fun j=>(hr j).mono (by omega)) (hsq.mono (by omega)) (hf.mono (by omega)) (fun j=>(hq j).mono (by omega)) (m+1) 0 (by omega)
      have L1:=ag_l1 (r:=agR q (t*t) (r.getD m 0*t) (m+1-q.length) r (m+1)) (a:=t) (b:=t*t) (c:=r.getD m 0*t) (m+1) (by omega) (by omega)
      have go:=@ag_L2_0_0 q t (t*t) (m+1) r ((m+1:Nat):Int) (agR q (t*t) (r.getD m 0*t) (m+1-q.length) r (m+1)) (cutN (agR q (t*t) (r.getD m 0*t) (m+1-q.length) r (m+1)) (m+1)) (by omega) (by omega) (by omega) (by omega) (by omega) rfl
        (by rw [e1];exact ⟨fz (hr m) (by omega),fz ht (by omega)⟩) (by omega) (by rw [e1];exact L0) (by rw [e1];exact L1)
      grind
    · have e:agN q k n r=(n,r):=by
        cases k with
        | zero=>rfl
        | succ k=>unfold agN;rw [if_neg hc]
      rw [e]
      exact ⟨ag_L2_0_1 q _ _ n r (by omega),hn,Nat.le_refl _,rfl,fun h=>absurd h hc,fun j=>(hr j).mono (Nat.le_add_right _ _)⟩
def pAg (p q:List Int):Prop:=(∃a d:Nat,(∀j,Sz a (p.getD j 0))∧(∀j,Sz d (q.getD j 0))∧a+p.length*(2*d+1)≤300000∧d≤50000)∧p≠[]∧p.length≤1000∧1≤q.length∧q.length≤1000
instance tAg {p q:List Int}:Tst (pAg p q):=⟨false,fun h=>by cases h⟩
theorem zoJ (p q:List Int) (h:pAg p q):FC tP 181 [.lst .whole p,.lst .whole q] (.lst .whole (agst p q)):=by
 obtain ⟨⟨a,d,hp,hq,h1,h2⟩,hne,hpl,hq0,hql⟩:=h
 obtain ⟨i1,i2,i3,i4,i5,i6⟩:=ag_l2 hq0 hq p.length p.length p a (Nat.le_refl _) (Nat.le_refl _) hpl hp h1 h2
 have L3:=ag_l3 (r:=(agN q p.length p.length p).2) (n:=(agN q p.length p.length p).1) (a:=q.getD (q.length-1) 0) (b:=q.getD (q.length-1) 0*q.getD (q.length-1) 0) i2 (by omega) (agN q p.length p.length p).1 0 (by omega)
 have e1:Int.toNat ((q.length:Int)-1)=q.length-1:=by omega
 have ht:=hq (q.length-1)
 have hf:zag (q.getD (q.length-1) 0):=rZ ht (by omega)
 have:=ag_0 p q (agN q p.length p.length p).1 (agN q p.length p.length p).2 ((agN q p.length p.length p).1:Int) (ngR (agN q p.length p.length p).2 (agN q p.length p.length p).1) hne (by omega) (by omega) (by omega) (by omega) (by omega) rfl
  (by rw [e1];exact ⟨hf,hf⟩) (by rw [e1,Nat.zero_add];exact i1) (by rw [e1];exact L3) (by rw [zfJ];exact i2)
 exact this
abbrev kdR:List (TypeId × EK):=[(97,.whole),(22,.sl (.int .i64))]
noncomputable def ctrH4:Ctr:=(181,cD2 (.sl .whole) (.sl .whole) pAg (fun p q=>.lst .whole (Go.Kf.agst p q))) :: ctrH3
theorem zkX:∀p∈ctrH4,jZ tP p.1 p.2:=CAll.cons (zb5 zoJ) zkW
theorem okKR:(eZ tP ctrH4 bw [] kdR).OK:=vZ zaC mixed zkX zaA
noncomputable section
abbrev zlU (s:St) (r:Ex × St):Prop:=Loops 0 tP (kZ tP 176 0) s r
abbrev zdG (a:List (List Int)) (b:Int):St:=⟨sp 22 [(0,.lst KI a),(3,aI b)],[],[]⟩
abbrev zdk (a:List (List Int)) (b:Int):St:=⟨sp 22 [(0,.lst KI a),(3,aI b)],[],[]⟩
theorem zrd (a:List (List Int)) (b:Int) (h1:b > 0) (h2:r64 (b-1)) (h3:0≤b-1) (h4:b-1<(a.length:Int)) (h5:pX (a.getD (b-1).toNat [])) (h6:(vl (a.getD (b-1).toNat [])).sign=0):LG zlU (zdG a b) (zdG a (b-1)):=Loops.go (LS.at okKR 60 [] [0,3] [] [1,1] (.t h1<|.i h2<|.t h3<|.t h4<|.c h5<|.c (beq_iff_eq.2 h6)<|.e) [1,2,3,4,5,6,2])
theorem zre (a:List (List Int)) (b:Int) (h1:b > 0) (h2:r64 (b-1)) (h3:0≤b-1) (h4:b-1<(a.length:Int)) (h5:pX (a.getD (b-1).toNat [])) (h6:(vl (a.getD (b-1).toNat [])).sign≠0):zlU (zdG a b) (Ex.exit 0,(zdk a b)):=LF (LS.at okKR 60 [] [0,3] [] [1,0] (.t h1<|.i h2<|.t h3<|.t h4<|.c h5<|.c (beq_false_of_ne h6)<|.e) [1,2,3,4,5,6])
theorem zrf (a:List (List Int)) (b:Int) (h1:¬(b > 0)):zlU (zdG a b) (Ex.exit 0,(zdk a b)):=LF (LS.at okKR 60 [] [0,3] [] [0] (.f h1<|.e) [1])
theorem rsh_0 (p:List (List Int)) (a:Int) (hL1:zlU (zdG p ((p.length:Int))) (Ex.exit 0,(zdk p a))) (h2:0≤a) (h3:a≤(p.length:Int)):FC tP 176 [.lst (.sl (.int .i64)) p] (.lst KI ((p.take a.toNat).drop 0)):=dZ okKR 60 [] (.v [0,3] [] hL1<|.t h2<|.t h3<|.e) [0,1,0,2,3]
end
open Go.Kf
def vls (p:List (List Int)):List Int:=p.map vl
theorem zav (p:List (List Int)) (i:Nat):vl (p.getD i [])=(vls p).getD i 0:=by
 simp only [vls,List.getD_eq_getElem?_getD,List.getElem?_map]
 cases p[i]? <;> rfl
def pSh (p:List (List Int)):Prop:=p.length≤1000∧∀l∈p,pX l
instance tSh {p:List (List Int)}:Tst (pSh p):=⟨false,fun h=>by cases h⟩
theorem pSh_get {p:List (List Int)} (h:pSh p) {i:Nat} (hi:i<p.length):pX (p.getD i []):=by
 rw [List.getD_eq_getElem?_getD,List.getElem?_eq_getElem hi];exact h.2 _ (List.getElem_mem hi)
theorem zoo {p:List (List Int)} (h:pSh p):∀(n:Nat),n≤p.length→zlU (zdG p n) (Ex.exit 0,zdk p (cutN (vls p) n))
 | 0,_=>zrf p _ (by omega)
 | n + 1,hn=>by
  have hl:=h.1
  have e1:Int.toNat (((n+1:Nat):Int)-1)=n:=by omega
  have e2:((n+1:Nat):Int)-1=(n:Int):=by omega
  have hx:=pSh_get h (i:=n) (by omega)
  unfold cutN
  rw [← zav]
  by_cases hz:vl (p.getD n [])=0
  ·rw [if_pos hz]
   have ih:=zoo h n (by omega)
   have go:=@zrd p ((n+1:Nat):Int) (by omega) (by omega) (by omega) (by omega) (by rw [e1];exact hx) (by rw [e1];show Int.sign (vl (p.getD n []))=0;rw [hz];rfl) (Ex.exit 0,zdk p (cutN (vls p) n))
   rw [e2] at go
   exact go ih
  ·rw [if_neg hz]
   exact zre p _ (by omega) (by omega) (by omega) (by omega) (by rw [e1];exact hx) (by rw [e1];show Int.sign (vl (p.getD n []))≠0;exact fun h0=>hz (Int.sign_eq_zero_iff_zero.1 h0))
theorem rshort_fc (p:List (List Int)) (h:pSh p):FC tP 176 [.lst (.sl (.int .i64)) p] (.lst (.sl (.int .i64)) (p.take (cutN (vls p) p.length))):=by
 have hc:=zg7 (vls p) p.length
 have:=rsh_0 p (cutN (vls p) p.length:Nat) (zoo h p.length (Nat.le_refl _)) (by omega) (by omega)
 exact this
noncomputable def ctrH5:Ctr:=(176,cD1 (.sl (.sl (.int .i64))) pSh (fun p=>.lst (.sl (.int .i64)) (p.take (cutN (vls p) p.length)))) :: ctrH4
theorem zkY:∀p∈ctrH5,jZ tP p.1 p.2:=CAll.cons (zer rshort_fc) zkX
theorem zc5:(eZ tP ctrH5 bw [] kdR).OK:=vZ zaC mixed zkY zaA
end Go.Proofs.YtagbldogmjhdpaaGreatDoor
end
