/- Part of a proof about a given program: see the last module of the claim. -/
import Derived.Test.YtloaeinogiplbaaGreatDoorD
section
open Go Go.Ev Go.RowKit
namespace Go.Proofs.YtloaeinogiplbaaGreatDoor
open Go.Proofs
set_option maxRecDepth 100000
set_option maxHeartbeats 1000000
set_option linter.unusedVariables false
set_option linter.unusedSimpArgs false
def ctrF3:Ctr:=(142,cL pNm (fun x=>.ni (vl x))) :: ctrF2
theorem zlv:∀p∈ctrF3,kZ Tryz.prog p.1 p.2:=CAll.cons (zj6 zp6) zlu
theorem zlb:(dZ Tryz.prog ctrF3 bw).OK:=TZ zlv
noncomputable section
theorem rne_0 (z:Int) (h1:(↑((aZ z).length):Int) > 0) (h2:r64 ((↑((aZ z).length):Int)-1)) (h3:0≤(↑((aZ z).length):Int)-1) (h4:(↑((aZ z).length):Int)-1<(↑((aZ z).length):Int)) (h5:((↑((aZ z).length):Int)-1).toNat<(aZ z).length):FC Tryz.prog 161 [.ni z] (.lit (.bool (decide ((aZ z).getD ((↑((aZ z).length):Int)-1).toNat 0<0)))):=eZ zlb 60 [1] (.t h1<|.i h2<|.t h3<|.t h4<|.t h5<|.e) [1,2,3,4,5]
theorem rne_1 (z:Int) (h1:¬((↑((aZ z).length):Int) > 0)):FC Tryz.prog 161 [.ni z] (.ff):=eZ zlb 60 [0] (.f h1<|.e) [1]
theorem rle_0 (a b:Int) (h1:(↑((aZ a).length):Int)≠(↑((aZ b).length):Int)):FC Tryz.prog 213 [.ni a,.ni b] (.lit (.bool (decide ((↑((aZ a).length):Int)<(↑((aZ b).length):Int))))):=eZ zlb 60 [1] (.c (bne_iff_ne.2 h1)<|.e) [1]
abbrev zg5 (s:St) (r:Ex × St):Prop:=Loops 0 Tryz.prog (lZ Tryz.prog 213 0) s r
abbrev zcN (a b c:Int):St:=⟨sp 41 [(0,.ni a),(1,.ni b),(5,aI c)],[],[]⟩
abbrev ziR (a b:Int) (c:Bool):St:=⟨sp 41 [(4,.lit (.bool c))],[],[]⟩
abbrev ziS (a b c:Int):St:=⟨sp 41 [(0,.ni a),(1,.ni b),(5,aI c)],[],[]⟩
theorem zqF (a b d:Int) (h1:d≥0) (h2:0≤d) (h3:d<(↑((aZ a).length):Int)) (h4:d.toNat<(aZ a).length) (h5:d<(↑((aZ b).length):Int)) (h6:d.toNat<(aZ b).length) (h7:(aZ a).getD d.toNat 0≠(aZ b).getD d.toNat 0):zg5 (zcN a b d) (Ex.ret,(ziR a b (decide ((aZ a).getD d.toNat 0<(aZ b).getD d.toNat 0)))):=Loops.fin (LS.at zlb 60 [] [4] [] [1,1] (.t h1<|.t h2<|.t h3<|.t h4<|.t h5<|.t h6<|.c (bne_iff_ne.2 h7)<|.e) [1,2,3,4,2,5,6,7,2,3,4,2,5,6]) (fun h=>nomatch h)
theorem zjR (a b d:Int) (h1:d≥0) (h2:0≤d) (h3:d<(↑((aZ a).length):Int)) (h4:d.toNat<(aZ a).length) (h5:d<(↑((aZ b).length):Int)) (h6:d.toNat<(aZ b).length) (h7:(aZ a).getD d.toNat 0=(aZ b).getD d.toNat 0) (h8:r64 (d-1)) {r:Ex × St} (k:zg5 (zcN a b (d-1)) r):zg5 (zcN a b d) r:=Loops.go (LS.at zlb 60 [] [0,1,5] [] [1,0] (.t h1<|.t h2<|.t h3<|.t h4<|.t h5<|.t h6<|.c (bne_eq_false_iff_eq.2 h7)<|.i h8<|.e) [1,2,3,4,2,5,6,7,8]) k
theorem zqG (a b c:Int) (h1:¬(c≥0)):zg5 (zcN a b c) (Ex.exit 0,(ziS a b c)):=Loops.fin (LS.at zlb 60 [] [0,1,5] [] [0] (.f h1<|.e) [1]) (fun h=>nomatch h)
theorem rle_1 (a b:Int) (d:Bool) (h1:(↑((aZ a).length):Int)=(↑((aZ b).length):Int)) (h2:r64 ((↑((aZ a).length):Int)-1)) (hL1:zg5 (zcN a b ((↑((aZ a).length):Int)-1)) (Ex.ret,(ziR a b d))):FC Tryz.prog 213 [.ni a,.ni b] (.lit (.bool d)):=eZ zlb 60 [0] (.c (bne_eq_false_iff_eq.2 h1)<|.i h2<|.v [0,1,5] [] hL1<|.e) [1,2,0,3]
theorem rle_2 (a b d:Int) (h1:(↑((aZ a).length):Int)=(↑((aZ b).length):Int)) (h2:r64 ((↑((aZ a).length):Int)-1)) (hL1:zg5 (zcN a b ((↑((aZ a).length):Int)-1)) (Ex.exit 0,(ziS a b d))):FC Tryz.prog 213 [.ni a,.ni b] (.ff):=eZ zlb 60 [0] (.c (bne_eq_false_iff_eq.2 h1)<|.i h2<|.v [0,1,5] [] hL1<|.e) [1,2,0,3]
abbrev zbn (s:St) (r:Ex × St):Prop:=Loops 0 Tryz.prog (lZ Tryz.prog 93 0) s r
abbrev zdH (a b:Int):St:=⟨sp 48 [(0,.ni a),(1,.ni b),(5,aN),(6,aI 0)],[],[]⟩
abbrev zbd (a b:Int) (c:Nat) (d:Int) (e:List Int):St:=⟨sp 48 [(0,.ni a),(1,.ni b),(5,.own 0 0 c 1),(6,aI d)],[.ints e true],[]⟩
abbrev zms (a b:Int):St:=⟨sp 48 [(0,.ni a),(1,.ni b),(5,aN),(6,aI 0)],[],[]⟩
abbrev zfE (a b:Int) (c:Nat) (d:Int) (e:List Int):St:=⟨sp 48 [(0,.ni a),(1,.ni b),(5,.own 0 0 c 1),(6,aI d)],[.ints e true],[]⟩
theorem zp7 (a b:Int) (h1:0<(↑((aZ a).length):Int)) (h2:0<(aZ a).length) (h3:0<(↑((aZ b).length):Int)) (h4:0<(aZ b).length) (h5:r64 ((aZ a).getD 0 0+(aZ b).getD 0 0)) {r:Ex × St} (k:zbn (zbd a b (1) (1) ([(aZ a).getD 0 0+(aZ b).getD 0 0])) r):zbn (zdH a b) r:=Loops.go (LS.at zlb 60 [1] [0,1,5,6] [] [1,1,1] (.t h1<|.t h2<|.t h3<|.t h4<|.i h5<|.e) [1,1,0,1,2,3,0,3,4,5,0,0,0,0,0]) k
theorem zp8 (a b:Int) (h1:0<(↑((aZ a).length):Int)) (h2:0<(aZ a).length) (h3:¬(0<(↑((aZ b).length):Int))) {r:Ex × St} (k:zbn (zbd a b (1) (1) ([(aZ a).getD 0 0])) r):zbn (zdH a b) r:=Loops.go (LS.at zlb 60 [1] [0,1,5,6] [] [1,1,0] (.t h1<|.t h2<|.f h3<|.e) [1,1,0,1,2,3,0,0,0,0,0]) k
theorem zp9 (a b:Int) (h1:¬(0<(↑((aZ a).length):Int))) (h2:0<(↑((aZ b).length):Int)) (h3:0<(aZ b).length) (h4:r64 (0+(aZ b).getD 0 0)) {r:Ex × St} (k:zbn (zbd a b (1) (1) ([0+(aZ b).getD 0 0])) r):zbn (zdH a b) r:=Loops.go (LS.at zlb 60 [1] [0,1,5,6] [] [0,1,0,1] (.f h1<|.t h2<|.t h3<|.i h4<|.e) [1,2,1,2,0,2,3,4,0,0,0,0,0]) k
theorem zqa (a b:Int) (h1:¬(0<(↑((aZ a).length):Int))) (h2:¬(0<(↑((aZ b).length):Int))):zbn (zdH a b) (Ex.exit 0,(zms a b)):=Loops.fin (LS.at zlb 60 [] [0,1,5,6] [] [0,0] (.f h1<|.f h2<|.e) [1,2]) (fun h=>nomatch h)
theorem zqb (a b:Int) (c:Nat) (d:Int) (f:List Int) (h1:d<(↑((aZ a).length):Int)) (h2:0≤d) (h3:d.toNat<(aZ a).length) (h4:d<(↑((aZ b).length):Int)) (h5:d.toNat<(aZ b).length) (h6:r64 ((aZ a).getD d.toNat 0+(aZ b).getD d.toNat 0)) (h7:(c+1)*8≤140737488355328) (h8:c+1≤4611686018427387904) (h9:c≤f.length) (h10:r64 (d+1)) {r:Ex × St} (k:zbn (zbd a b (c+1) (d+1) (f.take c++List.take 1 [(aZ a).getD d.toNat 0+(aZ b).getD d.toNat 0])) r):zbn (zbd a b c d f) r:=Loops.go (LS.at zlb 60 [2] [0,1,5,6] [] [1,1,1] (.t h1<|.t h2<|.t h3<|.t h4<|.t h5<|.i h6<|.t h7<|.t h8<|.t h9<|.i h10<|.e) [1,1,2,1,3,4,2,4,5,6,7,8,9,0,10]) k
theorem zqc (a b:Int) (c:Nat) (d:Int) (g:List Int) (h1:d<(↑((aZ a).length):Int)) (h2:0≤d) (h3:d.toNat<(aZ a).length) (h4:¬(d<(↑((aZ b).length):Int))) (h5:(c+1)*8≤140737488355328) (h6:c+1≤4611686018427387904) (h7:c≤g.length) (h8:r64 (d+1)) {r:Ex × St} (k:zbn (zbd a b (c+1) (d+1) (g.take c++List.take 1 [(aZ a).getD d.toNat 0])) r):zbn (zbd a b c d g) r:=Loops.go (LS.at zlb 60 [2] [0,1,5,6] [] [1,1,0] (.t h1<|.t h2<|.t h3<|.f h4<|.t h5<|.t h6<|.t h7<|.i h8<|.e) [1,1,2,1,3,4,5,6,7,0,8]) k
theorem zqd (a b:Int) (c:Nat) (d:Int) (g:List Int) (h1:¬(d<(↑((aZ a).length):Int))) (h2:d<(↑((aZ b).length):Int)) (h3:0≤d) (h4:d.toNat<(aZ b).length) (h5:r64 (0+(aZ b).getD d.toNat 0)) (h6:(c+1)*8≤140737488355328) (h7:c+1≤4611686018427387904) (h8:c≤g.length) (h9:r64 (d+1)) {r:Ex × St} (k:zbn (zbd a b (c+1) (d+1) (g.take c++List.take 1 [0+(aZ b).getD d.toNat 0])) r):zbn (zbd a b c d g) r:=Loops.go (LS.at zlb 60 [2] [0,1,5,6] [] [0,1,0,1] (.f h1<|.t h2<|.t h3<|.t h4<|.i h5<|.t h6<|.t h7<|.t h8<|.i h9<|.e) [1,2,1,2,3,2,4,5,6,7,8,0,9]) k
theorem zqe (a b:Int) (c:Nat) (d:Int) (g:List Int) (h1:¬(d<(↑((aZ a).length):Int))) (h2:¬(d<(↑((aZ b).length):Int))):zbn (zbd a b c d g) (Ex.exit 0,(zfE a b c d g)):=Loops.fin (LS.at zlb 60 [0] [0,1,5,6] [] [0,0] (.f h1<|.f h2<|.e) [1,2]) (fun h=>nomatch h)
theorem rad_0 (x y:List Int) (h1:pNm x) (h2:pNm y) (hL1:zbn (zdH (vl x) (vl y)) (Ex.exit 0,(zms (vl x) (vl y)))) (h4:pNm []):FC Tryz.prog 93 [.sq x,.sq y] (.ni 0):=eZ zlb 60 [] (.c h1<|.c h2<|.v [0,1,5,6] [] hL1<|.c h4<|.e) [1,2,0,3,4]
theorem rad_1 (x y:List Int) (a:Nat) (b:Int) (d:List Int) (h1:pNm x) (h2:pNm y) (hL1:zbn (zdH (vl x) (vl y)) (Ex.exit 0,(zfE (vl x) (vl y) a b d))) (h4:a≤d.length) (h5:pNm (d.take a)):FC Tryz.prog 93 [.sq x,.sq y] (.ni (vl (d.take a))):=eZ zlb 60 [] (.c h1<|.c h2<|.v [0,1,5,6] [] hL1<|.c h4<|.c h5<|.e) [1,2,0,3,4,5]
end
theorem fZ (z:Int):(aZ z).length=dl z:=by
 unfold aZ dl
 split<;>simp
theorem zh4 {k:Nat} {z:Int} (h:Sz k z):dl z≤k:=zau _ _ h
theorem zea (z:Int):∀d∈aZ z,-100000000<d∧d<100000000:=by
 intro d hd
 have h:=qZ z.natAbs
 unfold aZ at hd
 split at hd
 ·obtain ⟨e,he,rfl⟩:=List.mem_map.1 hd
  have:=h e he;omega
 ·have:=h d hd;omega
theorem IZ (z:Int) (i:Nat):-100000000<(aZ z).getD i 0∧(aZ z).getD i 0<100000000:=by
 by_cases h:i<(aZ z).length
 ·exact zea z _ (by simp [List.getD,h])
 ·have:(aZ z).getD i 0=0:=by simp [List.getD,Nat.le_of_not_lt h]
  rw [this];omega
theorem dl_zero {z:Int}:dl z=0↔z=0:=by
 unfold dl
 rw [List.length_eq_zero_iff,zcy];omega
theorem digs_last {n:Nat} (h:n≠0):0<(digs n).getD ((digs n).length-1) 0:=by
 induction n using Nat.strongRecOn with
 | _ n ih=>
  rw [zcm n h]
  by_cases h1:n / 100000000=0
  ·rw [h1,YZ];simp;omega
  ·have:=ih (n / 100000000) (by omega) h1
   have hl:(digs (n / 100000000)).length≠0:=by rw [ne_eq,List.length_eq_zero_iff,zcy];exact h1
   have e:(((n % 100000000:Nat):Int) :: digs (n / 100000000)).length-1=(digs (n / 100000000)).length-1+1:=by simp;omega
   rw [e,List.getD_cons_succ];exact this
theorem zpX {z:Int} (h:z≠0):(decide ((aZ z).getD ((aZ z).length-1) 0<0))=decide (z<0):=by
 have h1:=digs_last (n:=z.natAbs) (by omega)
 unfold aZ
 by_cases hz:z<0
 ·rw [if_pos hz,decide_eq_true hz,List.length_map]
  have hlt:(digs z.natAbs).length-1<(digs z.natAbs).length:=by
   have:(digs z.natAbs).length≠0:=by rw [ne_eq,List.length_eq_zero_iff,zcy];omega
   omega
  have:((digs z.natAbs).map fun d=>-d).getD ((digs z.natAbs).length-1) 0 = -((digs z.natAbs).getD ((digs z.natAbs).length-1) 0):=by
   simp [List.getD,hlt]
  rw [this]
  exact decide_eq_true (by omega)
 ·rw [if_neg hz,decide_eq_false hz]
  exact decide_eq_false (by omega)
def pNg (z:Int):Prop:=Sz 1000000 z
instance tNg {z:Int}:Tst (pNg z):=inferInstanceAs (Tst (Sz 1000000 z))
theorem zmr (z:Int) (h:pNg z):FC Tryz.prog 161 [.ni z] (.lit (.bool (decide (z<0)))):=by
 have hl:=zh4 h
 by_cases hz:z=0
 ·subst hz
  have:=rne_1 0 (by rw [fZ];simp [dl,YZ])
  exact this.res fun E v hv=>by cases hv;exact .lit _
 ·have hd:dl z≠0:=fun h=>hz (dl_zero.1 h)
  have:=rne_0 z (by rw [fZ];omega) (by rw [fZ];omega) (by rw [fZ];omega) (by omega) (by rw [fZ];omega)
  have e:Int.toNat (((aZ z).length:Int)-1)=(aZ z).length-1:=by rw [fZ];omega
  rw [e,zpX hz] at this
  exact this
theorem rl_loop (a b:Int) (ha:0≤a) (hb:0≤b) (hl:dl a=dl b) (hs:dl a≤1000000):∀(i:Nat),i≤dl a→(aZ a).drop i=(aZ b).drop i →
    (a=b∧zg5 (zcN a b ((i:Int)-1)) (.exit 0,ziS a b (-1)))∨(a≠b∧zg5 (zcN a b ((i:Int)-1)) (.ret,ziR a b (decide (a<b))))
  | 0,_,hd=>.inl ⟨by rw [← bZ a,← bZ b];simpa using congrArg vl hd,zqG a b _ (by omega)⟩
  | i + 1, hi,hd=>by
    have la:=fZ a
    have lb:=fZ b
    have hn:Int.toNat (((i+1:Nat):Int)-1)=i:=by omega
    have hc:((i+1:Nat):Int)-1=(i:Int):=by omega
    have hia:i<(aZ a).length:=by omega
    have hib:i<(aZ b).length:=by omega
    have ea:(aZ a).drop i=(aZ a).getD i 0 :: (aZ a).drop (i+1):=by rw [List.drop_eq_getElem_cons hia];simp [List.getD,hia]
    have eb:(aZ b).drop i=(aZ b).getD i 0 :: (aZ b).drop (i+1):=by rw [List.drop_eq_getElem_cons hib];simp [List.getD,hib]
    rw [hc]
    have hn':Int.toNat (i:Int)=i:=by omega
    by_cases h:(aZ a).getD i 0=(aZ b).getD i 0
    · rcases rl_loop a b ha hb hl hs i (by omega) (by rw [ea,eb,h,hd]) with ⟨h1,h2⟩ | ⟨h1,h2⟩
      · exact .inl ⟨h1,zjR a b i (by omega) (by omega) (by omega) (by omega) (by omega) (by omega) (by rw [hn'];exact h) (by omega) h2⟩
      · exact .inr ⟨h1,zjR a b i (by omega) (by omega) (by omega) (by omega) (by omega) (by omega) (by rw [hn'];exact h) (by omega) h2⟩
    · have key:a≠b∧decide ((aZ a).getD i 0<(aZ b).getD i 0)=decide (a<b):=by
        have ha':aZ a=digs a.natAbs:=by unfold aZ;rw [if_neg (by omega)]
        have hb':aZ b=digs b.natAbs:=by unfold aZ;rw [if_neg (by omega)]
        have hda:Digs (aZ a):=by rw [ha'];exact qZ _
        have hdb:Digs (aZ b):=by rw [hb'];exact qZ _
        have va:a=vl ((aZ a).take i)+100000000 ^ i*((aZ a).getD i 0+100000000*vl ((aZ a).drop (i+1))):=by
          conv=>lhs;rw [← bZ a,← List.take_append_drop i (aZ a),zbj,ea]
          rw [List.length_take,Nat.min_eq_left (by omega)];rfl
        have vb:b=vl ((aZ b).take i)+100000000 ^ i*((aZ b).getD i 0+100000000*vl ((aZ a).drop (i+1))):=by
          conv=>lhs;rw [← bZ b,← List.take_append_drop i (aZ b),zbj,eb]
          rw [List.length_take,Nat.min_eq_left (by omega),hd];rfl
        have t1:Digs ((aZ a).take i):=fun d h=>hda d (List.mem_of_mem_take h)
        have t2:Digs ((aZ b).take i):=fun d h=>hdb d (List.mem_of_mem_take h)
        have u1:=zgP t1
        have u2:=zgP t2
        have w1:=RZ t1
        have w2:=RZ t2
        rw [List.length_take,Nat.min_eq_left (by omega)] at u1 u2
        generalize vl ((aZ a).drop (i+1))=V at va vb
        generalize (aZ a).getD i 0=p at va h ⊢
        generalize (aZ b).getD i 0=q at vb h ⊢
        generalize vl ((aZ a).take i)=s at va u1 w1
        generalize vl ((aZ b).take i)=t at vb u2 w2
        have pp:=pow_pos i
        generalize (100000000:Int) ^ i=P at *
        have hab:a-b=(s-t)+P*(p-q):=by rw [va,vb];grind
        rcases Int.lt_or_gt_of_ne h with h1 | h1
        · have:P*(p-q)≤-P:=by
            have:=Int.mul_le_mul_of_nonneg_left (show p-q≤-1 by omega) (Int.le_of_lt pp)
            omega
          exact ⟨by omega,by rw [decide_eq_true h1];exact(decide_eq_true (by omega)).symm⟩
        · have:P≤P*(p-q):=by
            have:=Int.mul_le_mul_of_nonneg_left (show 1≤p-q by omega) (Int.le_of_lt pp)
            omega
          exact ⟨by omega,by rw [decide_eq_false (by omega)];exact(decide_eq_false (by omega)).symm⟩
      have:=zqF a b i (by omega) (by omega) (by omega) (by omega) (by omega) (by omega) (by rw [hn'];exact h)
      rw [hn',key.2] at this
      exact .inr ⟨key.1,this⟩
def pLes (a b:Int):Prop:=(0≤a∧0≤b)∧Sz 1000000 a∧Sz 1000000 b
theorem zok {a b:Int} (ha:0≤a) (hb:0≤b) (h:dl a<dl b):a<b:=by
 rcases Int.lt_or_le a b with h1 | h1
 ·exact h1
 ·exfalso
  have h2:=zkh a.natAbs
  have h3:Sz (dl a) b:=by
   unfold Sz
   have:b.natAbs≤a.natAbs:=by omega
   exact Nat.lt_of_le_of_lt this h2
  have:=zh4 h3
  omega
theorem rless_fc (a b:Int) (h:pLes a b):FC Tryz.prog 213 [.ni a,.ni b] (.lit (.bool (decide (a<b)))):=by
 obtain ⟨⟨ha,hb⟩,sa,sb⟩:=h
 have la:=fZ a
 have lb:=fZ b
 have da:=zh4 sa
 by_cases hl:dl a=dl b
 ·have e:((aZ a).length:Int)-1=((dl a:Nat):Int)-1:=by rw [la]
  rcases rl_loop a b ha hb hl da (dl a) (Nat.le_refl _) (by rw [List.drop_of_length_le (by omega),List.drop_of_length_le (by omega)]) with ⟨h1,h2⟩ | ⟨h1,h2⟩
  ·rw [← e] at h2
   have:=rle_2 a b _ (by omega) (by omega) h2
   refine this.res fun E v hv=>?_
   cases hv
   rw [decide_eq_false (by omega)];exact .lit _
  ·rw [← e] at h2
   exact rle_1 a b _ (by omega) (by omega) h2
 ·have:=rle_0 a b (by omega)
  refine this.res fun E v hv=>?_
  have e:decide (((aZ a).length:Int)<((aZ b).length:Int))=decide (a<b):=by
   rw [la,lb]
   rcases Nat.lt_or_gt_of_ne hl with h1 | h1
   ·rw [decide_eq_true (by omega),decide_eq_true (zok ha hb h1)]
   ·have:=zok hb ha h1
    rw [decide_eq_false (by omega),decide_eq_false (by omega)]
  rw [← e];exact hv
def zmT (X Y:List Int) (n:Nat):List Int:=(List.range n).map fun k=>X.getD k 0+Y.getD k 0
theorem sums_succ (X Y:List Int) (n:Nat):zmT X Y (n+1)=zmT X Y n++[X.getD n 0+Y.getD n 0]:=by
 simp [zmT,List.range_succ]
theorem zi5 (X Y:List Int) (n:Nat):(zmT X Y n).length=n:=by simp [zmT]
theorem zhK:∀(n:Nat) (X:List Int),X.length≤n→vl ((List.range n).map fun k=>X.getD k 0)=vl X
 | 0,X,h=>by
  have:X=[]:=List.eq_nil_of_length_eq_zero (by omega)
  subst this;rfl
 | n+1,[],_=>by
  rw [List.range_succ_eq_map]
  have:=zhK n [] (by simp)
  simp only [List.map_cons,List.map_map,vl]
  have e:((fun k=>([]:List Int).getD k 0) ∘ Nat.succ)=fun k=>([]:List Int).getD k 0:=by funext k;simp
  rw [e,this];rfl
 | n+1,x :: X,h=>by
  rw [List.range_succ_eq_map]
  have:=zhK n X (by simpa using h)
  simp only [List.map_cons,List.map_map,vl,List.getD_cons_zero]
  have e:((fun k=>(x :: X).getD k 0) ∘ Nat.succ)=fun k=>X.getD k 0:=by funext k;simp
  rw [e,this]
theorem vl_sums (X Y:List Int) (n:Nat) (hx:X.length≤n) (hy:Y.length≤n):vl (zmT X Y n)=vl X+vl Y:=by
 rw [← zhK n X hx,← zhK n Y hy]
 unfold zmT
 generalize List.range n=l
 induction l with
 | nil=>rfl
 | cons k l ih=>simp only [List.map_cons,vl,ih,Int.mul_add];omega
theorem ra_loop (a b:Int) (ha:dl a≤500000) (hb:dl b≤500000):∀(m i:Nat),i+m=max (dl a) (dl b) →
 zbn (zbd a b i i (zmT (aZ a) (aZ b) i)) (.exit 0,zfE a b (max (dl a) (dl b)) (max (dl a) (dl b):Nat) (zmT (aZ a) (aZ b) (max (dl a) (dl b))))
 | 0,i,hi=>by
  have:i=max (dl a) (dl b):=by omega
  subst this
  have la:=fZ a
  have lb:=fZ b
  exact zqe a b _ _ _ (by omega) (by omega)
 | m + 1,i,hi=>by
  have la:=fZ a
  have lb:=fZ b
  have ih:=ra_loop a b ha hb m (i+1) (by omega)
  have hn:Int.toNat (i:Int)=i:=by omega
  have ga:=IZ a i
  have gb:=IZ b i
  have hs:=zi5 (aZ a) (aZ b) i
  have e0:=sums_succ (aZ a) (aZ b) i
  have tk:∀d,List.take i (zmT (aZ a) (aZ b) i)++List.take 1 [d]=zmT (aZ a) (aZ b) i++[d]:=fun d=>by
   have:=zgN (zmT (aZ a) (aZ b) i) d
   rwa [hs] at this
  have hc:((i+1:Nat):Int)=(i:Int)+1:=by omega
  rw [e0,hc] at ih
  by_cases h1:i<dl a
  ·by_cases h2:i<dl b
   ·refine zqb a b i i _ (by omega) (by omega) (by omega) (by omega) (by omega) (by rw [hn];omega) (by omega) (by omega) (by omega) (by omega) ?_
    rw [hn,tk];exact ih
   ·refine zqc a b i i _ (by omega) (by omega) (by omega) (by omega) (by omega) (by omega) (by omega) (by omega) ?_
    have:(aZ b).getD i 0=0:=by simp [List.getD,List.getElem?_eq_none (show(aZ b).length≤i by omega)]
    rw [this,Int.add_zero] at ih
    rw [hn,tk];exact ih
  ·refine zqd a b i i _ (by omega) (by omega) (by omega) (by omega) (by rw [hn];omega) (by omega) (by omega) (by omega) (by omega) ?_
   have:(aZ a).getD i 0=0:=by simp [List.getD,List.getElem?_eq_none (show(aZ a).length≤i by omega)]
   rw [this] at ih
   rw [hn,tk];exact ih
def pQ (N:Nat) (x:List Int):Prop:=x.length≤N∧∀d∈x,cZ d
theorem pQ.mono {M N:Nat} {x:List Int} (h:pQ M x) (hn:M≤N):pQ N x:=⟨Nat.le_trans h.1 hn,h.2⟩
theorem pQ.sz {N:Nat} {x:List Int} (h:pQ N x):Sz (N+3) (vl x):=(vl_sz h.2).mono (by have:=h.1;omega)
theorem hZ {k N:Nat} {z:Int} (h:Sz k z) (hk:k≤N):pQ N (aZ z):=
 ⟨by rw [fZ];exact Nat.le_trans (zh4 h) hk,fun d hd=>by have:=zea z d hd;unfold cZ;omega⟩
def pAd (x y:List Int):Prop:=pQ 400000 x∧pQ 400000 y
theorem rAdd_fc (x y:List Int) (h:pAd x y):FC Tryz.prog 93 [.sq x,.sq y] (.ni (vl x+vl y)):=by
 obtain ⟨hx,hy⟩:=h
 have px:pNm x:=hx.mono (by decide)
 have py:pNm y:=hy.mono (by decide)
 have da:=zh4 hx.sz
 have db:=zh4 hy.sz
 have la:=fZ (vl x)
 have lb:=fZ (vl y)
 by_cases h0:max (dl (vl x)) (dl (vl y))=0
 ·have zx:vl x=0:=dl_zero.1 (by omega)
  have zy:vl y=0:=dl_zero.1 (by omega)
  have:=rad_0 x y px py (zqa _ _ (by omega) (by omega)) ⟨by simp,fun d hd=>by cases hd⟩
  rw [zx,zy];exact this
 ·have hl:=ra_loop (vl x) (vl y) (by omega) (by omega) (max (dl (vl x)) (dl (vl y))-1) 1 (by omega)
  have ga:=IZ (vl x) 0
  have gb:=IZ (vl y) 0
  have e1:zmT (aZ (vl x)) (aZ (vl y)) 1=[(aZ (vl x)).getD 0 0+(aZ (vl y)).getD 0 0]:=by simp [zmT]
  have hL:zbn (zdH (vl x) (vl y)) (.exit 0,zfE (vl x) (vl y) (max (dl (vl x)) (dl (vl y))) (max (dl (vl x)) (dl (vl y)):Nat) (zmT (aZ (vl x)) (aZ (vl y)) (max (dl (vl x)) (dl (vl y))))):=by
   rw [e1] at hl
   by_cases h1:0<dl (vl x)
   ·by_cases h2:0<dl (vl y)
    ·exact zp7 _ _ (by omega) (by omega) (by omega) (by omega) (by omega) hl
    ·have:(aZ (vl y)).getD 0 0=0:=by simp [List.getD,List.getElem?_eq_none (show(aZ (vl y)).length≤0 by omega)]
     rw [this,Int.add_zero] at hl
     exact zp8 _ _ (by omega) (by omega) (by omega) hl
   ·have:(aZ (vl x)).getD 0 0=0:=by simp [List.getD,List.getElem?_eq_none (show(aZ (vl x)).length≤0 by omega)]
    rw [this] at hl
    exact zp9 _ _ (by omega) (by omega) (by omega) (by omega) hl
  have hs:=zi5 (aZ (vl x)) (aZ (vl y)) (max (dl (vl x)) (dl (vl y)))
  have htk:List.take (max (dl (vl x)) (dl (vl y))) (zmT (aZ (vl x)) (aZ (vl y)) (max (dl (vl x)) (dl (vl y))))=zmT (aZ (vl x)) (aZ (vl y)) (max (dl (vl x)) (dl (vl y))):=List.take_of_length_le (by omega)
  have:=rad_1 x y _ _ _ px py hL (by omega) (by
   rw [htk]
   refine ⟨by omega,fun d hd=>?_⟩
   obtain ⟨k,_,rfl⟩:=List.mem_map.1 hd
   have:=IZ (vl x) k
   have:=IZ (vl y) k
   unfold cZ;omega)
  rw [htk,vl_sums _ _ _ (by omega) (by omega),bZ,bZ] at this
  exact this
theorem Le.sqNi {x:List Int} (h:x=aZ (vl x)):Le (.sq x) (.ni (vl x)):=fun E v hv=>hv.toNi rfl h
def zp2 (x y:List Int):Prop:=(x=aZ (vl x)∧y=aZ (vl y))∧pLes (vl x) (vl y)
instance tLesL {x y:List Int}:Tst (zp2 x y):=⟨false,fun h=>by cases h⟩
theorem rlessL_fc (x y:List Int) (h:zp2 x y):FC Tryz.prog 213 [.sq x,.sq y] (.lit (.bool (decide (vl x<vl y)))):=
 (rless_fc _ _ h.2).le (.cons (Le.sqNi h.1.1) (.cons (Le.sqNi h.1.2) .nil)) (Le.refl _)
def ctrF4:Ctr:=(161,n1 pNg (fun z=>.lit (.bool (decide (z<0))))) :: (213,cLL zp2 (fun x y=>.lit (.bool (decide (vl x<vl y))))) :: (93,cLL pAd (fun x y=>.ni (vl x+vl y))) :: ctrF3
theorem zlw:∀p∈ctrF4,kZ Tryz.prog p.1 p.2:=CAll.cons (n1_ok zmr)<|CAll.cons (zck rlessL_fc)<|CAll.cons (zck rAdd_fc) zlv
theorem zjo:(dZ Tryz.prog ctrF4 bw).OK:=TZ zlw
noncomputable section
theorem rsz_0 (z:Int) (h1:pNg z) (h2:pSg (aZ z)):FC Tryz.prog 180 [.ni z] (.sq (zmM (decide (z<0)) (aZ z))):=eZ zjo 60 [] (.c h1<|.c h2<|.e) [1,2]
theorem rng_0 (x:List Int) (h1:pNm x) (h2:pSg (aZ (vl x))):FC Tryz.prog 138 [.sq x] (.sq (zmM true (aZ (vl x)))):=eZ zjo 60 [] (.c h1<|.c h2<|.e) [1,2]
theorem rsg_0 (x:List Int) (h1:pNm x) (h2:(↑((aZ (vl x)).length):Int)=0):FC Tryz.prog 121 [.sq x] (aI 0):=eZ zjo 60 [1] (.c h1<|.c (beq_iff_eq.2 h2)<|.e) [1,2]
theorem rsg_1 (x:List Int) (h1:pNm x) (h2:(↑((aZ (vl x)).length):Int)≠0) (h3:pNg (vl x)) (h4:vl x<0):FC Tryz.prog 121 [.sq x] (aI (-1)):=eZ zjo 60 [0,1] (.c h1<|.c (beq_false_of_ne h2)<|.c h3<|.t h4<|.e) [1,2,3,4]
theorem rsg_2 (x:List Int) (h1:pNm x) (h2:(↑((aZ (vl x)).length):Int)≠0) (h3:pNg (vl x)) (h4:¬(vl x<0)):FC Tryz.prog 121 [.sq x] (aI 1):=eZ zjo 60 [0,0] (.c h1<|.c (beq_false_of_ne h2)<|.c h3<|.f h4<|.e) [1,2,3,4]
abbrev zcP (s:St) (r:Ex × St):Prop:=Loops 0 Tryz.prog (lZ Tryz.prog 94 0) s r
abbrev zeG (a b:Int):St:=⟨sp 44 [(0,.ni a),(1,.ni b),(5,aN),(6,aI 0)],[],[]⟩
abbrev zcQ (a b c d:Int):St:=⟨sp 44 [(0,.ni a),(1,.ni b),(5,.ni c),(6,aI d)],[],[]⟩
abbrev zmA (a b:Int):St:=⟨sp 44 [(0,.ni a),(1,.ni b),(5,aN),(6,aI 0)],[],[]⟩
abbrev zf1 (a b c d:Int):St:=⟨sp 44 [(0,.ni a),(1,.ni b),(5,.ni c),(6,aI d)],[],[]⟩
abbrev zfW (s:St) (r:Ex × St):Prop:=Loops 1 Tryz.prog (lZ Tryz.prog 94 1) s r
abbrev zhv (a b:Int):St:=⟨sp 44 [(0,.ni a),(1,.ni b),(5,aN),(6,aI 0),(7,.own 0 0 0 1),(8,aI 0)],[.ints [] true],[0]⟩
abbrev zfX (a b:Int) (c:Nat) (d:Int) (e:List Int):St:=⟨sp 44 [(0,.ni a),(1,.ni b),(5,aN),(6,aI 0),(7,.own 1 0 c 1),(8,aI d)],[.dead,.ints e true],[0]⟩
abbrev zmy (a b:Int):St:=⟨sp 44 [(0,.ni a),(1,.ni b),(5,aN),(6,aI 0),(7,.own 0 0 0 1),(8,aI 0)],[.ints [] true],[0]⟩
abbrev ziT (a b:Int) (c:Nat) (d:Int) (e:List Int):St:=⟨sp 44 [(0,.ni a),(1,.ni b),(5,aN),(6,aI 0),(7,.own 1 0 c 1),(8,aI d)],[.dead,.ints e true],[0]⟩
theorem zqO (a b:Int) (h1:0<(↑((aZ b).length):Int)) (h2:0<(↑((aZ a).length):Int)) (h3:0<(aZ a).length) (h4:0<(aZ b).length) (h5:r64 ((aZ a).getD 0 0*(aZ b).getD 0 0)) {r:Ex × St} (k:zfW (zfX a b (1) (1) ([(aZ a).getD 0 0*(aZ b).getD 0 0])) r):zfW (zhv a b) r:=Loops.go (LS.at zjo 60 [2] [0,1,5,6,7,8] [0] [1] (.t h1<|.t h2<|.t h3<|.t h4<|.i h5<|.e) [1,0,2,3,0,1,4,5,0,0,0,0,0]) k
theorem zqP (a b:Int) (h1:¬(0<(↑((aZ b).length):Int))):zfW (zhv a b) (Ex.exit 2,(zmy a b)):=Loops.fin (LS.at zjo 60 [] [0,1,5,6,7,8] [0] [0] (.f h1<|.e) [1]) (fun h=>nomatch h)
theorem zqQ (a b:Int) (c:Nat) (d:Int) (f:List Int) (h1:d<(↑((aZ b).length):Int)) (h2:0<(↑((aZ a).length):Int)) (h3:0<(aZ a).length) (h4:0≤d) (h5:d.toNat<(aZ b).length) (h6:r64 ((aZ a).getD 0 0*(aZ b).getD d.toNat 0)) (h7:(c+1)*8≤140737488355328) (h8:c+1≤4611686018427387904) (h9:c≤f.length) (h10:r64 (d+1)) {r:Ex × St} (k:zfW (zfX a b (c+1) (d+1) (f.take c++List.take 1 [(aZ a).getD 0 0*(aZ b).getD d.toNat 0])) r):zfW (zfX a b c d f) r:=Loops.go (LS.at zjo 60 [3] [0,1,5,6,7,8] [0] [1] (.t h1<|.t h2<|.t h3<|.t h4<|.t h5<|.i h6<|.t h7<|.t h8<|.t h9<|.i h10<|.e) [1,0,2,3,4,1,5,6,7,8,9,0,10]) k
theorem zqR (a b:Int) (c:Nat) (d:Int) (g:List Int) (h1:¬(d<(↑((aZ b).length):Int))):zfW (zfX a b c d g) (Ex.exit 2,(ziT a b c d g)):=Loops.fin (LS.at zjo 60 [1] [0,1,5,6,7,8] [0] [0] (.f h1<|.e) [1]) (fun h=>nomatch h)
theorem zqW (a b:Int) (h1:0<(↑((aZ a).length):Int)) (hL1:zfW (zhv a b) (Ex.exit 2,(zmy a b))) (h3:0≤0) (h4:pAd [] (List.take 0 [])) {r:Ex × St} (k:zcP (zcQ a b (0) (1)) r):zcP (zeG a b) r:=Loops.go (LS.at zjo 60 [] [0,1,5,6] [] [1] (.t h1<|.v [0,1,5,6,7,8] [0] hL1<|.c h3<|.c h4<|.e) [1,0,0,0,0,0,2,3,4,0]) k
theorem zqX (a b:Int) (d:Nat) (f:Int) (g:List Int) (h1:0<(↑((aZ a).length):Int)) (hL1:zfW (zhv a b) (Ex.exit 2,(ziT a b d f g))) (h3:d≤g.length) (h4:pAd [] (g.take d)) {r:Ex × St} (k:zcP (zcQ a b (0+vl (g.take d)) (1)) r):zcP (zeG a b) r:=Loops.go (LS.at zjo 60 [] [0,1,5,6] [] [1] (.t h1<|.v [0,1,5,6,7,8] [0] hL1<|.c h3<|.c h4<|.e) [1,0,0,0,0,0,2,3,4,0]) k
theorem zqY (a b:Int) (h1:¬(0<(↑((aZ a).length):Int))):zcP (zeG a b) (Ex.exit 0,(zmA a b)):=Loops.fin (LS.at zjo 60 [] [0,1,5,6] [] [0] (.f h1<|.e) [1]) (fun h=>nomatch h)
abbrev zeX (s:St) (r:Ex × St):Prop:=Loops 1 Tryz.prog (lZ Tryz.prog 94 1) s r
abbrev zfY (a b c d:Int) (e:Nat) (f:List Int):St:=⟨sp 44 [(0,.ni a),(1,.ni b),(5,.ni c),(6,aI d),(7,.own 0 0 e 1),(8,aI 0)],[.ints f true],[0]⟩
abbrev zfZ (a b c d:Int) (e:Nat) (f:List Int) (g:Nat) (i:Int) (j:List Int):St:=⟨sp 44 [(0,.ni a),(1,.ni b),(5,.ni c),(6,aI d),(7,.own 1 0 g 1),(8,aI i)],[.dead,.ints j true],[0]⟩
abbrev zmz (a b c d:Int) (e:Nat) (f:List Int):St:=⟨sp 44 [(0,.ni a),(1,.ni b),(5,.ni c),(6,aI d),(7,.own 0 0 e 1),(8,aI 0)],[.ints f true],[0]⟩
abbrev zf0 (a b c d:Int) (e:Nat) (f:List Int) (g:Nat) (i:Int) (j:List Int):St:=⟨sp 44 [(0,.ni a),(1,.ni b),(5,.ni c),(6,aI d),(7,.own 1 0 g 1),(8,aI i)],[.dead,.ints j true],[0]⟩
theorem zqS (a b c d:Int) (f:Nat) (g:List Int) (h1:0<(↑((aZ b).length):Int)) (h2:0≤d) (h3:d<(↑((aZ a).length):Int)) (h4:d.toNat<(aZ a).length) (h5:0<(aZ b).length) (h6:r64 ((aZ a).getD d.toNat 0*(aZ b).getD 0 0)) (h7:(f+1)*8≤140737488355328) (h8:f+1≤4611686018427387904) (h9:f≤g.length) {r:Ex × St} (k:zeX (zfZ a b c d f g (f+1) (1) (g.take f++List.take 1 [(aZ a).getD d.toNat 0*(aZ b).getD 0 0])) r):zeX (zfY a b c d f g) r:=Loops.go (LS.at zjo 60 [2] [0,1,5,6,7,8] [0] [1] (.t h1<|.t h2<|.t h3<|.t h4<|.t h5<|.i h6<|.t h7<|.t h8<|.t h9<|.e) [1,2,3,4,0,1,5,6,7,8,9,0,0]) k
theorem zqT (a b c d:Int) (g:Nat) (i:List Int) (h1:¬(0<(↑((aZ b).length):Int))):zeX (zfY a b c d g i) (Ex.exit 2,(zmz a b c d g i)):=Loops.fin (LS.at zjo 60 [] [0,1,5,6,7,8] [0] [0] (.f h1<|.e) [1]) (fun h=>nomatch h)
theorem zqU (a b c d:Int) (f:Nat) (g:List Int) (j:Nat) (l:Int) (m:List Int) (h1:l<(↑((aZ b).length):Int)) (h2:0≤d) (h3:d<(↑((aZ a).length):Int)) (h4:d.toNat<(aZ a).length) (h5:0≤l) (h6:l.toNat<(aZ b).length) (h7:r64 ((aZ a).getD d.toNat 0*(aZ b).getD l.toNat 0)) (h8:(j+1)*8≤140737488355328) (h9:j+1≤4611686018427387904) (h10:j≤m.length) (h11:r64 (l+1)) {r:Ex × St} (k:zeX (zfZ a b c d f g (j+1) (l+1) (m.take j++List.take 1 [(aZ a).getD d.toNat 0*(aZ b).getD l.toNat 0])) r):zeX (zfZ a b c d f g j l m) r:=Loops.go (LS.at zjo 60 [3] [0,1,5,6,7,8] [0] [1] (.t h1<|.t h2<|.t h3<|.t h4<|.t h5<|.t h6<|.i h7<|.t h8<|.t h9<|.t h10<|.i h11<|.e) [1,2,3,4,5,1,6,7,8,9,10,0,11]) k
theorem zqV (a b c d:Int) (g:Nat) (i:List Int) (j:Nat) (l:Int) (m:List Int) (h1:¬(l<(↑((aZ b).length):Int))):zeX (zfZ a b c d g i j l m) (Ex.exit 2,(zf0 a b c d g i j l m)):=Loops.fin (LS.at zjo 60 [1] [0,1,5,6,7,8] [0] [0] (.f h1<|.e) [1]) (fun h=>nomatch h)
theorem zqZ (a b d f:Int) (h1:f<(↑((aZ a).length):Int)) (h2:0≤f) (h3:f≤f) (h4:8*f≤281474976710656) (h5:f≤9223372036854775807) (hL1:zeX (zfY a b d f f.toNat (zaO f.toNat)) (Ex.exit 2,(zmz a b d f f.toNat (zaO f.toNat)))) (h7:f.toNat≤(zaO f.toNat).length) (h8:pAd (aZ d) ((zaO f.toNat).take f.toNat)) (h9:r64 (f+1)) {r:Ex × St} (k:zcP (zcQ a b (vl (aZ d)+vl ((zaO f.toNat).take f.toNat)) (f+1)) r):zcP (zcQ a b d f) r:=Loops.go (LS.at zjo 60 [] [0,1,5,6] [] [1] (.t h1<|.t h2<|.t h3<|.t h4<|.t h5<|.v [0,1,5,6,7,8] [0] hL1<|.c h7<|.c h8<|.i h9<|.e) [1,2,3,4,5,0,6,7,8,9]) k
theorem zq0 (a b d f:Int) (g:Nat) (j:Int) (l:List Int) (h1:f<(↑((aZ a).length):Int)) (h2:0≤f) (h3:f≤f) (h4:8*f≤281474976710656) (h5:f≤9223372036854775807) (hL1:zeX (zfY a b d f f.toNat (zaO f.toNat)) (Ex.exit 2,(zf0 a b d f f.toNat (zaO f.toNat) g j l))) (h7:g≤l.length) (h8:pAd (aZ d) (l.take g)) (h9:r64 (f+1)) {r:Ex × St} (k:zcP (zcQ a b (vl (aZ d)+vl (l.take g)) (f+1)) r):zcP (zcQ a b d f) r:=Loops.go (LS.at zjo 60 [] [0,1,5,6] [] [1] (.t h1<|.t h2<|.t h3<|.t h4<|.t h5<|.v [0,1,5,6,7,8] [0] hL1<|.c h7<|.c h8<|.i h9<|.e) [1,2,3,4,5,0,6,7,8,9]) k
theorem zq1 (a b c d:Int) (h1:¬(d<(↑((aZ a).length):Int))):zcP (zcQ a b c d) (Ex.exit 0,(zf1 a b c d)):=Loops.fin (LS.at zjo 60 [] [0,1,5,6] [] [0] (.f h1<|.e) [1]) (fun h=>nomatch h)
theorem rml_0 (x y:List Int) (h1:pNm x) (h2:pNm y) (hL1:zcP (zeG (vl x) (vl y)) (Ex.exit 0,(zmA (vl x) (vl y)))) (h4:pNm []):FC Tryz.prog 94 [.sq x,.sq y] (.ni 0):=eZ zjo 60 [] (.c h1<|.c h2<|.v [0,1,5,6] [] hL1<|.c h4<|.e) [1,2,0,3,4]
theorem rml_1 (x y:List Int) (a b:Int) (h1:pNm x) (h2:pNm y) (hL1:zcP (zeG (vl x) (vl y)) (Ex.exit 0,(zf1 (vl x) (vl y) a b))) (h4:pNm (aZ a)):FC Tryz.prog 94 [.sq x,.sq y] (.ni (vl (aZ a))):=eZ zjo 60 [] (.c h1<|.c h2<|.v [0,1,5,6] [] hL1<|.c h4<|.e) [1,2,0,3,4]
end
theorem znQ (l:List Int):trm (l.map fun d=>-d)=(trm l).map fun d=>-d:=by
 induction l with
 | nil=>rfl
 | cons d l ih=>
  simp only [List.map_cons,trm,ih,List.map_eq_nil_iff]
  by_cases h:trm l=[]∧d=0
  ·rw [if_pos h,if_pos ⟨h.1,by omega⟩];rfl
  ·rw [if_neg h,if_neg (fun hh=>h ⟨hh.1,by omega⟩)];rfl
theorem zmW (z:Int):trm (aZ z)=aZ z:=by
 unfold aZ
 split
 ·rw [znQ,zdP]
 ·exact zdP _
theorem nform_neg (z:Int):(aZ z).map (fun d=>-d)=aZ (-z):=by
 unfold aZ
 by_cases h:z<0
 ·rw [if_pos h,if_neg (by omega),Int.natAbs_neg]
  generalize digs z.natAbs=l
  induction l with
  | nil=>rfl
  | cons d l ih=>simp only [List.map_cons,Int.neg_neg,ih]
 ·by_cases h0:z=0
  ·subst h0;simp [YZ]
  ·rw [if_neg h,if_pos (by omega),Int.natAbs_neg]
theorem zmN (z:Int):zmM true (aZ z)=aZ (-z):=by unfold zmM;simp only [zmW,nform_neg]
theorem zrL (z:Int):zmM false (aZ z)=aZ z:=by unfold zmM;simp only [zmW]
theorem zmm {z:Int} (h:Sz 1000000 z):pSg (aZ z):=⟨by rw [fZ];have:=zh4 h;omega,fun d hd=>by have:=zea z d hd;omega⟩
theorem FC.sqNi {P:Program} {f:FuncId} {args:List AV} {l:List Int} {z:Int} (h:FC P f args (.sq l)) (e:l=aZ z):FC P f args (.ni z):=h.res fun E v hr=>hr.toNi rfl e
theorem rsize_fc (z:Int) (h:pNg z):FC Tryz.prog 180 [.ni z] (.ni (z.natAbs:Int)):=by
 refine FC.sqNi (rsz_0 z h (zmm h)) ?_
 by_cases hz:z<0
 ·rw [decide_eq_true hz,zmN];congr 1;omega
 ·rw [decide_eq_false hz,zrL];congr 1;omega
def pX (x:List Int):Prop:=pQ 400000 x
theorem pX.nm {x:List Int} (h:pX x):pNm x:=pQ.mono h (by decide)
theorem pX.s {x:List Int} (h:pX x):Sz 1000000 (vl x):=(pQ.sz h).mono (by decide)
theorem rNeg_fc (x:List Int) (h:pX x):FC Tryz.prog 138 [.sq x] (.ni (-vl x)):=
 FC.sqNi (rng_0 x h.nm (zmm h.s)) (zmN _)
theorem rSign_fc (x:List Int) (h:pX x):FC Tryz.prog 121 [.sq x] (.lit (.int .i64 (vl x).sign)):=by
 have hl:=fZ (vl x)
 by_cases h0:vl x=0
 ·rw [h0];exact rsg_0 x h.nm (by rw [hl,h0];rfl)
 ·have hd:dl (vl x)≠0:=fun h=>h0 (dl_zero.1 h)
  by_cases h1:vl x<0
  ·rw [Int.sign_eq_neg_one_of_neg h1];exact rsg_1 x h.nm (by omega) h.s h1
  ·rw [Int.sign_eq_one_of_pos (by omega)];exact rsg_2 x h.nm (by omega) h.s h1
def zf6 (i:Nat) (d:Int) (Y:List Int) (j:Nat):List Int:=List.replicate i 0++(Y.take j).map fun e=>d*e
theorem zf7 {i:Nat} {d:Int} {Y:List Int} {j:Nat} (h:j<Y.length):zf6 i d Y (j+1)=zf6 i d Y j++[d*Y.getD j 0]:=by
 unfold zf6
 rw [List.take_succ_eq_append_getElem h,List.map_append,← List.append_assoc]
 simp [List.getD,h]
theorem zcu {i:Nat} {d:Int} {Y:List Int} {j:Nat} (h:j≤Y.length):(zf6 i d Y j).length=i+j:=by
 unfold zf6;simp;omega
theorem vl_rep (i:Nat):vl (List.replicate i (0:Int))=0:=by
 induction i with
 | zero=>rfl
 | succ i ih=>simp only [List.replicate_succ,vl,ih];rfl
theorem vl_scale (d:Int) (Y:List Int):vl (Y.map fun e=>d*e)=d*vl Y:=by
 induction Y with
 | nil=>simp [vl]
 | cons y Y ih=>simp only [List.map_cons,vl,ih];grind
theorem vl_rowM (i:Nat) (d:Int) (Y:List Int):vl (zf6 i d Y Y.length)=100000000 ^ i*(d*vl Y):=by
 unfold zf6
 rw [zbj,vl_rep,List.length_replicate,List.take_length,vl_scale];omega
theorem zit {p q:Int} (hp:-100000000<p∧p<100000000) (hq:-100000000<q∧q<100000000):-10000000000000000≤p*q∧p*q≤10000000000000000:=by
 have h:(p*q).natAbs≤100000000*100000000:=by rw [Int.natAbs_mul];exact Nat.mul_le_mul (by omega) (by omega)
 omega
theorem rm_in (a b c:Int) (i:Nat) (n7:Nat) (lr0:List Int) (hi:i<dl a) (ha:dl a≤200000) (hb:dl b≤200000):∀(m j:Nat),j+m=dl b →
 zeX (zfZ a b c i n7 lr0 (i+j) j (zf6 i ((aZ a).getD i 0) (aZ b) j)) (.exit 2,zf0 a b c i n7 lr0 (i+dl b) (dl b:Nat) (zf6 i ((aZ a).getD i 0) (aZ b) (dl b)))
 | 0,j,hj=>by
  have:j=dl b:=by omega
  subst this
  have lb:=fZ b
  exact zqV a b c i n7 lr0 _ _ _ (by omega)
 | m+1,j,hj=>by
  have la:=fZ a
  have lb:=fZ b
  have ih:=rm_in a b c i n7 lr0 hi ha hb m (j+1) (by omega)
  have h1:Int.toNat (i:Int)=i:=by omega
  have h2:Int.toNat (j:Int)=j:=by omega
  have hm:=zit (IZ a i) (IZ b j)
  have hl:=zcu (i:=i) (d:=(aZ a).getD i 0) (Y:=aZ b) (j:=j) (by omega)
  have hc:((j+1:Nat):Int)=(j:Int)+1:=by omega
  rw [zf7 (by omega),hc,← Nat.add_assoc] at ih
  refine zqU a b c i n7 lr0 (i+j) j _ (by omega) (by omega) (by omega) (by omega) (by omega) (by omega) (by rw [h1,h2];omega) (by omega) (by omega) (by omega) (by omega) ?_
  rw [h1,h2]
  have:=zgN (zf6 i ((aZ a).getD i 0) (aZ b) j) ((aZ a).getD i 0*(aZ b).getD j 0)
  rw [hl] at this
  rw [this];exact ih
theorem rm_in0 (a b:Int) (h0:0<dl a) (ha:dl a≤200000) (hb:dl b≤200000):∀(m j:Nat),j+m=dl b →
 zfW (zfX a b j j (zf6 0 ((aZ a).getD 0 0) (aZ b) j)) (.exit 2,ziT a b (dl b) (dl b:Nat) (zf6 0 ((aZ a).getD 0 0) (aZ b) (dl b)))
 | 0,j,hj=>by
  have:j=dl b:=by omega
  subst this
  have lb:=fZ b
  exact zqR a b _ _ _ (by omega)
 | m+1,j,hj=>by
  have la:=fZ a
  have lb:=fZ b
  have ih:=rm_in0 a b h0 ha hb m (j+1) (by omega)
  have h2:Int.toNat (j:Int)=j:=by omega
  have hm:=zit (IZ a 0) (IZ b j)
  have hl:=zcu (i:=0) (d:=(aZ a).getD 0 0) (Y:=aZ b) (j:=j) (by omega)
  have hc:((j+1:Nat):Int)=(j:Int)+1:=by omega
  rw [zf7 (by omega),hc] at ih
  refine zqQ a b j j _ (by omega) (by omega) (by omega) (by omega) (by omega) (by rw [h2];omega) (by omega) (by omega) (by omega) (by omega) ?_
  rw [h2]
  have:=zgN (zf6 0 ((aZ a).getD 0 0) (aZ b) j) ((aZ a).getD 0 0*(aZ b).getD j 0)
  rw [hl,Nat.zero_add] at this
  rw [this];exact ih
theorem take_sz (a:Int) (i:Nat):Sz i (vl ((aZ a).take i)):=by
 have key:∀l:List Int,Digs l→(vl (l.take i)).natAbs<100000000 ^ i:=by
  intro l hl
  have t:Digs (l.take i):=fun d h=>hl d (List.mem_of_mem_take h)
  have h1:=zgP t
  have h2:=RZ t
  have h3:(100000000:Nat) ^ (l.take i).length≤100000000 ^ i:=Nat.pow_le_pow_right (by decide) (by simp;omega)
  have h4:((100000000 ^ (l.take i).length:Nat):Int)=(100000000:Int) ^ (l.take i).length:=Int.natCast_pow 100000000 _
  omega
 unfold Sz aZ
 split
 ·rw [← List.map_take,vl_neg,Int.natAbs_neg]
  exact key _ (qZ _)
 ·exact key _ (qZ _)
theorem row_pQ (i:Nat) (d:Int) (b:Int) (j:Nat) (hd:-100000000<d∧d<100000000) (hj:j≤dl b) (h:i+j≤400000):pQ 400000 (zf6 i d (aZ b) j):=by
 refine ⟨by rw [zcu (by rw [fZ];exact hj)];exact h,fun e he=>?_⟩
 unfold zf6 at he
 rcases List.mem_append.1 he with h1 | h1
 ·have:=List.eq_of_mem_replicate h1
  unfold cZ;omega
 ·obtain ⟨q,hq,rfl⟩:=List.mem_map.1 h1
  have:=zit hd (zea b q (List.mem_of_mem_take hq))
  unfold cZ;omega
theorem rm_out (a b:Int) (ha:dl a≤150000) (hb:dl b≤150000):∀(m i:Nat),i+m=dl a →
    zcP (zcQ a b (vl ((aZ a).take i)*b) i) (.exit 0,zf1 a b (a*b) (dl a:Nat))
  | 0,i,hi=>by
    have:i=dl a:=by omega
    subst this
    have la:=fZ a
    rw [List.take_of_length_le (by omega),bZ]
    exact zq1 a b _ _ (by omega)
  | m + 1,i,hi=>by
    have la:=fZ a
    have lb:=fZ b
    have ih:=rm_out a b ha hb m (i+1) (by omega)
    have h1:Int.toNat (i:Int)=i:=by omega
    have hlt:i<(aZ a).length:=by omega
    have hg:(aZ a)[i]=(aZ a).getD i 0:=by simp [List.getD,hlt]
    have hlen:((aZ a).take i).length=i:=by simp;omega
    have hsz:Sz 400000 (vl ((aZ a).take i)*b):=((take_sz a i).mul (show Sz (dl b) b from zkh b.natAbs)).mono (by omega)
    have hpq:pQ 400000 (aZ (vl ((aZ a).take i)*b)):=hZ hsz (Nat.le_refl _)
    have hc:((i+1:Nat):Int)=(i:Int)+1:=by omega
    rw [List.take_succ_eq_append_getElem hlt,hg,zcv,hlen,hc] at ih
    have hd:=IZ a i
    by_cases h0:dl b=0
    · have hb0:b=0:=dl_zero.1 h0
      have hrow:List.take i (List.replicate i (0:Int))=List.replicate i 0:=List.take_of_length_le (by simp)
      refine zqZ a b _ i (by omega) (by omega) (by omega) (by omega) (by omega) (zqT a b _ i _ _ (by omega)) (by simp) ?_ (by omega) ?_<;>rw [h1,hrow]
      · exact ⟨hpq,⟨by simp;omega,fun d hd=>by have:=List.eq_of_mem_replicate hd;unfold cZ;omega⟩⟩
      · rw [bZ,vl_rep,hb0]
        rw [hb0] at ih
        simpa using ih
    · have hL2:zeX (zfY a b (vl ((aZ a).take i)*b) i i (List.replicate i 0)) (.exit 2,zf0 a b (vl ((aZ a).take i)*b) i i (List.replicate i 0) (i+dl b) (dl b:Nat) (zf6 i ((aZ a).getD i 0) (aZ b) (dl b))):=by
        have hk:=rm_in a b (vl ((aZ a).take i)*b) i i (List.replicate i 0) (by omega) (by omega) (by omega) (dl b-1) 1 (by omega)
        rw [zf7 (by omega)] at hk
        have hm:=zit (IZ a i) (IZ b 0)
        have e0:zf6 i ((aZ a).getD i 0) (aZ b) 0=List.replicate i 0:=by simp [zf6]
        rw [e0] at hk
        refine zqS a b _ i i _ (by omega) (by omega) (by omega) (by omega) (by omega) (by rw [h1];omega) (by omega) (by omega) (by simp) ?_
        rw [h1]
        have:=zgN (List.replicate i (0:Int)) ((aZ a).getD i 0*(aZ b).getD 0 0)
        rw [List.length_replicate] at this
        rw [this];exact hk
      have hlr:(zf6 i ((aZ a).getD i 0) (aZ b) (dl b)).length=i+dl b:=zcu (by omega)
      have htk:List.take (i+dl b) (zf6 i ((aZ a).getD i 0) (aZ b) (dl b))=zf6 i ((aZ a).getD i 0) (aZ b) (dl b):=List.take_of_length_le (by omega)
      have hv:vl (zf6 i ((aZ a).getD i 0) (aZ b) (dl b))=100000000 ^ i*((aZ a).getD i 0*b):=by
        have:=vl_rowM i ((aZ a).getD i 0) (aZ b)
        rw [lb,bZ] at this;exact this
      refine zq0 a b _ i (i+dl b) (dl b:Nat) (zf6 i ((aZ a).getD i 0) (aZ b) (dl b)) (by omega) (by omega) (by omega) (by omega) (by omega) (by rw [h1];exact hL2) (by omega) ?_ (by omega) ?_
      · rw [htk];exact ⟨hpq,row_pQ _ _ _ _ hd (Nat.le_refl _) (by omega)⟩
      · rw [htk,bZ,hv]
        have e:vl ((aZ a).take i)*b+100000000 ^ i*((aZ a).getD i 0*b)=(vl ((aZ a).take i)+100000000 ^ i*(aZ a).getD i 0)*b:=by grind
        rw [e];exact ih
def pMu (x y:List Int):Prop:=pQ 100000 x∧pQ 100000 y
theorem rMul_fc (x y:List Int) (h:pMu x y):FC Tryz.prog 94 [.sq x,.sq y] (.ni (vl x*vl y)):=by
 obtain ⟨hx,hy⟩:=h
 have px:pNm x:=hx.mono (by decide)
 have py:pNm y:=hy.mono (by decide)
 have da:=zh4 hx.sz
 have db:=zh4 hy.sz
 have hz:=hx.sz.mul hy.sz
 have hpn:pNm (aZ (vl x*vl y)):=hZ hz (by decide)
 have fin:∀t,zcP (zeG (vl x) (vl y)) (.exit 0,zf1 (vl x) (vl y) (vl x*vl y) t)→FC Tryz.prog 94 [.sq x,.sq y] (.ni (vl x*vl y)):=fun t hL=>by
  have:=rml_1 x y (vl x*vl y) t px py hL hpn
  rwa [bZ] at this
 have lx:=fZ (vl x)
 have ly:=fZ (vl y)
 by_cases h0:dl (vl x)=0
 ·have hx0:vl x=0:=dl_zero.1 h0
  have:=rml_0 x y px py (zqY _ _ (by omega)) ⟨by simp,fun d hd=>by cases hd⟩
  rw [hx0,Int.zero_mul];exact this
 ·have hlt:0<(aZ (vl x)).length:=by omega
  have ho:=rm_out (vl x) (vl y) (by omega) (by omega) (dl (vl x)-1) 1 (by omega)
  have hg:(aZ (vl x))[0]=(aZ (vl x)).getD 0 0:=by simp [List.getD,hlt]
  have ht:vl ((aZ (vl x)).take 1)=(aZ (vl x)).getD 0 0:=by
   rw [List.take_succ_eq_append_getElem hlt,hg];simp [vl]
  rw [ht] at ho
  by_cases hb0:dl (vl y)=0
  ·have hy0:vl y=0:=dl_zero.1 hb0
   refine fin (dl (vl x):Nat) (zqW _ _ (by omega) (zqP _ _ (by omega)) (by omega) ⟨⟨by simp,fun d hd=>by cases hd⟩,⟨by simp,fun d hd=>by simp at hd⟩⟩ ?_)
   rw [hy0] at ho ⊢
   simpa using ho
  ·have hk:=rm_in0 (vl x) (vl y) (by omega) (by omega) (by omega) (dl (vl y)-1) 1 (by omega)
   have hm:=zit (IZ (vl x) 0) (IZ (vl y) 0)
   have e1:zf6 0 ((aZ (vl x)).getD 0 0) (aZ (vl y)) 1=[(aZ (vl x)).getD 0 0*(aZ (vl y)).getD 0 0]:=by rw [zf7 (by omega)];simp [zf6]
   rw [e1] at hk
   have hL0:=zqO (vl x) (vl y) (by omega) (by omega) (by omega) (by omega) (by omega) hk
   have hlr:(zf6 0 ((aZ (vl x)).getD 0 0) (aZ (vl y)) (dl (vl y))).length=dl (vl y):=by rw [zcu (by omega)];omega
   have htk:List.take (dl (vl y)) (zf6 0 ((aZ (vl x)).getD 0 0) (aZ (vl y)) (dl (vl y)))=zf6 0 ((aZ (vl x)).getD 0 0) (aZ (vl y)) (dl (vl y)):=List.take_of_length_le (by omega)
   have hv:vl (zf6 0 ((aZ (vl x)).getD 0 0) (aZ (vl y)) (dl (vl y)))=(aZ (vl x)).getD 0 0*vl y:=by
    have:=vl_rowM 0 ((aZ (vl x)).getD 0 0) (aZ (vl y))
    rw [ly,bZ] at this
    simpa using this
   refine fin (dl (vl x):Nat) (zqX _ _ (dl (vl y)) (dl (vl y):Nat) _ (by omega) hL0 (by omega) ?_ ?_)
   ·rw [htk];exact ⟨⟨by simp,fun d hd=>by cases hd⟩,row_pQ _ _ _ _ (IZ _ _) (Nat.le_refl _) (by omega)⟩
   ·rw [htk,hv]
    simpa using ho
def ctrF5:Ctr:=(180,n1 pNg (fun z=>.ni (z.natAbs:Int))) :: (138,cL pX (fun x=>.ni (-vl x))) :: (121,cL pX (fun x=>.lit (.int .i64 (vl x).sign))) :: (94,cLL pMu (fun x y=>.ni (vl x*vl y))) :: ctrF4
theorem zlx:∀p∈ctrF5,kZ Tryz.prog p.1 p.2:=CAll.cons (n1_ok rsize_fc)<|CAll.cons (zj6 rNeg_fc)<|CAll.cons (zj6 rSign_fc)<|CAll.cons (zck rMul_fc) zlw
theorem okF5:(dZ Tryz.prog ctrF5 bw).OK:=TZ zlx
noncomputable section
theorem rsb_0 (x y:List Int) (h1:pX y) (h2:pAd x (aZ (-vl y))):FC Tryz.prog 141 [.sq x,.sq y] (.ni (vl x+vl (aZ (-vl y)))):=eZ okF5 60 [] (.c h1<|.c h2<|.e) [1,2]
end
def pSu (x y:List Int):Prop:=pQ 390000 x∧pQ 390000 y
theorem rSub_fc (x y:List Int) (h:pSu x y):FC Tryz.prog 141 [.sq x,.sq y] (.ni (vl x-vl y)):=by
 have:=rsb_0 x y (h.2.mono (by decide)) ⟨h.1.mono (by decide),hZ h.2.sz.neg (by decide)⟩
 rw [bZ,← Int.sub_eq_add_neg] at this
 exact this
def ctrF6:Ctr:=(141,cLL pSu (fun x y=>.ni (vl x-vl y))) :: ctrF5
theorem zly:∀p∈ctrF6,kZ Tryz.prog p.1 p.2:=CAll.cons (zck rSub_fc) zlx
theorem okF6:(dZ Tryz.prog ctrF6 bw).OK:=TZ zly
noncomputable section
theorem rcm_0 (x y:List Int) (h1:pSu x y) (h2:pX (aZ (vl x-vl y))):FC Tryz.prog 160 [.sq x,.sq y] (aI (vl (aZ (vl x-vl y))).sign):=eZ okF6 60 [] (.c h1<|.c h2<|.e) [1,2]
abbrev zeV (s:St) (r:Ex × St):Prop:=Loops 1 Tryz.prog (lZ Tryz.prog 181 0) s r
abbrev zfL (a b:Int) (c:Nat) (d:Int) (e:List Int):St:=⟨sp 60 [(0,.ni a),(1,.ni b),(6,.own 0 0 c 1),(7,aN),(8,aI d)],[.ints e true],[0]⟩
abbrev zfM (a b:Int) (c:Nat) (d:Int) (e:List Int) (f g:Int) (i:List Int):St:=⟨sp 60 [(0,.ni a),(1,.ni b),(6,.own 0 0 c 1),(7,.ni f),(8,aI g)],[.ints i true],[0]⟩
abbrev zmv (a b:Int) (c:Nat) (d:Int) (e:List Int):St:=⟨sp 60 [(0,.ni a),(1,.ni b),(6,.own 0 0 c 1),(7,aN),(8,aI d)],[.ints e true],[0]⟩
abbrev zfN (a b:Int) (c:Nat) (d:Int) (e:List Int) (f g:Int) (i:List Int):St:=⟨sp 60 [(0,.ni a),(1,.ni b),(6,.own 0 0 c 1),(7,.ni f),(8,aI g)],[.ints i true],[0]⟩
abbrev zg4 (s:St) (r:Ex × St):Prop:=Loops 3 Tryz.prog (lZ Tryz.prog 181 1) s r
abbrev zcM (a b:Int) (c:Nat) (d:List Int) (e:Int) (f g:List Int) (i j:Int):St:=⟨sp 60 [(0,.ni a),(1,.ni b),(6,.own 0 0 c 1),(7,.sq d),(8,aI e),(9,aI i),(10,aI j)],[.ints f true,.dead,.ints g false],[2,1,0]⟩
abbrev zfK (a b:Int) (c:Nat) (d:List Int) (e:Int) (f g:List Int) (i j:Int):St:=⟨sp 60 [(0,.ni a),(1,.ni b),(6,.own 0 0 c 1),(7,.sq d),(8,aI e),(9,aI i),(10,aI j)],[.ints f true,.dead,.ints g false],[2,1,0]⟩
theorem zqw (a b:Int) (d:Nat) (f:List Int) (g:Int) (j l:List Int) (m n:Int) (h1:m<n) (h2:r64 (m+n)) (h3:r64 (m+n+1)) (h4:r64 (Int.tdiv (m+n+1) 2)) (h5:1≤List.length [Int.tdiv (m+n+1) 2]) (h6:pMu (aZ b) (List.take 1 [Int.tdiv (m+n+1) 2])) (h7:zp2 f (aZ (vl (aZ b)*vl (List.take 1 [Int.tdiv (m+n+1) 2])))) (h8:vl f<vl (aZ (vl (aZ b)*vl (List.take 1 [Int.tdiv (m+n+1) 2])))) (h9:r64 (Int.tdiv (m+n+1) 2-1)) {r:Ex × St} (k:zg4 (zcM a b d f g j l m (Int.tdiv (m+n+1) 2-1)) r):zg4 (zcM a b d f g j l m n) r:=Loops.go (LS.at okF6 60 [] [0,1,6,7,8,9,10] [2,1,0] [1,1] (.t h1<|.i h2<|.i h3<|.i h4<|.c h5<|.c h6<|.c h7<|.t h8<|.i h9<|.e) [1,2,3,0,4,5,6,7,8,9]) k
theorem zqx (a b:Int) (d:Nat) (g:List Int) (j:Int) (l m:List Int) (n o:Int) (h1:n<o) (h2:r64 (n+o)) (h3:r64 (n+o+1)) (h4:r64 (Int.tdiv (n+o+1) 2)) (h5:1≤List.length [Int.tdiv (n+o+1) 2]) (h6:pMu (aZ b) (List.take 1 [Int.tdiv (n+o+1) 2])) (h7:zp2 g (aZ (vl (aZ b)*vl (List.take 1 [Int.tdiv (n+o+1) 2])))) (h8:¬(vl g<vl (aZ (vl (aZ b)*vl (List.take 1 [Int.tdiv (n+o+1) 2]))))) {r:Ex × St} (k:zg4 (zcM a b d g j l m (Int.tdiv (n+o+1) 2) o) r):zg4 (zcM a b d g j l m n o) r:=Loops.go (LS.at okF6 60 [] [0,1,6,7,8,9,10] [2,1,0] [1,0] (.t h1<|.i h2<|.i h3<|.i h4<|.c h5<|.c h6<|.c h7<|.f h8<|.e) [1,2,3,0,4,5,6,7,8]) k
theorem zqy (a b:Int) (c:Nat) (d:List Int) (g:Int) (i j:List Int) (l m:Int) (h1:¬(l<m)):zg4 (zcM a b c d g i j l m) (Ex.exit 2,(zfK a b c d g i j l m)):=Loops.fin (LS.at okF6 60 [] [0,1,6,7,8,9,10] [2,1,0] [0] (.f h1<|.e) [1]) (fun h=>nomatch h)
theorem zqz (a b:Int) (d:Nat) (f:Int) (g:List Int) (j l:Int) (h1:f≥0) (h2:0≤f) (h3:f<(↑((aZ a).length):Int)) (h4:f.toNat<(aZ a).length) (h5:1≤List.length [(aZ a).getD f.toNat 0]) (h6:1≤(List.take 1 [(aZ a).getD f.toNat 0]++[]).length) (h7:pTr ((List.take 1 [(aZ a).getD f.toNat 0]++[]).take 1)) (hL1:zg4 (zcM a b d (trm ((List.take 1 [(aZ a).getD f.toNat 0]++[]).take 1)) f g ([(aZ a).getD f.toNat 0]) (0) (99999999)) (Ex.exit 2,(zfK a b d (trm ((List.take 1 [(aZ a).getD f.toNat 0]++[]).take 1)) f g ([(aZ a).getD f.toNat 0]) j l))) (h9:f<(d:Int)) (h10:0+f.toNat*1<g.length) (h11:1≤List.length [j]) (h12:pMu (aZ b) (List.take 1 [j])) (h13:pSu (trm ((List.take 1 [(aZ a).getD f.toNat 0]++[]).take 1)) (aZ (vl (aZ b)*vl (List.take 1 [j])))) (h14:r64 (f-1)) {r:Ex × St} (k:zeV (zfM a b d f g (vl (trm ((List.take 1 [(aZ a).getD f.toNat 0]++[]).take 1))-vl (aZ (vl (aZ b)*vl (List.take 1 [j])))) (f-1) (g.set (0+f.toNat*1) j)) r):zeV (zfL a b d f g) r:=Loops.go (LS.at okF6 60 [] [0,1,6,7,8] [0] [1] (.t h1<|.t h2<|.t h3<|.t h4<|.t h5<|.c h6<|.c h7<|.v [0,1,6,7,8,9,10] [2,1,0] hL1<|.t h9<|.t h10<|.c h11<|.c h12<|.c h13<|.i h14<|.e) [1,2,3,4,0,0,5,0,6,7,0,8,2,9,10,11,12,13,14]) k
theorem zqA (a b:Int) (c:Nat) (d:Int) (g:List Int) (h1:¬(d≥0)):zeV (zfL a b c d g) (Ex.exit 0,(zmv a b c d g)):=Loops.fin (LS.at okF6 60 [] [0,1,6,7,8] [0] [0] (.f h1<|.e) [1]) (fun h=>nomatch h)
theorem zqB (a b:Int) (d:Nat) (f:Int) (g:List Int) (j l:Int) (m:List Int) (n o:Int) (h1:l≥0) (h2:0≤l) (h3:l<(↑((aZ a).length):Int)) (h4:l.toNat<(aZ a).length) (h5:(1+(aZ j).length)*8≤140737488355328) (h6:1+(aZ j).length≤4611686018427387904) (h7:1≤List.length [(aZ a).getD l.toNat 0]) (h8:1+(aZ j).length≤(List.take 1 [(aZ a).getD l.toNat 0]++aZ j).length) (h9:pTr ((List.take 1 [(aZ a).getD l.toNat 0]++aZ j).take (1+(aZ j).length))) (hL1:zg4 (zcM a b d (trm ((List.take 1 [(aZ a).getD l.toNat 0]++aZ j).take (1+(aZ j).length))) l m (List.take 1 [(aZ a).getD l.toNat 0]++aZ j) (0) (99999999)) (Ex.exit 2,(zfK a b d (trm ((List.take 1 [(aZ a).getD l.toNat 0]++aZ j).take (1+(aZ j).length))) l m (List.take 1 [(aZ a).getD l.toNat 0]++aZ j) n o))) (h11:l<(d:Int)) (h12:0+l.toNat*1<m.length) (h13:1≤List.length [n]) (h14:pMu (aZ b) (List.take 1 [n])) (h15:pSu (trm ((List.take 1 [(aZ a).getD l.toNat 0]++aZ j).take (1+(aZ j).length))) (aZ (vl (aZ b)*vl (List.take 1 [n])))) (h16:r64 (l-1)) {r:Ex × St} (k:zeV (zfM a b d f g (vl (trm ((List.take 1 [(aZ a).getD l.toNat 0]++aZ j).take (1+(aZ j).length)))-vl (aZ (vl (aZ b)*vl (List.take 1 [n])))) (l-1) (m.set (0+l.toNat*1) n)) r):zeV (zfM a b d f g j l m) r:=Loops.go (LS.at okF6 60 [] [0,1,6,7,8] [0] [1] (.t h1<|.t h2<|.t h3<|.t h4<|.t h5<|.t h6<|.t h7<|.c (show decide ((aZ j).length=(aZ j).length)=true from decide_eq_true rfl)<|.c h8<|.c h9<|.v [0,1,6,7,8,9,10] [2,1,0] hL1<|.t h11<|.t h12<|.c h13<|.c h14<|.c h15<|.i h16<|.e) [1,2,3,4,5,6,7,8,9,10,0,11,2,12,13,14,15,16,17]) k
theorem zqC (a b:Int) (c:Nat) (d:Int) (g:List Int) (i j:Int) (l:List Int) (h1:¬(j≥0)):zeV (zfM a b c d g i j l) (Ex.exit 0,(zfN a b c d g i j l)):=Loops.fin (LS.at okF6 60 [] [0,1,6,7,8] [0] [0] (.f h1<|.e) [1]) (fun h=>nomatch h)
theorem rdv_0 (a b:Int) (h1:0≤(↑((aZ a).length):Int)) (h2:(↑((aZ a).length):Int)≤(↑((aZ a).length):Int)) (h3:8*(↑((aZ a).length):Int)≤281474976710656) (h4:(↑((aZ a).length):Int)≤9223372036854775807) (h5:r64 ((↑((aZ a).length):Int)-1)) (hL1:zeV (zfL a b (↑((aZ a).length):Int).toNat ((↑((aZ a).length):Int)-1) (zaO (↑((aZ a).length):Int).toNat)) (Ex.exit 0,(zmv a b (↑((aZ a).length):Int).toNat ((↑((aZ a).length):Int)-1) (zaO (↑((aZ a).length):Int).toNat)))) (h7:(↑((aZ a).length):Int).toNat≤(zaO (↑((aZ a).length):Int).toNat).length) (h8:pTr ((zaO (↑((aZ a).length):Int).toNat).take (↑((aZ a).length):Int).toNat)):FC Tryz.prog 181 [.ni a,.ni b] (.tup [.sq (trm ((zaO (↑((aZ a).length):Int).toNat).take (↑((aZ a).length):Int).toNat)),aN]):=eZ okF6 60 [] (.t h1<|.t h2<|.t h3<|.t h4<|.i h5<|.v [0,1,6,7,8] [0] hL1<|.c h7<|.c h8<|.e) [1,2,3,4,5,0,6,7,8]
theorem rdv_1 (a b d f:Int) (g:List Int) (h1:0≤(↑((aZ a).length):Int)) (h2:(↑((aZ a).length):Int)≤(↑((aZ a).length):Int)) (h3:8*(↑((aZ a).length):Int)≤281474976710656) (h4:(↑((aZ a).length):Int)≤9223372036854775807) (h5:r64 ((↑((aZ a).length):Int)-1)) (hL1:zeV (zfL a b (↑((aZ a).length):Int).toNat ((↑((aZ a).length):Int)-1) (zaO (↑((aZ a).length):Int).toNat)) (Ex.exit 0,(zfN a b (↑((aZ a).length):Int).toNat ((↑((aZ a).length):Int)-1) (zaO (↑((aZ a).length):Int).toNat) d f g))) (h7:(↑((aZ a).length):Int).toNat≤g.length) (h8:pTr (g.take (↑((aZ a).length):Int).toNat)):FC Tryz.prog 181 [.ni a,.ni b] (.tup [.sq (trm (g.take (↑((aZ a).length):Int).toNat)),.ni d]):=eZ okF6 60 [] (.t h1<|.t h2<|.t h3<|.t h4<|.i h5<|.v [0,1,6,7,8] [0] hL1<|.c h7<|.c h8<|.e) [1,2,3,4,5,0,6,7,8]
end
theorem rCmp_fc (x y:List Int) (h:pSu x y):FC Tryz.prog 160 [.sq x,.sq y] (.lit (.int .i64 (vl x-vl y).sign)):=by
 have hz:Sz 400000 (vl x-vl y):=by
  rw [Int.sub_eq_add_neg];exact Sz.add h.1.sz h.2.sz.neg (by decide) (by decide)
 have:=rcm_0 x y h (hZ hz (Nat.le_refl _))
 rwa [bZ] at this
theorem v1 (d:Int):vl (List.take 1 [d])=d:=by simp [vl]
theorem bs_loop (a b R:Int) (n6:Nat) (t8:Int) (lr0 lr2:List Int) (hb:0<b) (hR:0≤R) (sb:Sz 100000 b) (sR:Sz 200000 R):∀(m:Nat) (lo hi:Int),(hi-lo).toNat≤m→0≤lo→lo≤hi→hi≤99999999→b*lo≤R→R<b*(hi+1) →
 zg4 (zcM a b n6 (aZ R) t8 lr0 lr2 lo hi) (.exit 2,zfK a b n6 (aZ R) t8 lr0 lr2 (R / b) (R / b)):=by
 intro m
 induction m with
 | zero=>
  intro lo hi hm h0 h1 h2 h3 h4
  have e:hi=lo:=by omega
  subst e
  have hq:R / b=hi:=by
   have u1:hi≤R / b:=(Int.le_ediv_iff_mul_le hb).2 (by rw [Int.mul_comm];exact h3)
   have u2:R / b<hi+1:=(Int.ediv_lt_iff_lt_mul hb).2 (by rw [Int.mul_comm];exact h4)
   omega
  rw [hq]
  exact zqy a b n6 _ t8 lr0 lr2 hi hi (by omega)
 | succ m ih=>
  intro lo hi hm h0 h1 h2 h3 h4
  by_cases hlt:lo<hi
  ·have hmid:Int.tdiv (lo+hi+1) 2=(lo+hi+1) / 2:=Int.tdiv_eq_ediv_of_nonneg (by omega)
   have hm1:lo<(lo+hi+1) / 2:=by omega
   have hm2:(lo+hi+1) / 2≤hi:=by omega
   have sm:Sz 1 ((lo+hi+1) / 2):=by unfold Sz;omega
   have hmu:pMu (aZ b) (List.take 1 [(lo+hi+1) / 2]):=⟨hZ sb (by decide),by simp,fun d hd=>by simp at hd;subst hd;unfold cZ;omega⟩
   have hprod:0≤b*((lo+hi+1) / 2):=Int.mul_nonneg (by omega) (by omega)
   have hle:zp2 (aZ R) (aZ (vl (aZ b)*vl (List.take 1 [(lo+hi+1) / 2]))):=by
    rw [bZ,v1]
    exact ⟨⟨by rw [bZ],by rw [bZ]⟩,⟨by rw [bZ];exact hR,by rw [bZ];exact hprod⟩,by rw [bZ];exact sR.mono (by decide),by rw [bZ];exact(sb.mul sm).mono (by decide)⟩
   have hlt2:(vl (aZ R)<vl (aZ (vl (aZ b)*vl (List.take 1 [(lo+hi+1) / 2]))))=(R<b*((lo+hi+1) / 2)):=by rw [bZ,bZ,bZ,v1]
   by_cases hc:R<b*((lo+hi+1) / 2)
   ·refine zqw a b n6 _ t8 lr0 lr2 lo hi hlt (by omega) (by omega) ?_ ?_ ?_ ?_ ?_ ?_ ?_<;>rw [hmid]
    ·omega
    ·simp
    ·exact hmu
    ·exact hle
    ·rw [hlt2];exact hc
    ·omega
    ·exact ih lo ((lo+hi+1) / 2-1) (by omega) h0 (by omega) (by omega) h3 (by rw [Int.sub_add_cancel];exact hc)
   ·refine zqx a b n6 _ t8 lr0 lr2 lo hi hlt (by omega) (by omega) ?_ ?_ ?_ ?_ ?_ ?_<;>rw [hmid]
    ·omega
    ·simp
    ·exact hmu
    ·exact hle
    ·rw [hlt2];exact hc
    ·exact ih ((lo+hi+1) / 2) hi (by omega) (by omega) hm2 h2 (by omega) h4
  ·have e:hi=lo:=by omega
   exact ih lo hi (by omega) h0 h1 h2 h3 h4
theorem zo4 {d R:Int} (h0:0≤d) (h1:d<100000000) (hR:0≤R):trm (List.take (1+(aZ R).length) (List.take 1 [d]++aZ R))=aZ (d+100000000*R):=by
 have hn:aZ R=digs R.natAbs:=by unfold aZ;rw [if_neg (by omega)]
 have hd:Digs (d :: aZ R):=fun e he=>by
  rcases List.mem_cons.1 he with rfl | he
  ·exact ⟨h0,h1⟩
  ·rw [hn] at he;exact qZ _ e he
 have ht:List.take (1+(aZ R).length) (List.take 1 [d]++aZ R)=d :: aZ R:=by
  rw [List.take_of_length_le (by simp;omega)];rfl
 rw [ht,zoq hd]
 simp only [vl,bZ]
theorem trm_one {d:Int} (h0:0≤d) (h1:d<100000000):trm (List.take 1 (List.take 1 [d]++[]))=aZ d:=by
 have:=zo4 (R:=0) h0 h1 (Int.le_refl _)
 have e:aZ 0=[]:=rfl
 rw [e] at this
 simpa using this
theorem Digs_st {l:List Int} {k:Nat} {e:Int} (h:Digs l) (h0:0≤e) (h1:e<100000000):Digs (l.set k e):=by
 intro d hd
 rcases List.mem_or_eq_of_mem_set hd with h2 | h2
 ·exact h d h2
 ·subst h2;exact ⟨h0,h1⟩
theorem zi9 {q:List Int} {k:Nat} {e:Int} (h:k<q.length):vl ((q.set k e).drop k)=e+100000000*vl (q.drop (k+1)):=by
 have h2:k<(q.set k e).length:=by simpa using h
 rw [List.drop_eq_getElem_cons h2]
 simp only [vl,List.getElem_set_self]
 rw [List.drop_set_of_lt (by omega)]
theorem sz_step {k:Nat} {b R:Int} (sb:Sz k b) (h0:0≤R) (h1:R<b*(99999999+1)) (hb:0<b):Sz (k+1) R:=by
 unfold Sz at *
 rw [Nat.pow_succ]
 omega
theorem dv_key {A b R d:Int} (hb:0<b) (hR:R=A % b) (h0:0≤d) (h1:d<100000000) :
 let R':=d+100000000*R
 0≤R'∧R'<b*(99999999+1)∧0≤R' / b∧R' / b≤99999999∧R'-b*(R' / b)=(d+100000000*A) % b∧R' / b+100000000*(A / b)=(d+100000000*A) / b:=by
 intro R'
 have e1:=Int.emod_nonneg A (show b≠0 by omega)
 have e2:=Int.emod_lt_of_pos A hb
 have e3:=Int.mul_ediv_add_emod A b
 have hR0:0≤R':=by show 0≤d+100000000*R;omega
 have hlt:R'<b*(99999999+1):=by show d+100000000*R<b*(99999999+1);omega
 have e4:=Int.mul_ediv_add_emod R' b
 have e5:=Int.emod_nonneg R' (show b≠0 by omega)
 have e6:=Int.emod_lt_of_pos R' hb
 have hq0:0≤R' / b:=Int.ediv_nonneg hR0 (by omega)
 have hq1:R' / b<99999999+1:=(Int.ediv_lt_iff_lt_mul hb).2 (by rw [Int.mul_comm];exact hlt)
 have hval:d+100000000*A=b*(R' / b+100000000*(A / b))+R' % b:=by
  have:A=b*(A / b)+R:=by rw [hR];exact e3.symm
  have h7:R'=d+100000000*R:=rfl
  grind
 refine ⟨hR0,hlt,hq0,by omega,?_,?_⟩
 ·rw [hval,Int.add_comm,Int.add_mul_emod_self_left,Int.emod_eq_of_lt e5 e6];omega
 ·rw [hval,Int.add_comm (b*_),Int.add_mul_ediv_left _ _ (by omega),Int.ediv_eq_zero_of_lt e5 e6];omega
theorem dv_loop (a b:Int) (ha:0≤a) (hb:0<b) (sa:dl a≤100000) (sb:Sz 99999 b) (n0:Nat) (t0:Int) (l0:List Int) (hn0:n0=dl a) :
 ∀(k:Nat),k≤dl a→∀(R:Int) (q:List Int),R=vl ((aZ a).drop k) % b→q.length=dl a→Digs q→vl (q.drop k)=vl ((aZ a).drop k) / b →
  ∃q',q'.length=dl a∧Digs q'∧vl q'=a / b∧zeV (zfM a b n0 t0 l0 R ((k:Int)-1) q) (.exit 0,zfN a b n0 t0 l0 (a % b) (-1) q')
 | 0,_,R,q,hR,hq,hd,hv=>by
  rw [List.drop_zero,bZ] at hR
  rw [List.drop_zero,List.drop_zero,bZ] at hv
  refine ⟨q,hq,hd,hv,?_⟩
  rw [hR]
  exact zqC a b n0 t0 l0 _ _ q (by omega)
 | k + 1,hk,R,q,hR,hq,hd,hv=>by
  have la:=fZ a
  have hn:aZ a=digs a.natAbs:=by unfold aZ;rw [if_neg (by omega)]
  have hlt:k<(aZ a).length:=by omega
  have hdk:0≤(aZ a).getD k 0∧(aZ a).getD k 0<100000000:=by
   have:(aZ a).getD k 0∈aZ a:=by simp [List.getD,hlt]
   rw [hn] at this ⊢;exact qZ _ _ this
  have hdr:(aZ a).drop k=(aZ a).getD k 0 :: (aZ a).drop (k+1):=by rw [List.drop_eq_getElem_cons hlt];simp [List.getD,hlt]
  have hvk:vl ((aZ a).drop k)=(aZ a).getD k 0+100000000*vl ((aZ a).drop (k+1)):=by rw [hdr];rfl
  obtain ⟨r0,r1,r2,r3,r4,r5⟩:=dv_key hb hR hdk.1 hdk.2
  have hR0:0≤R:=by rw [hR];exact Int.emod_nonneg _ (by omega)
  have hRb:R<b:=by rw [hR];exact Int.emod_lt_of_pos _ hb
  have sR:Sz 200000 ((aZ a).getD k 0+100000000*R):=(sz_step sb r0 r1 hb).mono (by decide)
  obtain ⟨q',g1,g2,g3,g4⟩:=dv_loop a b ha hb sa sb n0 t0 l0 hn0 k (by omega) ((aZ a).getD k 0+100000000*R-b*(((aZ a).getD k 0+100000000*R) / b)) (q.set k (((aZ a).getD k 0+100000000*R) / b))
   (by rw [hvk,r4]) (by simp [hq]) (Digs_st hd r2 (by omega)) (by rw [zi9 (by omega),hv,hvk];exact r5)
  refine ⟨q',g1,g2,g3,?_⟩
  have hc:((k+1:Nat):Int)-1=(k:Int):=by omega
  have hk0:Int.toNat (k:Int)=k:=by omega
  have hk1:0+k*1=k:=by omega
  have lR:(aZ R).length≤99999:=by
   rw [fZ]
   refine zh4 ?_
   unfold Sz at sb ⊢
   omega
  have tc:=zo4 hdk.1 hdk.2 hR0
  have bs:=bs_loop a b _ n0 k q (List.take 1 [(aZ a).getD k 0]++aZ R) hb r0 (sb.mono (by decide)) sR 99999999 0 99999999 (by omega) (by omega) (by omega) (by omega) (by omega) r1
  have sq:Sz 1 (((aZ a).getD k 0+100000000*R) / b):=by unfold Sz;omega
  rw [hc]
  refine zqB a b n0 t0 l0 R k q (((aZ a).getD k 0+100000000*R) / b) (((aZ a).getD k 0+100000000*R) / b) (by omega) (by omega) (by omega) (by omega) (by omega) (by omega) ?_ ?_ ?_ ?_ (by omega) (by omega) ?_ ?_ ?_ (by omega) ?_<;>(try simp only [hk0,hk1,tc])
  ·simp
  ·simp;omega
  ·unfold pTr;simp;omega
  ·exact bs
  ·simp
  ·exact ⟨hZ sb (by decide),by simp,fun e he=>by rw [List.mem_singleton.1 he];unfold cZ;omega⟩
  ·rw [bZ,v1];exact ⟨hZ sR (by decide),hZ (sb.mul sq) (by decide)⟩
  ·rw [bZ,bZ,bZ,v1];exact g4
def pDv (a b:Int):Prop:=(0≤a∧0<b)∧Sz 90000 a∧Sz 90000 b
instance tDv {a b:Int}:Tst (pDv a b):=inferInstanceAs (Tst ((0≤a∧0<b)∧Sz 90000 a∧Sz 90000 b))
theorem zqv (a b:Int) (h:pDv a b):FC Tryz.prog 181 [.ni a,.ni b] (.tup [.ni (a / b),.ni (a % b)]):=by
 obtain ⟨⟨ha,hb⟩,sa,sb⟩:=h
 have la:=fZ a
 have da:=zh4 sa
 have hN:Int.toNat ((aZ a).length:Int)=dl a:=by rw [la];omega
 have hz:List.take (dl a) (zaO (dl a))=zaO (dl a):=List.take_of_length_le (by simp)
 by_cases h0:dl a=0
 ·have ha0:a=0:=dl_zero.1 h0
  have:=rdv_0 a b (by omega) (by omega) (by omega) (by omega) (by omega) (zqA a b _ _ _ (by omega)) (by simp) (by unfold pTr;simp;omega)
  rw [hN,h0] at this
  refine this.res fun E v hv=>hv.tup2 (fun u hu=>?_) (fun u hu=>?_)
  ·rw [ha0,Int.zero_ediv];exact hu.toNi rfl rfl
  ·rw [ha0,Int.zero_emod];exact hu.toNi rfl rfl
 ·have hlt:dl a-1<(aZ a).length:=by omega
  have hn:aZ a=digs a.natAbs:=by unfold aZ;rw [if_neg (by omega)]
  have hk0:Int.toNat (((aZ a).length:Int)-1)=dl a-1:=by omega
  have hdk:0≤(aZ a).getD (dl a-1) 0∧(aZ a).getD (dl a-1) 0<100000000:=by
   have:(aZ a).getD (dl a-1) 0∈aZ a:=by simp [List.getD,hlt]
   rw [hn] at this ⊢;exact qZ _ _ this
  have hdr:(aZ a).drop (dl a-1)=[(aZ a).getD (dl a-1) 0]:=by
   rw [List.drop_eq_getElem_cons hlt,List.drop_of_length_le (by omega)];simp [List.getD,hlt]
  have hvk:vl ((aZ a).drop (dl a-1))=(aZ a).getD (dl a-1) 0+100000000*0:=by rw [hdr];simp [vl]
  obtain ⟨r0,r1,r2,r3,r4,r5⟩:=dv_key (A:=0) (R:=0) hb (by simp) hdk.1 hdk.2
  have hD:(aZ a).getD (dl a-1) 0+100000000*0=(aZ a).getD (dl a-1) 0:=by omega
  have sD:Sz 200000 ((aZ a).getD (dl a-1) 0+100000000*0):=by refine Sz.mono (j:=1) ?_ (by decide);unfold Sz;omega
  have sq:Sz 1 (((aZ a).getD (dl a-1) 0+100000000*0) / b):=by unfold Sz;omega
  have zl:(zaO (dl a)).length=dl a:=by simp
  have zd:Digs (zaO (dl a)):=fun d hd=>by have:=List.eq_of_mem_replicate hd;omega
  obtain ⟨q',g1,g2,g3,g4⟩:=dv_loop a b ha hb (by omega) (sb.mono (by decide)) (dl a) ((aZ a).length-1:Int) (zaO (dl a)) rfl (dl a-1) (by omega)
   ((aZ a).getD (dl a-1) 0+100000000*0-b*(((aZ a).getD (dl a-1) 0+100000000*0) / b)) ((zaO (dl a)).set (dl a-1) (((aZ a).getD (dl a-1) 0+100000000*0) / b))
   (by rw [hvk];exact r4) (by simp) (Digs_st zd r2 (by omega)) (by
    rw [zi9 (by omega),hvk,List.drop_of_length_le (by omega)]
    simp only [vl]
    rw [← r5,Int.zero_ediv];simp)
  have tc:=trm_one hdk.1 hdk.2
  have bs:=bs_loop a b _ (dl a) ((aZ a).length-1:Int) (zaO (dl a)) [(aZ a).getD (dl a-1) 0] hb r0 (sb.mono (by decide)) sD 99999999 0 99999999 (by omega) (by omega) (by omega) (by omega) (by omega) r1
  have hL:zeV (zfL a b (dl a) ((aZ a).length-1:Int) (zaO (dl a))) (.exit 0,zfN a b (dl a) ((aZ a).length-1:Int) (zaO (dl a)) (a % b) (-1) q'):=by
   have hc:((dl a-1:Nat):Int)-1=((aZ a).length:Int)-1-1:=by omega
   have r2':=r2
   have r3':=r3
   rw [hD] at r2' r3' g4 bs sD sq
   refine zqz a b (dl a) _ (zaO (dl a)) ((aZ a).getD (dl a-1) 0 / b) ((aZ a).getD (dl a-1) 0 / b) (by omega) (by omega) (by omega) (by omega) ?_ ?_ ?_ ?_ (by omega) (by omega) ?_ ?_ ?_ (by omega) ?_<;>(try simp only [hk0,tc])
   ·simp
   ·simp
   ·unfold pTr;simp
   ·exact bs
   ·simp
   ·exact ⟨hZ sb (by decide),by simp,fun e he=>by rw [List.mem_singleton.1 he];unfold cZ;omega⟩
   ·rw [bZ,v1];exact ⟨hZ sD (by decide),hZ (sb.mul sq) (by decide)⟩
   ·rw [bZ,bZ,bZ,v1,show 0+(dl a-1)*1=dl a-1 by omega,← hc];exact g4
  rw [← hN] at hL
  have ht:List.take (dl a) q'=q':=by rw [← g1];exact List.take_length
  have:=rdv_1 a b (a % b) (-1) q' (by omega) (by omega) (by omega) (by omega) (by omega) hL (by omega) (by rw [hN,ht];unfold pTr;omega)
  rw [hN,ht,zoq g2,g3] at this
  exact this.res fun E v hv=>hv.tup2 (fun u hu=>hu.toNi rfl rfl) (fun _ hu=>hu)
def ctrF7:Ctr:=(160,cLL pSu (fun x y=>.lit (.int .i64 (vl x-vl y).sign))) :: (181,n2 pDv (fun a b=>.tup [.ni (a / b),.ni (a % b)])) :: ctrF6
theorem zlz:∀p∈ctrF7,kZ Tryz.prog p.1 p.2:=CAll.cons (zck rCmp_fc)<|CAll.cons (n2_ok zqv) zly
theorem okF7:(dZ Tryz.prog ctrF7 bw).OK:=TZ zlz
noncomputable section
theorem rdm_0 (x y:List Int) (h1:pNm x) (h2:pNm y) (h3:(↑((aZ (vl y)).length):Int)=0):FC Tryz.prog 140 [.sq x,.sq y] (.tup [aN,aN,aI 12]):=eZ okF7 60 [1] (.c h1<|.c h2<|.c (beq_iff_eq.2 h3)<|.e) [1,2,3]
theorem rdm_1 (x y:List Int) (h1:pNm x) (h2:pNm y) (h3:(↑((aZ (vl y)).length):Int)≠0) (h4:pNg (vl x)) (h5:pNg (vl y)) (h6:pDv (↑((vl x).natAbs):Int) (↑((vl y).natAbs):Int)) (h7:vl x<0) (h8:pX (aZ ((↑((vl x).natAbs):Int) / (↑((vl y).natAbs):Int)))) (h9:pX (aZ ((↑((vl x).natAbs):Int) % (↑((vl y).natAbs):Int)))) (h10:(↑((aZ (-vl (aZ ((↑((vl x).natAbs):Int) % (↑((vl y).natAbs):Int))))).length):Int) > 0) (h11:1≤1) (h12:pSu (aZ (-vl (aZ ((↑((vl x).natAbs):Int) / (↑((vl y).natAbs):Int))))) (List.take 1 [1])) (h13:pAd (aZ (-vl (aZ ((↑((vl x).natAbs):Int) % (↑((vl y).natAbs):Int))))) (aZ (↑((vl y).natAbs):Int))) (h14:vl y<0) (h15:pX (aZ (vl (aZ (-vl (aZ ((↑((vl x).natAbs):Int) / (↑((vl y).natAbs):Int)))))-1))):FC Tryz.prog 140 [.sq x,.sq y] (.tup [.ni (-vl (aZ (vl (aZ (-vl (aZ ((↑((vl x).natAbs):Int) / (↑((vl y).natAbs):Int)))))-1))),.ni (vl (aZ (-vl (aZ ((↑((vl x).natAbs):Int) % (↑((vl y).natAbs):Int)))))+vl (aZ (↑((vl y).natAbs):Int))),aI 0]):=eZ okF7 60 [0,1,1,1] (.c h1<|.c h2<|.c (beq_false_of_ne h3)<|.c h4<|.c h5<|.c h6<|.t h7<|.c h8<|.c h9<|.t h10<|.c h11<|.c h12<|.c h13<|.t h14<|.c h15<|.e) [1,2,3,4,5,6,4,7,8,9,10,11,12,5,13,5,14,15]
theorem rdm_2 (x y:List Int) (h1:pNm x) (h2:pNm y) (h3:(↑((aZ (vl y)).length):Int)≠0) (h4:pNg (vl x)) (h5:pNg (vl y)) (h6:pDv (↑((vl x).natAbs):Int) (↑((vl y).natAbs):Int)) (h7:vl x<0) (h8:pX (aZ ((↑((vl x).natAbs):Int) / (↑((vl y).natAbs):Int)))) (h9:pX (aZ ((↑((vl x).natAbs):Int) % (↑((vl y).natAbs):Int)))) (h10:(↑((aZ (-vl (aZ ((↑((vl x).natAbs):Int) % (↑((vl y).natAbs):Int))))).length):Int) > 0) (h11:1≤1) (h12:pSu (aZ (-vl (aZ ((↑((vl x).natAbs):Int) / (↑((vl y).natAbs):Int))))) (List.take 1 [1])) (h13:pAd (aZ (-vl (aZ ((↑((vl x).natAbs):Int) % (↑((vl y).natAbs):Int))))) (aZ (↑((vl y).natAbs):Int))) (h14:¬(vl y<0)):FC Tryz.prog 140 [.sq x,.sq y] (.tup [.ni (vl (aZ (-vl (aZ ((↑((vl x).natAbs):Int) / (↑((vl y).natAbs):Int)))))-1),.ni (vl (aZ (-vl (aZ ((↑((vl x).natAbs):Int) % (↑((vl y).natAbs):Int)))))+vl (aZ (↑((vl y).natAbs):Int))),aI 0]):=eZ okF7 60 [0,1,1,0] (.c h1<|.c h2<|.c (beq_false_of_ne h3)<|.c h4<|.c h5<|.c h6<|.t h7<|.c h8<|.c h9<|.t h10<|.c h11<|.c h12<|.c h13<|.f h14<|.e) [1,2,3,4,5,6,4,7,8,9,10,11,12,5,13,5,14]
theorem rdm_3 (x y:List Int) (h1:pNm x) (h2:pNm y) (h3:(↑((aZ (vl y)).length):Int)≠0) (h4:pNg (vl x)) (h5:pNg (vl y)) (h6:pDv (↑((vl x).natAbs):Int) (↑((vl y).natAbs):Int)) (h7:vl x<0) (h8:pX (aZ ((↑((vl x).natAbs):Int) / (↑((vl y).natAbs):Int)))) (h9:pX (aZ ((↑((vl x).natAbs):Int) % (↑((vl y).natAbs):Int)))) (h10:¬((↑((aZ (-vl (aZ ((↑((vl x).natAbs):Int) % (↑((vl y).natAbs):Int))))).length):Int) > 0)) (h11:vl y<0) (h12:pX (aZ (-vl (aZ ((↑((vl x).natAbs):Int) / (↑((vl y).natAbs):Int)))))):FC Tryz.prog 140 [.sq x,.sq y] (.tup [.ni (-vl (aZ (-vl (aZ ((↑((vl x).natAbs):Int) / (↑((vl y).natAbs):Int)))))),.ni (-vl (aZ ((↑((vl x).natAbs):Int) % (↑((vl y).natAbs):Int)))),aI 0]):=eZ okF7 60 [0,1,0,1] (.c h1<|.c h2<|.c (beq_false_of_ne h3)<|.c h4<|.c h5<|.c h6<|.t h7<|.c h8<|.c h9<|.f h10<|.t h11<|.c h12<|.e) [1,2,3,4,5,6,4,7,8,9,10,5,11,12]
theorem rdm_4 (x y:List Int) (h1:pNm x) (h2:pNm y) (h3:(↑((aZ (vl y)).length):Int)≠0) (h4:pNg (vl x)) (h5:pNg (vl y)) (h6:pDv (↑((vl x).natAbs):Int) (↑((vl y).natAbs):Int)) (h7:vl x<0) (h8:pX (aZ ((↑((vl x).natAbs):Int) / (↑((vl y).natAbs):Int)))) (h9:pX (aZ ((↑((vl x).natAbs):Int) % (↑((vl y).natAbs):Int)))) (h10:¬((↑((aZ (-vl (aZ ((↑((vl x).natAbs):Int) % (↑((vl y).natAbs):Int))))).length):Int) > 0)) (h11:¬(vl y<0)):FC Tryz.prog 140 [.sq x,.sq y] (.tup [.ni (-vl (aZ ((↑((vl x).natAbs):Int) / (↑((vl y).natAbs):Int)))),.ni (-vl (aZ ((↑((vl x).natAbs):Int) % (↑((vl y).natAbs):Int)))),aI 0]):=eZ okF7 60 [0,1,0,0] (.c h1<|.c h2<|.c (beq_false_of_ne h3)<|.c h4<|.c h5<|.c h6<|.t h7<|.c h8<|.c h9<|.f h10<|.f h11<|.e) [1,2,3,4,5,6,4,7,8,9,10,5,11]
theorem rdm_5 (x y:List Int) (h1:pNm x) (h2:pNm y) (h3:(↑((aZ (vl y)).length):Int)≠0) (h4:pNg (vl x)) (h5:pNg (vl y)) (h6:pDv (↑((vl x).natAbs):Int) (↑((vl y).natAbs):Int)) (h7:¬(vl x<0)) (h8:vl y<0) (h9:pX (aZ ((↑((vl x).natAbs):Int) / (↑((vl y).natAbs):Int)))):FC Tryz.prog 140 [.sq x,.sq y] (.tup [.ni (-vl (aZ ((↑((vl x).natAbs):Int) / (↑((vl y).natAbs):Int)))),.ni ((↑((vl x).natAbs):Int) % (↑((vl y).natAbs):Int)),aI 0]):=eZ okF7 60 [0,0,1] (.c h1<|.c h2<|.c (beq_false_of_ne h3)<|.c h4<|.c h5<|.c h6<|.f h7<|.t h8<|.c h9<|.e) [1,2,3,4,5,6,4,7,5,8,9]
theorem rdm_6 (x y:List Int) (h1:pNm x) (h2:pNm y) (h3:(↑((aZ (vl y)).length):Int)≠0) (h4:pNg (vl x)) (h5:pNg (vl y)) (h6:pDv (↑((vl x).natAbs):Int) (↑((vl y).natAbs):Int)) (h7:¬(vl x<0)) (h8:¬(vl y<0)):FC Tryz.prog 140 [.sq x,.sq y] (.tup [.ni ((↑((vl x).natAbs):Int) / (↑((vl y).natAbs):Int)),.ni ((↑((vl x).natAbs):Int) % (↑((vl y).natAbs):Int)),aI 0]):=eZ okF7 60 [0,0,0] (.c h1<|.c h2<|.c (beq_false_of_ne h3)<|.c h4<|.c h5<|.c h6<|.f h7<|.f h8<|.e) [1,2,3,4,5,6,4,7,5,8]
abbrev zmx (s:St) (r:Ex × St):Prop:=Loops 0 Tryz.prog (lZ Tryz.prog 139 0) s r
abbrev zfT (a b:Int):St:=⟨sp 27 [(5,.ni a),(6,.ni b)],[],[]⟩
abbrev ziP (a b:Int):St:=⟨sp 27 [(5,.ni a),(6,.ni b)],[],[]⟩
theorem zqE (a b:Int) (h1:(↑((aZ b).length):Int) > 0) (h2:pDv a b) {r:Ex × St} (k:zmx (zfT b (a % b)) r):zmx (zfT a b) r:=Loops.go (LS.at okF7 60 [] [5,6] [] [1] (.t h1<|.c h2<|.e) [1,2]) k
theorem zjQ (a b:Int) (h1:¬((↑((aZ b).length):Int) > 0)):zmx (zfT a b) (Ex.exit 0,(ziP a b)):=Loops.fin (LS.at okF7 60 [] [5,6] [] [0] (.f h1<|.e) [1]) (fun h=>nomatch h)
theorem rgc_0 (x y:List Int) (a b:Int) (h1:pNm x) (h2:pNg (vl x)) (h3:pNm y) (h4:pNg (vl y)) (hL1:zmx (zfT ((↑((vl x).natAbs):Int)) ((↑((vl y).natAbs):Int))) (Ex.exit 0,(ziP a b))):FC Tryz.prog 139 [.sq x,.sq y] (.ni a):=eZ okF7 60 [] (.c h1<|.c h2<|.c h3<|.c h4<|.v [5,6] [] hL1<|.e) [1,2,3,4,0,5]
end
theorem Sz_abs {k:Nat} {z:Int} (h:Sz k z):Sz k (z.natAbs:Int):=by unfold Sz at *;rw [Int.natAbs_natCast];exact h
theorem dm_neg {a b:Int} (hb:0<b):(a % b≠0→(-a) / b = -(a / b)-1∧(-a) % b = -(a % b)+b)∧(a % b=0→(-a) / b = -(a / b)∧(-a) % b = -(a % b)):=by
 have e1:=Int.mul_ediv_add_emod a b
 have e2:=Int.emod_nonneg a (show b≠0 by omega)
 have e3:=Int.emod_lt_of_pos a hb
 constructor
 ·intro h
  refine (Int.ediv_emod_unique hb).2 ⟨?_,by omega,by omega⟩
  have:b*(-(a / b)-1) = -(b*(a / b))-b:=by rw [Int.mul_sub,Int.mul_neg,Int.mul_one]
  rw [this];omega
 ·intro h
  refine (Int.ediv_emod_unique hb).2 ⟨?_,by omega,by omega⟩
  rw [Int.mul_neg];omega
theorem tup3 {P:Program} {f:FuncId} {args:List AV} {q r q' r':Int} {e:AV} (h:FC P f args (.tup [.ni q,.ni r,e])) (hq:q=q') (hr:r=r'):FC P f args (.tup [.ni q',.ni r',e]):=by rw [← hq,← hr];exact h
def pDM (x y:List Int):Prop:=pQ 80000 x∧pQ 80000 y
def pDM0 (x y:List Int):Prop:=pDM x y∧vl y=0
def pDM1 (x y:List Int):Prop:=pDM x y∧vl y≠0
theorem rdm0_fc (x y:List Int) (h:pDM0 x y):FC Tryz.prog 140 [.sq x,.sq y] (.tup [.lit (.slice none 0 0),.lit (.slice none 0 0),.lit (.int .i64 12)]):=
 rdm_0 x y (h.1.1.mono (by decide)) (h.1.2.mono (by decide)) (by rw [h.2];rfl)
theorem rdm1_fc (x y:List Int) (h:pDM1 x y):FC Tryz.prog 140 [.sq x,.sq y] (.tup [.ni (vl x / vl y),.ni (vl x % vl y),.lit (.int .i64 0)]):=by
 obtain ⟨⟨hx,hy⟩,h0⟩:=h
 have px:pNm x:=hx.mono (by decide)
 have py:pNm y:=hy.mono (by decide)
 have sx:=hx.sz
 have sy:=hy.sz
 have ly:=fZ (vl y)
 have hd0:dl (vl y)≠0:=fun h=>h0 (dl_zero.1 h)
 have gx:pNg (vl x):=sx.mono (by decide)
 have gy:pNg (vl y):=sy.mono (by decide)
 generalize hX:vl x=X at *
 generalize hY:vl y=Y at *
 have sX:Sz 80003 (X.natAbs:Int):=Sz_abs sx
 have sY:Sz 80003 (Y.natAbs:Int):=Sz_abs sy
 have hb:0<(Y.natAbs:Int):=by omega
 have pd:pDv (X.natAbs:Int) (Y.natAbs:Int):=⟨⟨by omega,hb⟩,sX.mono (by decide),sY.mono (by decide)⟩
 have sq:Sz 80003 ((X.natAbs:Int) / (Y.natAbs:Int)):=div_sz sX
 have sr:Sz 80003 ((X.natAbs:Int) % (Y.natAbs:Int)):=mod_sz sY (by omega)
 have s1:Sz 1 (1:Int):=by unfold Sz;decide
 have pxq:pX (aZ ((X.natAbs:Int) / (Y.natAbs:Int))):=hZ sq (by decide)
 have pxr:pX (aZ ((X.natAbs:Int) % (Y.natAbs:Int))):=hZ sr (by decide)
 have hdn:=dm_neg (a:=(X.natAbs:Int)) hb
 have p1:pQ 390000 (List.take 1 [(1:Int)]):=⟨by simp,fun e he=>by rw [List.mem_singleton.1 he];unfold cZ;omega⟩
 subst hX hY
 by_cases hx0:vl x<0
 ·have eX:vl x = -((vl x).natAbs:Int):=by omega
  have lr:=fZ (-vl (aZ (((vl x).natAbs:Int) % ((vl y).natAbs:Int))))
  by_cases hr0:((vl x).natAbs:Int) % ((vl y).natAbs:Int)=0
  ·obtain ⟨k1,k2⟩:=hdn.2 hr0
   have hlen:¬(((aZ (-vl (aZ (((vl x).natAbs:Int) % ((vl y).natAbs:Int))))).length:Int) > 0):=by
    rw [lr,bZ,hr0];decide
   by_cases hy0:vl y<0
   ·have eY:vl y = -((vl y).natAbs:Int):=by omega
    have:=rdm_3 x y px py (by omega) gx gy pd hx0 pxq pxr hlen hy0 (by rw [bZ];exact hZ sq.neg (by decide))
    refine tup3 this ?_ ?_
    ·rw [bZ,bZ];conv=>rhs;rw [eX,eY,Int.ediv_neg,k1]
    ·rw [bZ];conv=>rhs;rw [eX,eY,Int.emod_neg,k2]
   ·have eY:vl y=((vl y).natAbs:Int):=by omega
    have:=rdm_4 x y px py (by omega) gx gy pd hx0 pxq pxr hlen hy0
    refine tup3 this ?_ ?_
    ·rw [bZ];conv=>rhs;rw [eX,eY,k1]
    ·rw [bZ];conv=>rhs;rw [eX,eY,k2]
  ·obtain ⟨k1,k2⟩:=hdn.1 hr0
   have hne:dl (-(((vl x).natAbs:Int) % ((vl y).natAbs:Int)))≠0:=fun h=>hr0 (by have:=dl_zero.1 h;omega)
   have hlen:(((aZ (-vl (aZ (((vl x).natAbs:Int) % ((vl y).natAbs:Int))))).length:Int) > 0):=by
    rw [lr,bZ];omega
   have hsu:pSu (aZ (-vl (aZ (((vl x).natAbs:Int) / ((vl y).natAbs:Int))))) (List.take 1 [(1:Int)]):=⟨by rw [bZ];exact hZ sq.neg (by decide),p1⟩
   have had:pAd (aZ (-vl (aZ (((vl x).natAbs:Int) % ((vl y).natAbs:Int))))) (aZ ((vl y).natAbs:Int)):=⟨by rw [bZ];exact hZ sr.neg (by decide),hZ sY (by decide)⟩
   by_cases hy0:vl y<0
   ·have eY:vl y = -((vl y).natAbs:Int):=by omega
    have:=rdm_1 x y px py (by omega) gx gy pd hx0 pxq pxr hlen (by omega) hsu had hy0 (by
     rw [bZ,bZ,Int.sub_eq_add_neg];exact hZ (Sz.add sq.neg s1.neg (show 80003<100000 by decide) (by decide)) (by decide))
    refine tup3 this ?_ ?_
    ·rw [bZ,bZ,bZ];conv=>rhs;rw [eX,eY,Int.ediv_neg,k1]
    ·rw [bZ,bZ,bZ];conv=>rhs;rw [eX,eY,Int.emod_neg,k2]
   ·have eY:vl y=((vl y).natAbs:Int):=by omega
    have:=rdm_2 x y px py (by omega) gx gy pd hx0 pxq pxr hlen (by omega) hsu had hy0
    refine tup3 this ?_ ?_
    ·rw [bZ,bZ];conv=>rhs;rw [eX,eY,k1]
    ·rw [bZ,bZ,bZ];conv=>rhs;rw [eX,eY,k2]
 ·have eX:vl x=((vl x).natAbs:Int):=by omega
  by_cases hy0:vl y<0
  ·have eY:vl y = -((vl y).natAbs:Int):=by omega
   have:=rdm_5 x y px py (by omega) gx gy pd hx0 hy0 pxq
   refine tup3 this ?_ ?_
   ·rw [bZ];conv=>rhs;rw [eX,eY,Int.ediv_neg]
   ·conv=>rhs;rw [eX,eY,Int.emod_neg]
  ·have eY:vl y=((vl y).natAbs:Int):=by omega
   have:=rdm_6 x y px py (by omega) gx gy pd hx0 hy0
   refine tup3 this ?_ ?_
   ·conv=>rhs;rw [eX,eY]
   ·conv=>rhs;rw [eX,eY]
theorem Sz.abs {k:Nat} {z:Int} (h:Sz k z):Sz k (z.natAbs:Int):=by unfold Sz at *;rw [Int.natAbs_natCast];exact h
theorem rg_loop:∀(m:Nat) (a b:Int),b.toNat≤m→0≤a→0≤b→Sz 85000 a→Sz 85000 b→zmx (zfT a b) (.exit 0,ziP (Int.gcd a b:Int) 0):=by
 intro m
 induction m with
 | zero=>
  intro a b hm ha hb sa sb
  have:b=0:=by omega
  subst this
  have e:(Int.gcd a 0:Int)=a:=by rw [Int.gcd_zero_right];omega
  rw [e]
  exact zjQ a 0 (by rw [fZ];decide)
 | succ m ih=>
  intro a b hm ha hb sa sb
  by_cases h0:b=0
  ·subst h0
   have e:(Int.gcd a 0:Int)=a:=by rw [Int.gcd_zero_right];omega
   rw [e]
   exact zjQ a 0 (by rw [fZ];decide)
  ·have h1:=Int.emod_nonneg a h0
   have h2:=Int.emod_lt_of_pos a (show 0<b by omega)
   have hne:dl b≠0:=fun h=>h0 (dl_zero.1 h)
   have:=ih b (a % b) (by omega) hb h1 sb (mod_sz sb h0)
   rw [zoh] at this
   exact zqE a b (by rw [fZ];omega) ⟨⟨ha,by omega⟩,sa.mono (by decide),sb.mono (by decide)⟩ this
theorem rGcd_fc (x y:List Int) (h:pDM x y):FC Tryz.prog 139 [.sq x,.sq y] (.ni (Int.gcd (vl x) (vl y):Int)):=by
 obtain ⟨hx,hy⟩:=h
 have sx:=hx.sz
 have sy:=hy.sz
 have sX:Sz 85000 ((vl x).natAbs:Int):=(Sz.abs sx).mono (show 80000+3≤85000 by decide)
 have sY:Sz 85000 ((vl y).natAbs:Int):=(Sz.abs sy).mono (show 80000+3≤85000 by decide)
 have hl:=rg_loop _ ((vl x).natAbs:Int) ((vl y).natAbs:Int) (Nat.le_refl _) (by omega) (by omega) sX sY
 have:=rgc_0 x y _ _ (hx.mono (by decide)) (sx.mono (by decide)) (hy.mono (by decide)) (sy.mono (by decide)) hl
 have e:Int.gcd ((vl x).natAbs:Int) ((vl y).natAbs:Int)=Int.gcd (vl x) (vl y):=by
  unfold Int.gcd;simp
 rwa [e] at this
def inI (z:Int):Prop:=-9223372036854775808≤z∧z≤9223372036854775807
instance {z:Int}:Decidable (inI z):=inferInstanceAs (Decidable (_∧_))
def ctrF8:Ctr:=(140,twoC tZero (cLL pDM0 (fun _ _=>.tup [.lit (.slice none 0 0),.lit (.slice none 0 0),.lit (.int .i64 12)])) (cLL pDM1 (fun x y=>.tup [.ni (vl x / vl y),.ni (vl x % vl y),.lit (.int .i64 0)]))) ::
 (139,cLL pDM (fun x y=>.ni (Int.gcd (vl x) (vl y):Int))) ::
 ctrF7
theorem zlA:∀p∈ctrF8,kZ Tryz.prog p.1 p.2:=CAll.cons (twoC_ok (zck rdm0_fc) (zck rdm1_fc))<|CAll.cons (zck rGcd_fc) <|
 zlz
def ctrG:Ctr:=ctrF8++ctrX
theorem zn9:∀p∈ctrG,kZ Tryz.prog p.1 p.2:=fun p hp=>by
 rcases List.mem_append.1 hp with h | h
 ·exact zlA p h
 ·exact zoc p h
theorem okG:(dZ Tryz.prog ctrG bw).OK:=TZ zn9
noncomputable section
end
noncomputable section
abbrev rv_L0 (s:St) (r:Ex × St):Prop:=Loops 0 Tryz.prog (lZ Tryz.prog 147 0) s r
abbrev zi1 (a:List Int) (b c d:Int):St:=⟨sp 23 [(0,.sq a),(1,aI b),(5,aI c),(6,aI d)],[],[]⟩
abbrev zk1 (a:List Int) (b c d:Int):St:=⟨sp 23 [(0,.sq a),(1,aI b),(5,aI c),(6,aI d)],[],[]⟩
theorem rv_L0_0_0 (a:List Int) (b c d:Int) (h1:d≥0) (h2:r64 (c*b)) (h3:0≤d) (h4:d<(a.length:Int)) (h5:d.toNat<a.length) (h6:r64 (c*b+a.getD d.toNat 0)) (h7:r64 (d-1)) {r:Ex × St} (k:rv_L0 (zi1 a b (c*b+a.getD d.toNat 0) (d-1)) r):rv_L0 (zi1 a b c d) r:=Loops.go (LS.at okG 60 [] [0,1,5,6] [] [1] (.t h1<|.i h2<|.t h3<|.t h4<|.t h5<|.i h6<|.i h7<|.e) [1,2,3,4,5,6,7]) k
theorem rv_L0_0_1 (a:List Int) (b c d:Int) (h1:¬(d≥0)):rv_L0 (zi1 a b c d) (Ex.exit 0,(zk1 a b c d)):=Loops.fin (LS.at okG 60 [] [0,1,5,6] [] [0] (.f h1<|.e) [1]) (fun h=>nomatch h)
theorem rv_0 (p:List Int) (x a b:Int) (h1:r64 ((p.length:Int)-1)) (hL1:rv_L0 (zi1 p x (0) ((p.length:Int)-1)) (Ex.exit 0,(zk1 p x a b))):FC Tryz.prog 147 [.sq p,.lit (.int .i64 x)] (aI a):=eZ okG 60 [] (.i h1<|.v [0,1,5,6] [] hL1<|.e) [1,0,2]
theorem fv2_0 (a b x:Int):FunI (dZ Tryz.prog ctrG bw) 60 157 [.sq [a,b],.lit (.int .i64 x)] [] [] [0,1,2,3,4] (aI ((0*x+List.getD [a,b] 1 0)*x+List.getD [a,b] 0 0)) [inR .i64 (0*x)=true,inR .i64 (0*x+List.getD [a,b] 1 0)=true,inR .i64 ((0*x+List.getD [a,b] 1 0)*x)=true,inR .i64 ((0*x+List.getD [a,b] 1 0)*x+List.getD [a,b] 0 0)=true]:={}
theorem fv3_0 (a b c x:Int):FunI (dZ Tryz.prog ctrG bw) 60 157 [.sq [a,b,c],.lit (.int .i64 x)] [] [] [0,1,2,3,4,5,6] (aI (((0*x+List.getD [a,b,c] 2 0)*x+List.getD [a,b,c] 1 0)*x+List.getD [a,b,c] 0 0)) [inR .i64 (0*x)=true,inR .i64 (0*x+List.getD [a,b,c] 2 0)=true,inR .i64 ((0*x+List.getD [a,b,c] 2 0)*x)=true,inR .i64 ((0*x+List.getD [a,b,c] 2 0)*x+List.getD [a,b,c] 1 0)=true,inR .i64 (((0*x+List.getD [a,b,c] 2 0)*x+List.getD [a,b,c] 1 0)*x)=true,inR .i64 (((0*x+List.getD [a,b,c] 2 0)*x+List.getD [a,b,c] 1 0)*x+List.getD [a,b,c] 0 0)=true]:={}
theorem fv4_0 (a b c d x:Int):FunI (dZ Tryz.prog ctrG bw) 60 157 [.sq [a,b,c,d],.lit (.int .i64 x)] [] [] [0,1,2,3,4,5,6,7,8] (aI ((((0*x+List.getD [a,b,c,d] 3 0)*x+List.getD [a,b,c,d] 2 0)*x+List.getD [a,b,c,d] 1 0)*x+List.getD [a,b,c,d] 0 0)) [inR .i64 (0*x)=true,inR .i64 (0*x+List.getD [a,b,c,d] 3 0)=true,inR .i64 ((0*x+List.getD [a,b,c,d] 3 0)*x)=true,inR .i64 ((0*x+List.getD [a,b,c,d] 3 0)*x+List.getD [a,b,c,d] 2 0)=true,inR .i64 (((0*x+List.getD [a,b,c,d] 3 0)*x+List.getD [a,b,c,d] 2 0)*x)=true,inR .i64 (((0*x+List.getD [a,b,c,d] 3 0)*x+List.getD [a,b,c,d] 2 0)*x+List.getD [a,b,c,d] 1 0)=true,inR .i64 ((((0*x+List.getD [a,b,c,d] 3 0)*x+List.getD [a,b,c,d] 2 0)*x+List.getD [a,b,c,d] 1 0)*x)=true,inR .i64 ((((0*x+List.getD [a,b,c,d] 3 0)*x+List.getD [a,b,c,d] 2 0)*x+List.getD [a,b,c,d] 1 0)*x+List.getD [a,b,c,d] 0 0)=true]:={}
theorem fv5_0 (a b c d e x:Int):FunI (dZ Tryz.prog ctrG bw) 60 157 [.sq [a,b,c,d,e],.lit (.int .i64 x)] [] [] [0,1,2,3,4,5,6,7,8,9,10] (aI (((((0*x+List.getD [a,b,c,d,e] 4 0)*x+List.getD [a,b,c,d,e] 3 0)*x+List.getD [a,b,c,d,e] 2 0)*x+List.getD [a,b,c,d,e] 1 0)*x+List.getD [a,b,c,d,e] 0 0)) [inR .i64 (0*x)=true,inR .i64 (0*x+List.getD [a,b,c,d,e] 4 0)=true,inR .i64 ((0*x+List.getD [a,b,c,d,e] 4 0)*x)=true,inR .i64 ((0*x+List.getD [a,b,c,d,e] 4 0)*x+List.getD [a,b,c,d,e] 3 0)=true,inR .i64 (((0*x+List.getD [a,b,c,d,e] 4 0)*x+List.getD [a,b,c,d,e] 3 0)*x)=true,inR .i64 (((0*x+List.getD [a,b,c,d,e] 4 0)*x+List.getD [a,b,c,d,e] 3 0)*x+List.getD [a,b,c,d,e] 2 0)=true,inR .i64 ((((0*x+List.getD [a,b,c,d,e] 4 0)*x+List.getD [a,b,c,d,e] 3 0)*x+List.getD [a,b,c,d,e] 2 0)*x)=true,inR .i64 ((((0*x+List.getD [a,b,c,d,e] 4 0)*x+List.getD [a,b,c,d,e] 3 0)*x+List.getD [a,b,c,d,e] 2 0)*x+List.getD [a,b,c,d,e] 1 0)=true,inR .i64 (((((0*x+List.getD [a,b,c,d,e] 4 0)*x+List.getD [a,b,c,d,e] 3 0)*x+List.getD [a,b,c,d,e] 2 0)*x+List.getD [a,b,c,d,e] 1 0)*x)=true,inR .i64 (((((0*x+List.getD [a,b,c,d,e] 4 0)*x+List.getD [a,b,c,d,e] 3 0)*x+List.getD [a,b,c,d,e] 2 0)*x+List.getD [a,b,c,d,e] 1 0)*x+List.getD [a,b,c,d,e] 0 0)=true]:={}
end
def pv:List Int→Int→Int
 | [],_=>0
 | c :: l,x=>pv l x*x+c
theorem vb {v x c:Int} {k:Nat} (hv:v.natAbs+1≤1001 ^ k) (hx:x.natAbs≤1001) (hc:c.natAbs≤1000):(v*x).natAbs+1001≤1001 ^ (k+1)∧(v*x+c).natAbs+1≤1001 ^ (k+1):=by
 have h1:(v*x).natAbs≤v.natAbs*1001:=by rw [Int.natAbs_mul];exact Nat.mul_le_mul_left _ hx
 have h2:v.natAbs*1001+1001≤1001 ^ (k+1):=by rw [Nat.pow_succ];omega
 omega
theorem pow5 {k:Nat} (h:k≤5):1001 ^ k≤1005010010005001:=Nat.le_trans (Nat.pow_le_pow_right (by decide) h) (by decide)
theorem pv_le {x:Int} (hx:x.natAbs≤1001):∀(l:List Int),(∀c∈l,c.natAbs≤1000)→(pv l x).natAbs+1≤1001 ^ l.length
 | [],_=>by simp [pv]
 | c :: l,h=>(vb (pv_le hx l fun d hd=>h d (by simp [hd])) hx (h c (by simp))).2
def cnd (x:Int):Int→List Int→List Prop
 | _,[]=>[]
 | v,c :: l=>(inR IntKind.i64 (v*x)=true) :: (inR IntKind.i64 (v*x+c)=true) :: cnd x (v*x+c) l
theorem zln {x:Int}:∀ {l:List Int} {v:Int} {k:Nat},v.natAbs+1≤1001 ^ k→x.natAbs≤1001→k+l.length≤5→(∀c∈l,c.natAbs≤1000)→AllC (cnd x v l)
 | [],_,_,_,_,_,_=>.nil
 | c :: l,v,k,hv,hx,hk,h=>by
  simp only [List.length_cons] at hk
  obtain ⟨h1,h2⟩:=vb hv hx (h c (by simp))
  have:=pow5 (k:=k+1) (by omega)
  exact .cons (inR64.2 (by omega)) (.cons (inR64.2 (by omega)) (zln h2 hx (by omega) fun d hd=>h d (by simp [hd])))
def pPv (p:List Int) (x:Int):Prop:=2≤p.length∧p.length≤5∧(∀c∈p,c.natAbs≤1000)∧x.natAbs≤1001
theorem fval_fc (p:List Int) (x:Int) (h:pPv p x):FC Tryz.prog 157 [.sq p,.lit (.int .i64 x)] (.lit (.int .i64 (pv p x))):=by
 obtain ⟨h2,h5,ha,hx⟩:=h
 match p,h2,h5,ha,hx with
 | [a,b],_,_,ha,hx=>exact mZ okG (fv2_0 a b x) ((zln (l:=[b,a]) (k:=0) (by decide) hx (by simp) (fun c hc=>ha c (by simp at hc ⊢;omega))))
 | [a,b,c],_,_,ha,hx=>exact mZ okG (fv3_0 a b c x) ((zln (l:=[c,b,a]) (k:=0) (by decide) hx (by simp) (fun c hc=>ha c (by simp at hc ⊢;omega))))
 | [a,b,c,d],_,_,ha,hx=>exact mZ okG (fv4_0 a b c d x) ((zln (l:=[d,c,b,a]) (k:=0) (by decide) hx (by simp) (fun c hc=>ha c (by simp at hc ⊢;omega))))
 | [a,b,c,d,e],_,_,ha,hx=>exact mZ okG (fv5_0 a b c d e x) ((zln (l:=[e,d,c,b,a]) (k:=0) (by decide) hx (by simp) (fun c hc=>ha c (by simp at hc ⊢;omega))))
 | _ :: _ :: _ :: _ :: _ :: _ :: _,_,h5,_,_=>simp at h5
theorem zgB {l:List Int} {n:Nat} (h:n<l.length):l.drop n=l.getD n 0 :: l.drop (n+1):=by
 rw [List.drop_eq_getElem_cons h];simp [List.getD,h]
theorem zg7 (p:List Int) (x:Int) (hp:p.length≤5) (ha:∀c∈p,c.natAbs≤1000) (hx:x.natAbs≤1001):∀(n:Nat),n≤p.length→rv_L0 (zi1 p x (pv (p.drop n) x) ((n:Int)-1)) (Ex.exit 0,zk1 p x (pv p x) (-1))
 | 0,_=>by have:=rv_L0_0_1 p x (pv (p.drop 0) x) (((0:Nat):Int)-1) (by simp);exact this
 | n + 1,hn=>by
  have hlt:n<p.length:=by omega
  have e1:((n+1:Nat):Int)-1=(n:Int):=by omega
  have hv:=pv_le hx (p.drop (n+1)) fun c hc=>ha c (List.mem_of_mem_drop hc)
  have hg:(p.getD n 0).natAbs≤1000:=by
   rw [List.getD_eq_getElem?_getD,List.getElem?_eq_getElem hlt];exact ha _ (List.getElem_mem hlt)
  obtain ⟨b1,b2⟩:=vb hv hx hg
  have hk:(p.drop (n+1)).length+1≤5:=by simp;omega
  have:=pow5 hk
  have ih:=zg7 p x hp ha hx n (by omega)
  rw [zgB hlt] at ih
  rw [e1]
  refine rv_L0_0_0 p x _ _ (by omega) (by omega) (by omega) (by omega) (by omega) ?_ (by omega) ?_
  ·rw [Int.toNat_natCast];omega
  ·rw [Int.toNat_natCast];exact ih
theorem rvalue_fc (p:List Int) (x:Int) (h:pPv p x):FC Tryz.prog 147 [.sq p,.lit (.int .i64 x)] (.lit (.int .i64 (pv p x))):=by
 have l:=zg7 p x h.2.1 h.2.2.1 h.2.2.2 p.length (Nat.le_refl _)
 rw [List.drop_length] at l
 exact rv_0 p x (pv p x) (-1) (by have:=h.2.1;omega) l
def ctrH:Ctr:=(157,cLI pPv (fun p x=>.lit (.int .i64 (pv p x)))) :: (147,cLI pPv (fun p x=>.lit (.int .i64 (pv p x)))) :: ctrG
theorem zka:∀p∈ctrH,kZ Tryz.prog p.1 p.2:=CAll.cons (cLI_ok fval_fc) (CAll.cons (cLI_ok rvalue_fc) zn9)
theorem okH:(dZ Tryz.prog ctrH bw).OK:=TZ zka
def cIP (p:List Int→Int→Prop) (r:List Int→Int→AV) (args:List AV):M AV:=match args with
 | [.lit (.int .i64 n),.pd [.sq l] 0]=>do
  tell (p l n)
  M.pure (r l n)
 | _=>fail 218
theorem cIP_ok {P:Program} {f:FuncId} {p:List Int→Int→Prop} {r:List Int→Int→AV} (h:∀l n,p l n→FC P f [.lit (.int .i64 n),.pd [.sq l] 0] (r l n)):kZ P f (cIP p r):=by
 intro args _
 unfold cIP
 split
 ·exact Spec.bind (Spec.tell fun hp=>Spec.pure' (h _ _ hp))
 ·exact Spec.fail
noncomputable section
theorem d1_0 (x:Int) (p:List Int) (h1:pPv p x):FC Tryz.prog 156 [.lit (.int .i64 x),.pd [.sq p] 0] (.lit (.bool (pv p x==0))):=eZ okH 60 [] (.c h1<|.e) [1]
theorem d2_0 (x:Int) (p:List Int) (h1:0<(p.length:Int)) (h2:0<p.length) (h3:¬(x=0)) (h4:r64 (Int.tdiv (p.getD 0 0) x)) (h5:x≠Int.tdiv (p.getD 0 0) x) (h6:1<(p.length:Int)) (h7:1<p.length) (h8:3<(p.length:Int)) (h9:3<p.length) (h10:r64 (x*p.getD 3 0)) (h11:r64 (p.getD 1 0-x*p.getD 3 0)) (h12:r64 (Int.tdiv (p.getD 0 0) x-x)) (h13:¬(Int.tdiv (p.getD 0 0) x-x=0)) (h14:r64 (Int.tdiv (p.getD 1 0-x*p.getD 3 0) (Int.tdiv (p.getD 0 0) x-x))) (h15:Int.tmod (p.getD 1 0-x*p.getD 3 0) (Int.tdiv (p.getD 0 0) x-x)=0) (h16:r64 (x+Int.tdiv (p.getD 0 0) x)) (h17:r64 (p.getD 3 0-Int.tdiv (p.getD 1 0-x*p.getD 3 0) (Int.tdiv (p.getD 0 0) x-x))) (h18:r64 (Int.tdiv (p.getD 1 0-x*p.getD 3 0) (Int.tdiv (p.getD 0 0) x-x)*(p.getD 3 0-Int.tdiv (p.getD 1 0-x*p.getD 3 0) (Int.tdiv (p.getD 0 0) x-x)))) (h19:r64 (x+Int.tdiv (p.getD 0 0) x+Int.tdiv (p.getD 1 0-x*p.getD 3 0) (Int.tdiv (p.getD 0 0) x-x)*(p.getD 3 0-Int.tdiv (p.getD 1 0-x*p.getD 3 0) (Int.tdiv (p.getD 0 0) x-x)))) (h20:2<(p.length:Int)) (h21:2<p.length):FC Tryz.prog 158 [.lit (.int .i64 x),.pd [.sq p] 0] (.lit (.bool (x+Int.tdiv (p.getD 0 0) x+Int.tdiv (p.getD 1 0-x*p.getD 3 0) (Int.tdiv (p.getD 0 0) x-x)*(p.getD 3 0-Int.tdiv (p.getD 1 0-x*p.getD 3 0) (Int.tdiv (p.getD 0 0) x-x))==p.getD 2 0))):=eZ okH 60 [1,1] (.t h1<|.t h2<|.y h3<|.i h4<|.c (bne_iff_ne.2 h5)<|.t h6<|.t h7<|.t h8<|.t h9<|.i h10<|.i h11<|.i h12<|.y h13<|.i h14<|.c (beq_iff_eq.2 h15)<|.i h16<|.i h17<|.i h18<|.i h19<|.t h20<|.t h21<|.e) [0,1,2,3,4,5,0,6,7,0,8,9,10,11,12,13,14,12,13,15,16,0,8,9,17,18,19,0,20,21]
theorem d2_1 (x:Int) (p:List Int) (h1:0<(p.length:Int)) (h2:0<p.length) (h3:¬(x=0)) (h4:r64 (Int.tdiv (p.getD 0 0) x)) (h5:x≠Int.tdiv (p.getD 0 0) x) (h6:1<(p.length:Int)) (h7:1<p.length) (h8:3<(p.length:Int)) (h9:3<p.length) (h10:r64 (x*p.getD 3 0)) (h11:r64 (p.getD 1 0-x*p.getD 3 0)) (h12:r64 (Int.tdiv (p.getD 0 0) x-x)) (h13:¬(Int.tdiv (p.getD 0 0) x-x=0)) (h14:r64 (Int.tdiv (p.getD 1 0-x*p.getD 3 0) (Int.tdiv (p.getD 0 0) x-x))) (h15:Int.tmod (p.getD 1 0-x*p.getD 3 0) (Int.tdiv (p.getD 0 0) x-x)≠0):FC Tryz.prog 158 [.lit (.int .i64 x),.pd [.sq p] 0] (.ff):=eZ okH 60 [1,0] (.t h1<|.t h2<|.y h3<|.i h4<|.c (bne_iff_ne.2 h5)<|.t h6<|.t h7<|.t h8<|.t h9<|.i h10<|.i h11<|.i h12<|.y h13<|.i h14<|.c (beq_false_of_ne h15)<|.e) [0,1,2,3,4,5,0,6,7,0,8,9,10,11,12,13,14,12,13,15]
theorem d2_2 (x:Int) (p:List Int) (h1:0<(p.length:Int)) (h2:0<p.length) (h3:¬(x=0)) (h4:r64 (Int.tdiv (p.getD 0 0) x)) (h5:x=Int.tdiv (p.getD 0 0) x) (h6:1<(p.length:Int)) (h7:1<p.length) (h8:3<(p.length:Int)) (h9:3<p.length) (h10:r64 (x*p.getD 3 0)) (h11:p.getD 1 0≠x*p.getD 3 0):FC Tryz.prog 158 [.lit (.int .i64 x),.pd [.sq p] 0] (.ff):=eZ okH 60 [0,1] (.t h1<|.t h2<|.y h3<|.i h4<|.c (bne_eq_false_iff_eq.2 h5)<|.t h6<|.t h7<|.t h8<|.t h9<|.i h10<|.c (bne_iff_ne.2 h11)<|.e) [0,1,2,3,4,5,0,6,7,0,8,9,10,11]
abbrev zlM (s:St) (r:Ex × St):Prop:=Loops 0 Tryz.prog (lZ Tryz.prog 158 0) s r
abbrev zd5 (a:Int) (b:List Int) (c:Int):St:=⟨sp 83 [(0,aI a),(1,.pd [.sq b] 0),(7,aI c)],[],[]⟩
abbrev zkd (a:Int) (b:List Int):St:=⟨sp 83 [(3,.tt)],[],[]⟩
abbrev zke (a:Int) (b:List Int) (c:Int):St:=⟨sp 83 [(0,aI a),(1,.pd [.sq b] 0),(7,aI c)],[],[]⟩
theorem d2_L0_0_0 (a:Int) (b:List Int) (d:Int) (h1:d≤3000) (h2:r64 (d*d)) (h3:3<(b.length:Int)) (h4:3<b.length) (h5:r64 (b.getD 3 0*d)) (h6:r64 (d*d-b.getD 3 0*d)) (h7:2<(b.length:Int)) (h8:2<b.length) (h9:r64 (d*d-b.getD 3 0*d+b.getD 2 0)) (h10:r64 (2*a)) (h11:r64 (d*d-b.getD 3 0*d+b.getD 2 0-2*a)) (h12:d*d-b.getD 3 0*d+b.getD 2 0-2*a=0):zlM (zd5 a b d) (Ex.ret,(zkd a b)):=Loops.fin (LS.at okH 60 [] [3] [] [1,1] (.t h1<|.i h2<|.t h3<|.t h4<|.i h5<|.i h6<|.t h7<|.t h8<|.i h9<|.i h10<|.i h11<|.c (beq_iff_eq.2 h12)<|.e) [1,2,0,3,4,5,6,0,7,8,9,10,11,12]) (fun h=>nomatch h)
theorem d2_L0_0_1 (a:Int) (b:List Int) (d:Int) (h1:d≤3000) (h2:r64 (d*d)) (h3:3<(b.length:Int)) (h4:3<b.length) (h5:r64 (b.getD 3 0*d)) (h6:r64 (d*d-b.getD 3 0*d)) (h7:2<(b.length:Int)) (h8:2<b.length) (h9:r64 (d*d-b.getD 3 0*d+b.getD 2 0)) (h10:r64 (2*a)) (h11:r64 (d*d-b.getD 3 0*d+b.getD 2 0-2*a)) (h12:d*d-b.getD 3 0*d+b.getD 2 0-2*a≠0) (h13:r64 (d+1)) {r:Ex × St} (k:zlM (zd5 a b (d+1)) r):zlM (zd5 a b d) r:=Loops.go (LS.at okH 60 [] [0,1,7] [] [1,0] (.t h1<|.i h2<|.t h3<|.t h4<|.i h5<|.i h6<|.t h7<|.t h8<|.i h9<|.i h10<|.i h11<|.c (beq_false_of_ne h12)<|.i h13<|.e) [1,2,0,3,4,5,6,0,7,8,9,10,11,12,13]) k
theorem d2_L0_0_2 (a:Int) (b:List Int) (c:Int) (h1:¬(c≤3000)):zlM (zd5 a b c) (Ex.exit 0,(zke a b c)):=Loops.fin (LS.at okH 60 [] [0,1,7] [] [0] (.f h1<|.e) [1]) (fun h=>nomatch h)
theorem d2_3 (x:Int) (p:List Int) (h1:0<(p.length:Int)) (h2:0<p.length) (h3:¬(x=0)) (h4:r64 (Int.tdiv (p.getD 0 0) x)) (h5:x=Int.tdiv (p.getD 0 0) x) (h6:1<(p.length:Int)) (h7:1<p.length) (h8:3<(p.length:Int)) (h9:3<p.length) (h10:r64 (x*p.getD 3 0)) (h11:p.getD 1 0=x*p.getD 3 0) (hL1:zlM (zd5 x p (-3000)) (Ex.ret,(zkd x p))):FC Tryz.prog 158 [.lit (.int .i64 x),.pd [.sq p] 0] (.tt):=eZ okH 60 [0,0] (.t h1<|.t h2<|.y h3<|.i h4<|.c (bne_eq_false_iff_eq.2 h5)<|.t h6<|.t h7<|.t h8<|.t h9<|.i h10<|.c (bne_eq_false_iff_eq.2 h11)<|.v [0,1,7] [] hL1<|.e) [0,1,2,3,4,5,0,6,7,0,8,9,10,11,0,12]
theorem d2_4 (x:Int) (p:List Int) (a:Int) (h1:0<(p.length:Int)) (h2:0<p.length) (h3:¬(x=0)) (h4:r64 (Int.tdiv (p.getD 0 0) x)) (h5:x=Int.tdiv (p.getD 0 0) x) (h6:1<(p.length:Int)) (h7:1<p.length) (h8:3<(p.length:Int)) (h9:3<p.length) (h10:r64 (x*p.getD 3 0)) (h11:p.getD 1 0=x*p.getD 3 0) (hL1:zlM (zd5 x p (-3000)) (Ex.exit 0,(zke x p a))):FC Tryz.prog 158 [.lit (.int .i64 x),.pd [.sq p] 0] (.ff):=eZ okH 60 [0,0] (.t h1<|.t h2<|.y h3<|.i h4<|.c (bne_eq_false_iff_eq.2 h5)<|.t h6<|.t h7<|.t h8<|.t h9<|.i h10<|.c (bne_eq_false_iff_eq.2 h11)<|.v [0,1,7] [] hL1<|.e) [0,1,2,3,4,5,0,6,7,0,8,9,10,11,0,12]
end
theorem zl3 {a b:Int} {A B:Nat} (ha:a.natAbs≤A) (hb:b.natAbs≤B):(a*b).natAbs≤A*B:=by
 rw [Int.natAbs_mul];exact Nat.mul_le_mul ha hb
theorem tdivB (a b:Int):(Int.tdiv a b).natAbs≤a.natAbs:=by
 rw [Int.natAbs_tdiv];exact Nat.div_le_self _ _
theorem zfb {p:List Int} (h:∀c∈p,c.natAbs≤1000) (i:Nat):(p.getD i 0).natAbs≤1000:=by
 rw [List.getD_eq_getElem?_getD]
 by_cases hi:i<p.length
 ·rw [List.getElem?_eq_getElem hi];exact h _ (List.getElem_mem hi)
 ·rw [List.getElem?_eq_none (by omega)];decide
def Q2 (p:List Int) (b:Int):Prop:=∃a:Int,b+Int.tdiv (p.getD 0 0) b+a*(p.getD 3 0-a)=p.getD 2 0∧a*Int.tdiv (p.getD 0 0) b+b*(p.getD 3 0-a)=p.getD 1 0
noncomputable def q2 (p:List Int) (b:Int):Bool:=@decide (Q2 p b) (Classical.propDecidable _)
theorem q2_t {p:List Int} {b:Int} (h:Q2 p b):q2 p b=true:=by unfold q2;exact @decide_eq_true _ (Classical.propDecidable _) h
theorem zr2 {p:List Int} {b:Int} (h:¬Q2 p b):q2 p b=false:=by unfold q2;exact @decide_eq_false _ (Classical.propDecidable _) h
theorem q2_iff {p:List Int} {b:Int}:q2 p b=true↔Q2 p b:=by unfold q2;exact @decide_eq_true_iff _ (Classical.propDecidable _)
def pD2 (p:List Int) (b:Int):Prop:=p.length=5∧(∀c∈p,c.natAbs≤1000)∧b≠0∧b.natAbs≤1000
theorem d2_loop {p:List Int} {b:Int} (h:pD2 p b):∀(n:Nat) (t:Int),t+n=3001→-3000≤t →
 (∃a,t≤a∧a≤3000∧a*a-p.getD 3 0*a+p.getD 2 0-2*b=0)∧zlM (zd5 b p t) (Ex.ret,zkd b p) ∨
 (¬ ∃a,t≤a∧a≤3000∧a*a-p.getD 3 0*a+p.getD 2 0-2*b=0)∧zlM (zd5 b p t) (Ex.exit 0,zke b p 3001)
 | 0,t,ht,_=>by
  obtain rfl:t=3001:=by omega
  exact .inr ⟨fun ⟨a,h1,h2,_⟩=>by omega,d2_L0_0_2 b p 3001 (by omega)⟩
 | n + 1,t,ht,hm=>by
  obtain ⟨hl,ha,h0,hb⟩:=h
  have g3:=zfb ha 3
  have g2:=zfb ha 2
  have b1:=zl3 (a:=t) (b:=t) (A:=3000) (B:=3000) (by omega) (by omega)
  have b2:=zl3 (a:=p.getD 3 0) (b:=t) (A:=1000) (B:=3000) g3 (by omega)
  by_cases e:t*t-p.getD 3 0*t+p.getD 2 0-2*b=0
  ·exact .inl ⟨⟨t,by omega,by omega,e⟩,d2_L0_0_0 b p t (by omega) (by omega) (by omega) (by omega) (by omega) (by omega) (by omega) (by omega) (by omega) (by omega) (by omega) e⟩
  ·have go:=fun r=>@d2_L0_0_1 b p t (by omega) (by omega) (by omega) (by omega) (by omega) (by omega) (by omega) (by omega) (by omega) (by omega) (by omega) e (by omega) r
   rcases d2_loop ⟨hl,ha,h0,hb⟩ n (t+1) (by omega) (by omega) with ⟨⟨a,h1,h2,h3⟩,k⟩ | ⟨hn,k⟩
   ·exact .inl ⟨⟨a,by omega,h2,h3⟩,go _ k⟩
   ·refine .inr ⟨fun ⟨a,h1,h2,h3⟩=>?_,go _ k⟩
    rcases Int.lt_or_eq_of_le h1 with h | h
    ·exact hn ⟨a,by omega,h2,h3⟩
    ·subst h;exact e h3
theorem znl (p:List Int) (x:Int) (h:pPv p x):FC Tryz.prog 156 [.lit (.int .i64 x),.pd [.sq p] 0] (.lit (.bool (pv p x==0))):=d1_0 x p h
theorem znm (p:List Int) (b:Int) (h:pD2 p b):FC Tryz.prog 158 [.lit (.int .i64 b),.pd [.sq p] 0] (.lit (.bool (q2 p b))):=by
  have h':=h
  obtain ⟨hl,ha,h0,hb⟩:=h'
  have g0:=zfb ha 0
  have g1:=zfb ha 1
  have g2:=zfb ha 2
  have g3:=zfb ha 3
  have bd:=tdivB (p.getD 0 0) b
  have bm:=zl3 hb g3
  by_cases e:b=Int.tdiv (p.getD 0 0) b
  · by_cases e1:p.getD 1 0=b*p.getD 3 0
    · rcases d2_loop h 6001 (-3000) (by omega) (by omega) with ⟨⟨a,h1,h2,h3⟩,k⟩ | ⟨hn,k⟩
      · have hq:Q2 p b:=⟨a,by rw [← e];grind,by rw [← e];grind⟩
        rw [q2_t hq]
        exact(d2_3 b p (by omega) (by omega) h0 (by omega) e (by omega) (by omega) (by omega) (by omega) (by omega) e1 k).res fun E v hv=>by cases hv;exact .lit _
      · have hq:¬Q2 p b:=fun ⟨a,h1,h2⟩=>by
          rw [← e] at h1 h2
          by_cases hr:-3000≤a∧a≤3000
          · exact hn ⟨a,hr.1,hr.2,by grind⟩
          · have k1:(a*(p.getD 3 0-a)).natAbs≤3000:=by omega
            rw [Int.natAbs_mul] at k1
            have k2:3001*2001≤a.natAbs*(p.getD 3 0-a).natAbs:=Nat.mul_le_mul (by omega) (by omega)
            omega
        rw [zr2 hq]
        exact(d2_4 b p 3001 (by omega) (by omega) h0 (by omega) e (by omega) (by omega) (by omega) (by omega) (by omega) e1 k).res fun E v hv=>by cases hv;exact .lit _
    · have hq:¬Q2 p b:=fun ⟨a,h1,h2⟩=>by rw [← e] at h2;grind
      rw [zr2 hq]
      exact(d2_2 b p (by omega) (by omega) h0 (by omega) e (by omega) (by omega) (by omega) (by omega) (by omega) e1).res fun E v hv=>by cases hv;exact .lit _
  · have e0:¬(Int.tdiv (p.getD 0 0) b-b=0):=by omega
    have bt:=tdivB (p.getD 1 0-b*p.getD 3 0) (Int.tdiv (p.getD 0 0) b-b)
    have hm:=Int.mul_tdiv_add_tmod (p.getD 1 0-b*p.getD 3 0) (Int.tdiv (p.getD 0 0) b-b)
    by_cases er:Int.tmod (p.getD 1 0-b*p.getD 3 0) (Int.tdiv (p.getD 0 0) b-b)=0
    · have bp:=zl3 (a:=Int.tdiv (p.getD 1 0-b*p.getD 3 0) (Int.tdiv (p.getD 0 0) b-b)) (b:=p.getD 3 0-Int.tdiv (p.getD 1 0-b*p.getD 3 0) (Int.tdiv (p.getD 0 0) b-b)) (A:=1001000) (B:=1002000) (by omega) (by omega)
      have k:=d2_0 b p (by omega) (by omega) h0 (by omega) e (by omega) (by omega) (by omega) (by omega) (by omega) (by omega) (by omega) e0 (by omega) er (by omega) (by omega) (by omega) (by omega) (by omega) (by omega)
      rw [er] at hm
      generalize Int.tdiv (p.getD 1 0-b*p.getD 3 0) (Int.tdiv (p.getD 0 0) b-b)=a0 at *
      have hq:q2 p b=(b+Int.tdiv (p.getD 0 0) b+a0*(p.getD 3 0-a0)==p.getD 2 0):=by
        rw [Bool.eq_iff_iff,q2_iff,beq_iff_eq]
        constructor
        · rintro ⟨a,h1,h2⟩
          have:(Int.tdiv (p.getD 0 0) b-b)*a=(Int.tdiv (p.getD 0 0) b-b)*a0:=by grind
          rw [← Int.eq_of_mul_eq_mul_left e0 this];exact h1
        · intro h1
          exact ⟨a0,h1,by grind⟩
      rw [hq];exact k
    · have hq:¬Q2 p b:=fun ⟨a,h1,h2⟩=>by
        apply er
        apply Int.tmod_eq_zero_of_dvd
        exact ⟨a,by grind⟩
      rw [zr2 hq]
      exact(d2_1 b p (by omega) (by omega) h0 (by omega) e (by omega) (by omega) (by omega) (by omega) (by omega) (by omega) (by omega) e0 (by omega) er).res fun E v hv=>by cases hv;exact .lit _
noncomputable def ctrH2:Ctr:=(156,cIP pPv (fun p x=>.lit (.bool (pv p x==0)))) :: (158,cIP pD2 (fun p x=>.lit (.bool (q2 p x)))) :: ctrH
theorem ctrH2_all:∀p∈ctrH2,kZ Tryz.prog p.1 p.2:=CAll.cons (cIP_ok znl) (CAll.cons (cIP_ok znm) zka)
theorem zbL:(dZ Tryz.prog ctrH2 bw).OK:=TZ ctrH2_all
noncomputable section
theorem dv_0 (p:List Int) (h1:r64 ((p.length:Int)-1)) (h2:(p.length:Int)-1=1):FC Tryz.prog 114 [.sq p] (.ff):=eZ zbL 60 [1] (.i h1<|.c (beq_iff_eq.2 h2)<|.e) [1,2]
theorem dv_1 (p:List Int) (h1:r64 ((p.length:Int)-1)) (h2:(p.length:Int)-1≠1) (h3:0<(p.length:Int)) (h4:0<p.length) (h5:p.getD 0 0=0):FC Tryz.prog 114 [.sq p] (.tt):=eZ zbL 60 [0,1] (.i h1<|.c (beq_false_of_ne h2)<|.t h3<|.t h4<|.c (beq_iff_eq.2 h5)<|.e) [1,2,0,3,4,5]
abbrev zbm (s:St) (r:Ex × St):Prop:=Loops 1 Tryz.prog (lZ Tryz.prog 155 0) s r
abbrev zav (a:Int) (b:List Int) (c:Int):St:=⟨sp 29 [(0,aI a),(1,.fn 156 [.ref 0 0]),(5,aI c)],[.flat [.sq b] true],[]⟩
abbrev zcV (a:Int) (b:List Int) (c:Int):St:=⟨sp 29 [(0,aI a),(1,.fn 156 [.ref 0 0]),(5,aI c)],[.flat [.sq b] false],[]⟩
abbrev zdm (a:Int) (b:List Int):St:=⟨sp 29 [(4,.tt)],[.flat [.sq b] false],[]⟩
abbrev zdn (a:Int) (b:List Int) (c:Int):St:=⟨sp 29 [(0,aI a),(1,.fn 156 [.ref 0 0]),(5,aI c)],[.flat [.sq b] true],[]⟩
abbrev zdo (a:Int) (b:List Int) (c:Int):St:=⟨sp 29 [(0,aI a),(1,.fn 156 [.ref 0 0]),(5,aI c)],[.flat [.sq b] false],[]⟩
theorem dv_L0_0_0 (a:Int) (b:List Int) (d:Int) (h1:r64 (0-a)) (h2:d≤if 0-a > a then 0-a else a) (h3:¬(d=0)) (h4:Int.tmod a d=0) (h5:pPv b d) (h6:pv b d=0):zbm (zav a b d) (Ex.ret,(zdm a b)):=Loops.fin (LS.at zbL 60 [] [4] [] [1,1,1] (.i h1<|.t h2<|.y h3<|.c (beq_iff_eq.2 h4)<|.c h5<|.c (beq_iff_eq.2 h6)<|.e) [1,2,3,4,5,6]) (fun h=>nomatch h)
theorem dv_L0_0_1 (a:Int) (b:List Int) (d:Int) (h1:r64 (0-a)) (h2:d≤if 0-a > a then 0-a else a) (h3:¬(d=0)) (h4:Int.tmod a d=0) (h5:pPv b d) (h6:pv b d≠0) (h7:r64 (0-d)) (h8:pPv b (0-d)) (h9:pv b (0-d)=0):zbm (zav a b d) (Ex.ret,(zdm a b)):=Loops.fin (LS.at zbL 60 [] [4] [] [1,1,0,1] (.i h1<|.t h2<|.y h3<|.c (beq_iff_eq.2 h4)<|.c h5<|.c (beq_false_of_ne h6)<|.i h7<|.c h8<|.c (beq_iff_eq.2 h9)<|.e) [1,2,3,4,5,6,7,8,9]) (fun h=>nomatch h)
theorem dv_L0_0_2 (a:Int) (b:List Int) (d:Int) (h1:r64 (0-a)) (h2:d≤if 0-a > a then 0-a else a) (h3:¬(d=0)) (h4:Int.tmod a d=0) (h5:pPv b d) (h6:pv b d≠0) (h7:r64 (0-d)) (h8:pPv b (0-d)) (h9:pv b (0-d)≠0) (h10:r64 (d+1)) {r:Ex × St} (k:zbm (zcV a b (d+1)) r):zbm (zav a b d) r:=Loops.go (LS.at zbL 60 [] [0,1,5] [] [1,1,0,0] (.i h1<|.t h2<|.y h3<|.c (beq_iff_eq.2 h4)<|.c h5<|.c (beq_false_of_ne h6)<|.i h7<|.c h8<|.c (beq_false_of_ne h9)<|.i h10<|.e) [1,2,3,4,5,6,7,8,9,10]) k
theorem dv_L0_0_3 (a:Int) (b:List Int) (d:Int) (h1:r64 (0-a)) (h2:d≤if 0-a > a then 0-a else a) (h3:¬(d=0)) (h4:Int.tmod a d≠0) (h5:r64 (d+1)) {r:Ex × St} (k:zbm (zav a b (d+1)) r):zbm (zav a b d) r:=Loops.go (LS.at zbL 60 [] [0,1,5] [] [1,0] (.i h1<|.t h2<|.y h3<|.c (beq_false_of_ne h4)<|.i h5<|.e) [1,2,3,4,5]) k
theorem dv_L0_0_4 (a:Int) (b:List Int) (c:Int) (h1:r64 (0-a)) (h2:¬(c≤if 0-a > a then 0-a else a)):zbm (zav a b c) (Ex.exit 0,(zdn a b c)):=Loops.fin (LS.at zbL 60 [] [0,1,5] [] [0] (.i h1<|.f h2<|.e) [1,2]) (fun h=>nomatch h)
theorem dv_L0_1_0 (a:Int) (b:List Int) (d:Int) (h1:r64 (0-a)) (h2:d≤if 0-a > a then 0-a else a) (h3:¬(d=0)) (h4:Int.tmod a d=0) (h5:pPv b d) (h6:pv b d=0):zbm (zcV a b d) (Ex.ret,(zdm a b)):=Loops.fin (LS.at zbL 60 [] [4] [] [1,1,1] (.i h1<|.t h2<|.y h3<|.c (beq_iff_eq.2 h4)<|.c h5<|.c (beq_iff_eq.2 h6)<|.e) [1,2,3,4,5,6]) (fun h=>nomatch h)
theorem dv_L0_1_1 (a:Int) (b:List Int) (d:Int) (h1:r64 (0-a)) (h2:d≤if 0-a > a then 0-a else a) (h3:¬(d=0)) (h4:Int.tmod a d=0) (h5:pPv b d) (h6:pv b d≠0) (h7:r64 (0-d)) (h8:pPv b (0-d)) (h9:pv b (0-d)=0):zbm (zcV a b d) (Ex.ret,(zdm a b)):=Loops.fin (LS.at zbL 60 [] [4] [] [1,1,0,1] (.i h1<|.t h2<|.y h3<|.c (beq_iff_eq.2 h4)<|.c h5<|.c (beq_false_of_ne h6)<|.i h7<|.c h8<|.c (beq_iff_eq.2 h9)<|.e) [1,2,3,4,5,6,7,8,9]) (fun h=>nomatch h)
theorem dv_L0_1_2 (a:Int) (b:List Int) (d:Int) (h1:r64 (0-a)) (h2:d≤if 0-a > a then 0-a else a) (h3:¬(d=0)) (h4:Int.tmod a d=0) (h5:pPv b d) (h6:pv b d≠0) (h7:r64 (0-d)) (h8:pPv b (0-d)) (h9:pv b (0-d)≠0) (h10:r64 (d+1)) {r:Ex × St} (k:zbm (zcV a b (d+1)) r):zbm (zcV a b d) r:=Loops.go (LS.at zbL 60 [] [0,1,5] [] [1,1,0,0] (.i h1<|.t h2<|.y h3<|.c (beq_iff_eq.2 h4)<|.c h5<|.c (beq_false_of_ne h6)<|.i h7<|.c h8<|.c (beq_false_of_ne h9)<|.i h10<|.e) [1,2,3,4,5,6,7,8,9,10]) k
theorem dv_L0_1_3 (a:Int) (b:List Int) (d:Int) (h1:r64 (0-a)) (h2:d≤if 0-a > a then 0-a else a) (h3:¬(d=0)) (h4:Int.tmod a d≠0) (h5:r64 (d+1)) {r:Ex × St} (k:zbm (zcV a b (d+1)) r):zbm (zcV a b d) r:=Loops.go (LS.at zbL 60 [] [0,1,5] [] [1,0] (.i h1<|.t h2<|.y h3<|.c (beq_false_of_ne h4)<|.i h5<|.e) [1,2,3,4,5]) k
theorem dv_L0_1_4 (a:Int) (b:List Int) (c:Int) (h1:r64 (0-a)) (h2:¬(c≤if 0-a > a then 0-a else a)):zbm (zcV a b c) (Ex.exit 0,(zdo a b c)):=Loops.fin (LS.at zbL 60 [] [0,1,5] [] [0] (.i h1<|.f h2<|.e) [1,2]) (fun h=>nomatch h)
theorem dv_2 (p:List Int) (h1:r64 ((p.length:Int)-1)) (h2:(p.length:Int)-1≠1) (h3:0<(p.length:Int)) (h4:0<p.length) (h5:p.getD 0 0≠0) (hL1:zbm (zav (p.getD 0 0) p (1)) (Ex.ret,(zdm (p.getD 0 0) p))):FC Tryz.prog 114 [.sq p] (.tt):=eZ zbL 60 [0,0] (.i h1<|.c (beq_false_of_ne h2)<|.t h3<|.t h4<|.c (beq_false_of_ne h5)<|.v [0,1,5] [] hL1<|.e) [1,2,0,3,4,5,0,3,4,0,6]
theorem dv_3 (p:List Int) (a:Int) (h1:r64 ((p.length:Int)-1)) (h2:(p.length:Int)-1≠1) (h3:0<(p.length:Int)) (h4:0<p.length) (h5:p.getD 0 0≠0) (hL1:zbm (zav (p.getD 0 0) p (1)) (Ex.exit 0,(zdn (p.getD 0 0) p a))) (h7:(p.length:Int)-1<4):FC Tryz.prog 114 [.sq p] (.ff):=eZ zbL 60 [0,0,1] (.i h1<|.c (beq_false_of_ne h2)<|.t h3<|.t h4<|.c (beq_false_of_ne h5)<|.v [0,1,5] [] hL1<|.t h7<|.e) [1,2,0,3,4,5,0,3,4,0,6,7]
abbrev zcn (s:St) (r:Ex × St):Prop:=Loops 1 Tryz.prog (lZ Tryz.prog 155 0) s r
abbrev zbs (a:Int) (b:List Int) (c:Int):St:=⟨sp 29 [(0,aI a),(1,.fn 158 [.ref 0 0]),(5,aI c)],[.flat [.sq b] true],[]⟩
abbrev zcW (a:Int) (b:List Int) (c:Int):St:=⟨sp 29 [(0,aI a),(1,.fn 158 [.ref 0 0]),(5,aI c)],[.flat [.sq b] false],[]⟩
abbrev zdp (a:Int) (b:List Int):St:=⟨sp 29 [(4,.tt)],[.flat [.sq b] false],[]⟩
abbrev zhi (a:Int) (b:List Int) (c:Int):St:=⟨sp 29 [(0,aI a),(1,.fn 158 [.ref 0 0]),(5,aI c)],[.flat [.sq b] true],[]⟩
abbrev zfq (a:Int) (b:List Int) (c:Int):St:=⟨sp 29 [(0,aI a),(1,.fn 158 [.ref 0 0]),(5,aI c)],[.flat [.sq b] false],[]⟩
theorem dv_L1_0_0 (a:Int) (b:List Int) (d:Int) (h1:r64 (0-a)) (h2:d≤if 0-a > a then 0-a else a) (h3:¬(d=0)) (h4:Int.tmod a d=0) (h5:pD2 b d) (h6:q2 b d=true):zcn (zbs a b d) (Ex.ret,(zdp a b)):=Loops.fin (LS.at zbL 60 [] [4] [] [1,1,1] (.i h1<|.t h2<|.y h3<|.c (beq_iff_eq.2 h4)<|.c h5<|.c h6<|.e) [1,2,3,4,5,6]) (fun h=>nomatch h)
theorem dv_L1_0_1 (a:Int) (b:List Int) (d:Int) (h1:r64 (0-a)) (h2:d≤if 0-a > a then 0-a else a) (h3:¬(d=0)) (h4:Int.tmod a d=0) (h5:pD2 b d) (h6:q2 b d=false) (h7:r64 (0-d)) (h8:pD2 b (0-d)) (h9:q2 b (0-d)=true):zcn (zbs a b d) (Ex.ret,(zdp a b)):=Loops.fin (LS.at zbL 60 [] [4] [] [1,1,0,1] (.i h1<|.t h2<|.y h3<|.c (beq_iff_eq.2 h4)<|.c h5<|.c h6<|.i h7<|.c h8<|.c h9<|.e) [1,2,3,4,5,6,7,8,9]) (fun h=>nomatch h)
theorem dv_L1_0_2 (a:Int) (b:List Int) (d:Int) (h1:r64 (0-a)) (h2:d≤if 0-a > a then 0-a else a) (h3:¬(d=0)) (h4:Int.tmod a d=0) (h5:pD2 b d) (h6:q2 b d=false) (h7:r64 (0-d)) (h8:pD2 b (0-d)) (h9:q2 b (0-d)=false) (h10:r64 (d+1)) {r:Ex × St} (k:zcn (zcW a b (d+1)) r):zcn (zbs a b d) r:=Loops.go (LS.at zbL 60 [] [0,1,5] [] [1,1,0,0] (.i h1<|.t h2<|.y h3<|.c (beq_iff_eq.2 h4)<|.c h5<|.c h6<|.i h7<|.c h8<|.c h9<|.i h10<|.e) [1,2,3,4,5,6,7,8,9,10]) k
theorem dv_L1_0_3 (a:Int) (b:List Int) (d:Int) (h1:r64 (0-a)) (h2:d≤if 0-a > a then 0-a else a) (h3:¬(d=0)) (h4:Int.tmod a d≠0) (h5:r64 (d+1)) {r:Ex × St} (k:zcn (zbs a b (d+1)) r):zcn (zbs a b d) r:=Loops.go (LS.at zbL 60 [] [0,1,5] [] [1,0] (.i h1<|.t h2<|.y h3<|.c (beq_false_of_ne h4)<|.i h5<|.e) [1,2,3,4,5]) k
theorem dv_L1_0_4 (a:Int) (b:List Int) (c:Int) (h1:r64 (0-a)) (h2:¬(c≤if 0-a > a then 0-a else a)):zcn (zbs a b c) (Ex.exit 0,(zhi a b c)):=Loops.fin (LS.at zbL 60 [] [0,1,5] [] [0] (.i h1<|.f h2<|.e) [1,2]) (fun h=>nomatch h)
theorem dv_L1_1_0 (a:Int) (b:List Int) (d:Int) (h1:r64 (0-a)) (h2:d≤if 0-a > a then 0-a else a) (h3:¬(d=0)) (h4:Int.tmod a d=0) (h5:pD2 b d) (h6:q2 b d=true):zcn (zcW a b d) (Ex.ret,(zdp a b)):=Loops.fin (LS.at zbL 60 [] [4] [] [1,1,1] (.i h1<|.t h2<|.y h3<|.c (beq_iff_eq.2 h4)<|.c h5<|.c h6<|.e) [1,2,3,4,5,6]) (fun h=>nomatch h)
theorem dv_L1_1_1 (a:Int) (b:List Int) (d:Int) (h1:r64 (0-a)) (h2:d≤if 0-a > a then 0-a else a) (h3:¬(d=0)) (h4:Int.tmod a d=0) (h5:pD2 b d) (h6:q2 b d=false) (h7:r64 (0-d)) (h8:pD2 b (0-d)) (h9:q2 b (0-d)=true):zcn (zcW a b d) (Ex.ret,(zdp a b)):=Loops.fin (LS.at zbL 60 [] [4] [] [1,1,0,1] (.i h1<|.t h2<|.y h3<|.c (beq_iff_eq.2 h4)<|.c h5<|.c h6<|.i h7<|.c h8<|.c h9<|.e) [1,2,3,4,5,6,7,8,9]) (fun h=>nomatch h)
theorem dv_L1_1_2 (a:Int) (b:List Int) (d:Int) (h1:r64 (0-a)) (h2:d≤if 0-a > a then 0-a else a) (h3:¬(d=0)) (h4:Int.tmod a d=0) (h5:pD2 b d) (h6:q2 b d=false) (h7:r64 (0-d)) (h8:pD2 b (0-d)) (h9:q2 b (0-d)=false) (h10:r64 (d+1)) {r:Ex × St} (k:zcn (zcW a b (d+1)) r):zcn (zcW a b d) r:=Loops.go (LS.at zbL 60 [] [0,1,5] [] [1,1,0,0] (.i h1<|.t h2<|.y h3<|.c (beq_iff_eq.2 h4)<|.c h5<|.c h6<|.i h7<|.c h8<|.c h9<|.i h10<|.e) [1,2,3,4,5,6,7,8,9,10]) k
theorem dv_L1_1_3 (a:Int) (b:List Int) (d:Int) (h1:r64 (0-a)) (h2:d≤if 0-a > a then 0-a else a) (h3:¬(d=0)) (h4:Int.tmod a d≠0) (h5:r64 (d+1)) {r:Ex × St} (k:zcn (zcW a b (d+1)) r):zcn (zcW a b d) r:=Loops.go (LS.at zbL 60 [] [0,1,5] [] [1,0] (.i h1<|.t h2<|.y h3<|.c (beq_false_of_ne h4)<|.i h5<|.e) [1,2,3,4,5]) k
theorem dv_L1_1_4 (a:Int) (b:List Int) (c:Int) (h1:r64 (0-a)) (h2:¬(c≤if 0-a > a then 0-a else a)):zcn (zcW a b c) (Ex.exit 0,(zfq a b c)):=Loops.fin (LS.at zbL 60 [] [0,1,5] [] [0] (.i h1<|.f h2<|.e) [1,2]) (fun h=>nomatch h)
theorem dv_4 (p:List Int) (a:Int) (h1:r64 ((p.length:Int)-1)) (h2:(p.length:Int)-1≠1) (h3:0<(p.length:Int)) (h4:0<p.length) (h5:p.getD 0 0≠0) (hL1:zbm (zav (p.getD 0 0) p (1)) (Ex.exit 0,(zdn (p.getD 0 0) p a))) (h7:¬((p.length:Int)-1<4)) (hL2:zcn (zbs (p.getD 0 0) p (1)) (Ex.ret,(zdp (p.getD 0 0) p))):FC Tryz.prog 114 [.sq p] (.tt):=eZ zbL 60 [0,0,0] (.i h1<|.c (beq_false_of_ne h2)<|.t h3<|.t h4<|.c (beq_false_of_ne h5)<|.v [0,1,5] [] hL1<|.f h7<|.v [0,1,5] [] hL2<|.e) [1,2,0,3,4,5,0,3,4,0,6,7,0,3,4,0,8]
theorem dv_5 (p:List Int) (a b:Int) (h1:r64 ((p.length:Int)-1)) (h2:(p.length:Int)-1≠1) (h3:0<(p.length:Int)) (h4:0<p.length) (h5:p.getD 0 0≠0) (hL1:zbm (zav (p.getD 0 0) p (1)) (Ex.exit 0,(zdn (p.getD 0 0) p a))) (h7:¬((p.length:Int)-1<4)) (hL2:zcn (zbs (p.getD 0 0) p (1)) (Ex.exit 0,(zhi (p.getD 0 0) p b))):FC Tryz.prog 114 [.sq p] (.ff):=eZ zbL 60 [0,0,0] (.i h1<|.c (beq_false_of_ne h2)<|.t h3<|.t h4<|.c (beq_false_of_ne h5)<|.v [0,1,5] [] hL1<|.f h7<|.v [0,1,5] [] hL2<|.e) [1,2,0,3,4,5,0,3,4,0,6,7,0,3,4,0,8]
theorem dv_6 (p:List Int) (a b:Int) (h1:r64 ((p.length:Int)-1)) (h2:(p.length:Int)-1≠1) (h3:0<(p.length:Int)) (h4:0<p.length) (h5:p.getD 0 0≠0) (hL1:zbm (zav (p.getD 0 0) p (1)) (Ex.exit 0,(zdn (p.getD 0 0) p a))) (h7:¬((p.length:Int)-1<4)) (hL2:zcn (zbs (p.getD 0 0) p (1)) (Ex.exit 0,(zfq (p.getD 0 0) p b))):FC Tryz.prog 114 [.sq p] (.ff):=eZ zbL 60 [0,0,0] (.i h1<|.c (beq_false_of_ne h2)<|.t h3<|.t h4<|.c (beq_false_of_ne h5)<|.v [0,1,5] [] hL1<|.f h7<|.v [0,1,5] [] hL2<|.e) [1,2,0,3,4,5,0,3,4,0,6,7,0,3,4,0,8]
theorem dv_7 (p:List Int) (a:Int) (h1:r64 ((p.length:Int)-1)) (h2:(p.length:Int)-1≠1) (h3:0<(p.length:Int)) (h4:0<p.length) (h5:p.getD 0 0≠0) (hL1:zbm (zav (p.getD 0 0) p (1)) (Ex.exit 0,(zdo (p.getD 0 0) p a))) (h7:(p.length:Int)-1<4):FC Tryz.prog 114 [.sq p] (.ff):=eZ zbL 60 [0,0,1] (.i h1<|.c (beq_false_of_ne h2)<|.t h3<|.t h4<|.c (beq_false_of_ne h5)<|.v [0,1,5] [] hL1<|.t h7<|.e) [1,2,0,3,4,5,0,3,4,0,6,7]
abbrev zg9 (s:St) (r:Ex × St):Prop:=Loops 1 Tryz.prog (lZ Tryz.prog 155 0) s r
abbrev zbN (a:Int) (b:List Int) (c:Int):St:=⟨sp 29 [(0,aI a),(1,.fn 158 [.ref 0 0]),(5,aI c)],[.flat [.sq b] false],[]⟩
abbrev zhj (a:Int) (b:List Int):St:=⟨sp 29 [(4,.tt)],[.flat [.sq b] false],[]⟩
abbrev zhk (a:Int) (b:List Int) (c:Int):St:=⟨sp 29 [(0,aI a),(1,.fn 158 [.ref 0 0]),(5,aI c)],[.flat [.sq b] false],[]⟩
theorem dv_L2_0_0 (a:Int) (b:List Int) (d:Int) (h1:r64 (0-a)) (h2:d≤if 0-a > a then 0-a else a) (h3:¬(d=0)) (h4:Int.tmod a d=0) (h5:pD2 b d) (h6:q2 b d=true):zg9 (zbN a b d) (Ex.ret,(zhj a b)):=Loops.fin (LS.at zbL 60 [] [4] [] [1,1,1] (.i h1<|.t h2<|.y h3<|.c (beq_iff_eq.2 h4)<|.c h5<|.c h6<|.e) [1,2,3,4,5,6]) (fun h=>nomatch h)
theorem dv_L2_0_1 (a:Int) (b:List Int) (d:Int) (h1:r64 (0-a)) (h2:d≤if 0-a > a then 0-a else a) (h3:¬(d=0)) (h4:Int.tmod a d=0) (h5:pD2 b d) (h6:q2 b d=false) (h7:r64 (0-d)) (h8:pD2 b (0-d)) (h9:q2 b (0-d)=true):zg9 (zbN a b d) (Ex.ret,(zhj a b)):=Loops.fin (LS.at zbL 60 [] [4] [] [1,1,0,1] (.i h1<|.t h2<|.y h3<|.c (beq_iff_eq.2 h4)<|.c h5<|.c h6<|.i h7<|.c h8<|.c h9<|.e) [1,2,3,4,5,6,7,8,9]) (fun h=>nomatch h)
theorem dv_L2_0_2 (a:Int) (b:List Int) (d:Int) (h1:r64 (0-a)) (h2:d≤if 0-a > a then 0-a else a) (h3:¬(d=0)) (h4:Int.tmod a d=0) (h5:pD2 b d) (h6:q2 b d=false) (h7:r64 (0-d)) (h8:pD2 b (0-d)) (h9:q2 b (0-d)=false) (h10:r64 (d+1)) {r:Ex × St} (k:zg9 (zbN a b (d+1)) r):zg9 (zbN a b d) r:=Loops.go (LS.at zbL 60 [] [0,1,5] [] [1,1,0,0] (.i h1<|.t h2<|.y h3<|.c (beq_iff_eq.2 h4)<|.c h5<|.c h6<|.i h7<|.c h8<|.c h9<|.i h10<|.e) [1,2,3,4,5,6,7,8,9,10]) k
theorem dv_L2_0_3 (a:Int) (b:List Int) (d:Int) (h1:r64 (0-a)) (h2:d≤if 0-a > a then 0-a else a) (h3:¬(d=0)) (h4:Int.tmod a d≠0) (h5:r64 (d+1)) {r:Ex × St} (k:zg9 (zbN a b (d+1)) r):zg9 (zbN a b d) r:=Loops.go (LS.at zbL 60 [] [0,1,5] [] [1,0] (.i h1<|.t h2<|.y h3<|.c (beq_false_of_ne h4)<|.i h5<|.e) [1,2,3,4,5]) k
theorem dv_L2_0_4 (a:Int) (b:List Int) (c:Int) (h1:r64 (0-a)) (h2:¬(c≤if 0-a > a then 0-a else a)):zg9 (zbN a b c) (Ex.exit 0,(zhk a b c)):=Loops.fin (LS.at zbL 60 [] [0,1,5] [] [0] (.i h1<|.f h2<|.e) [1,2]) (fun h=>nomatch h)
theorem dv_8 (p:List Int) (a:Int) (h1:r64 ((p.length:Int)-1)) (h2:(p.length:Int)-1≠1) (h3:0<(p.length:Int)) (h4:0<p.length) (h5:p.getD 0 0≠0) (hL1:zbm (zav (p.getD 0 0) p (1)) (Ex.exit 0,(zdo (p.getD 0 0) p a))) (h7:¬((p.length:Int)-1<4)) (hL2:zg9 (zbN (p.getD 0 0) p (1)) (Ex.ret,(zhj (p.getD 0 0) p))):FC Tryz.prog 114 [.sq p] (.tt):=eZ zbL 60 [0,0,0] (.i h1<|.c (beq_false_of_ne h2)<|.t h3<|.t h4<|.c (beq_false_of_ne h5)<|.v [0,1,5] [] hL1<|.f h7<|.v [0,1,5] [] hL2<|.e) [1,2,0,3,4,5,0,3,4,0,6,7,0,3,4,0,8]
theorem dv_9 (p:List Int) (a b:Int) (h1:r64 ((p.length:Int)-1)) (h2:(p.length:Int)-1≠1) (h3:0<(p.length:Int)) (h4:0<p.length) (h5:p.getD 0 0≠0) (hL1:zbm (zav (p.getD 0 0) p (1)) (Ex.exit 0,(zdo (p.getD 0 0) p a))) (h7:¬((p.length:Int)-1<4)) (hL2:zg9 (zbN (p.getD 0 0) p (1)) (Ex.exit 0,(zhk (p.getD 0 0) p b))):FC Tryz.prog 114 [.sq p] (.ff):=eZ zbL 60 [0,0,0] (.i h1<|.c (beq_false_of_ne h2)<|.t h3<|.t h4<|.c (beq_false_of_ne h5)<|.v [0,1,5] [] hL1<|.f h7<|.v [0,1,5] [] hL2<|.e) [1,2,0,3,4,5,0,3,4,0,6,7,0,3,4,0,8]
theorem re_0 (p:List Int) (h1:r64 ((p.length:Int)-1)) (h2:(p.length:Int)-1=1):FC Tryz.prog 102 [.sq p] (.ff):=eZ zbL 60 [1] (.i h1<|.c (beq_iff_eq.2 h2)<|.e) [1,2]
abbrev zjs (s:St) (r:Ex × St):Prop:=Loops 0 Tryz.prog (lZ Tryz.prog 102 0) s r
abbrev zc0 (a:List Int) (b c:Int):St:=⟨sp 78 [(0,.sq a),(3,aI b),(4,aI c)],[],[]⟩
abbrev zkQ (a:List Int) (b:Int):St:=⟨sp 78 [(2,.tt)],[],[]⟩
abbrev zfO (a:List Int) (b c:Int):St:=⟨sp 78 [(0,.sq a),(3,aI b),(4,aI c)],[],[]⟩
theorem re_L0_0_0 (a:List Int) (b d:Int) (h1:d≤1001) (h2:pPv a d) (h3:pv a d=0):zjs (zc0 a b d) (Ex.ret,(zkQ a b)):=Loops.fin (LS.at zbL 60 [] [2] [] [1,1] (.t h1<|.c h2<|.c (beq_iff_eq.2 h3)<|.e) [1,2,3]) (fun h=>nomatch h)
theorem re_L0_0_1 (a:List Int) (b d:Int) (h1:d≤1001) (h2:pPv a d) (h3:pv a d≠0) (h4:r64 (d+1)) {r:Ex × St} (k:zjs (zc0 a b (d+1)) r):zjs (zc0 a b d) r:=Loops.go (LS.at zbL 60 [] [0,3,4] [] [1,0] (.t h1<|.c h2<|.c (beq_false_of_ne h3)<|.i h4<|.e) [1,2,3,4]) k
theorem re_L0_0_2 (a:List Int) (b c:Int) (h1:¬(c≤1001)):zjs (zc0 a b c) (Ex.exit 0,(zfO a b c)):=Loops.fin (LS.at zbL 60 [] [0,3,4] [] [0] (.f h1<|.e) [1]) (fun h=>nomatch h)
theorem re_1 (p:List Int) (h1:r64 ((p.length:Int)-1)) (h2:(p.length:Int)-1≠1) (hL1:zjs (zc0 p ((p.length:Int)-1) (-1001)) (Ex.ret,(zkQ p ((p.length:Int)-1)))):FC Tryz.prog 102 [.sq p] (.tt):=eZ zbL 60 [0] (.i h1<|.c (beq_false_of_ne h2)<|.v [0,3,4] [] hL1<|.e) [1,2,0,3]
abbrev zfP (s:St) (r:Ex × St):Prop:=Loops 0 Tryz.prog (lZ Tryz.prog 102 1) s r
abbrev zbe (a:List Int) (b c:Int):St:=⟨sp 78 [(0,.sq a),(3,aI b),(5,aI c)],[],[]⟩
abbrev zkS (a:List Int) (b:Int):St:=⟨sp 78 [(2,.tt)],[],[]⟩
abbrev zfQ (a:List Int) (b c:Int):St:=⟨sp 78 [(0,.sq a),(3,aI b),(5,aI c)],[],[]⟩
theorem re_L3_0_0 (a:List Int) (b d:Int) (h1:d≤1000) (h2:b=4) (h3:d=0) (h4:r64 (d+1)) {r:Ex × St} (k:zfP (zbe a b (d+1)) r):zfP (zbe a b d) r:=Loops.go (LS.at zbL 60 [] [0,3,5] [] [1,1,1] (.t h1<|.c (beq_iff_eq.2 h2)<|.c (beq_iff_eq.2 h3)<|.i h4<|.e) [1,2,3,4]) k
theorem re_L3_0_1 (a:List Int) (b d:Int) (h1:d≤1000) (h2:b=4) (h3:d≠0) (h4:0<(a.length:Int)) (h5:0<a.length) (h6:¬(d=0)) (h7:Int.tmod (a.getD 0 0) d≠0) (h8:r64 (d+1)) {r:Ex × St} (k:zfP (zbe a b (d+1)) r):zfP (zbe a b d) r:=Loops.go (LS.at zbL 60 [] [0,3,5] [] [1,1,0,1] (.t h1<|.c (beq_iff_eq.2 h2)<|.c (beq_false_of_ne h3)<|.t h4<|.t h5<|.y h6<|.c (bne_iff_ne.2 h7)<|.i h8<|.e) [1,2,3,0,4,5,6,7,8]) k
abbrev ziM (s:St) (r:Ex × St):Prop:=Loops 0 Tryz.prog (lZ Tryz.prog 102 2) s r
abbrev zcs (a:List Int) (b c d:Int):St:=⟨sp 78 [(0,.sq a),(3,aI b),(5,aI c),(6,aI d)],[],[]⟩
abbrev zkR (a:List Int) (b c:Int):St:=⟨sp 78 [(2,.tt)],[],[]⟩
abbrev zhu (a:List Int) (b c d:Int):St:=⟨sp 78 [(0,.sq a),(3,aI b),(5,aI c),(6,aI d)],[],[]⟩
theorem re_L2_0_0 (a:List Int) (b d f:Int) (h1:f≤2002) (h2:3<(a.length:Int)) (h3:3<a.length) (h4:r64 (a.getD 3 0-f)) (h5:2<(a.length:Int)) (h6:2<a.length) (h7:r64 (a.getD 2 0-d)) (h8:r64 (f*(a.getD 3 0-f))) (h9:r64 (a.getD 2 0-d-f*(a.getD 3 0-f))) (h10:r64 (d*(a.getD 2 0-d-f*(a.getD 3 0-f)))) (h11:0<(a.length:Int)) (h12:0<a.length) (h13:d*(a.getD 2 0-d-f*(a.getD 3 0-f))=a.getD 0 0) (h14:r64 (f*(a.getD 2 0-d-f*(a.getD 3 0-f)))) (h15:r64 (d*(a.getD 3 0-f))) (h16:r64 (f*(a.getD 2 0-d-f*(a.getD 3 0-f))+d*(a.getD 3 0-f))) (h17:1<(a.length:Int)) (h18:1<a.length) (h19:f*(a.getD 2 0-d-f*(a.getD 3 0-f))+d*(a.getD 3 0-f)=a.getD 1 0):ziM (zcs a b d f) (Ex.ret,(zkR a b d)):=Loops.fin (LS.at zbL 60 [] [2] [] [1,1,1] (.t h1<|.t h2<|.t h3<|.i h4<|.t h5<|.t h6<|.i h7<|.i h8<|.i h9<|.i h10<|.t h11<|.t h12<|.c (beq_iff_eq.2 h13)<|.i h14<|.i h15<|.i h16<|.t h17<|.t h18<|.c (beq_iff_eq.2 h19)<|.e) [1,0,2,3,4,0,5,6,7,8,9,10,0,11,12,13,14,15,16,0,17,18,19]) (fun h=>nomatch h)
theorem re_L2_0_1 (a:List Int) (b d f:Int) (h1:f≤2002) (h2:3<(a.length:Int)) (h3:3<a.length) (h4:r64 (a.getD 3 0-f)) (h5:2<(a.length:Int)) (h6:2<a.length) (h7:r64 (a.getD 2 0-d)) (h8:r64 (f*(a.getD 3 0-f))) (h9:r64 (a.getD 2 0-d-f*(a.getD 3 0-f))) (h10:r64 (d*(a.getD 2 0-d-f*(a.getD 3 0-f)))) (h11:0<(a.length:Int)) (h12:0<a.length) (h13:d*(a.getD 2 0-d-f*(a.getD 3 0-f))=a.getD 0 0) (h14:r64 (f*(a.getD 2 0-d-f*(a.getD 3 0-f)))) (h15:r64 (d*(a.getD 3 0-f))) (h16:r64 (f*(a.getD 2 0-d-f*(a.getD 3 0-f))+d*(a.getD 3 0-f))) (h17:1<(a.length:Int)) (h18:1<a.length) (h19:f*(a.getD 2 0-d-f*(a.getD 3 0-f))+d*(a.getD 3 0-f)≠a.getD 1 0) (h20:r64 (f+1)) {r:Ex × St} (k:ziM (zcs a b d (f+1)) r):ziM (zcs a b d f) r:=Loops.go (LS.at zbL 60 [] [0,3,5,6] [] [1,1,0] (.t h1<|.t h2<|.t h3<|.i h4<|.t h5<|.t h6<|.i h7<|.i h8<|.i h9<|.i h10<|.t h11<|.t h12<|.c (beq_iff_eq.2 h13)<|.i h14<|.i h15<|.i h16<|.t h17<|.t h18<|.c (beq_false_of_ne h19)<|.i h20<|.e) [1,0,2,3,4,0,5,6,7,8,9,10,0,11,12,13,14,15,16,0,17,18,19,20]) k
theorem re_L2_0_2 (a:List Int) (b d f:Int) (h1:f≤2002) (h2:3<(a.length:Int)) (h3:3<a.length) (h4:r64 (a.getD 3 0-f)) (h5:2<(a.length:Int)) (h6:2<a.length) (h7:r64 (a.getD 2 0-d)) (h8:r64 (f*(a.getD 3 0-f))) (h9:r64 (a.getD 2 0-d-f*(a.getD 3 0-f))) (h10:r64 (d*(a.getD 2 0-d-f*(a.getD 3 0-f)))) (h11:0<(a.length:Int)) (h12:0<a.length) (h13:d*(a.getD 2 0-d-f*(a.getD 3 0-f))≠a.getD 0 0) (h14:r64 (f+1)) {r:Ex × St} (k:ziM (zcs a b d (f+1)) r):ziM (zcs a b d f) r:=Loops.go (LS.at zbL 60 [] [0,3,5,6] [] [1,0] (.t h1<|.t h2<|.t h3<|.i h4<|.t h5<|.t h6<|.i h7<|.i h8<|.i h9<|.i h10<|.t h11<|.t h12<|.c (beq_false_of_ne h13)<|.i h14<|.e) [1,0,2,3,4,0,5,6,7,8,9,10,0,11,12,13,14]) k
theorem re_L2_0_3 (a:List Int) (b c d:Int) (h1:¬(d≤2002)):ziM (zcs a b c d) (Ex.exit 4,(zhu a b c d)):=Loops.fin (LS.at zbL 60 [] [0,3,5,6] [] [0] (.f h1<|.e) [1]) (fun h=>nomatch h)
theorem re_L3_0_2 (a:List Int) (b d:Int) (h1:d≤1000) (h2:b=4) (h3:d≠0) (h4:0<(a.length:Int)) (h5:0<a.length) (h6:¬(d=0)) (h7:Int.tmod (a.getD 0 0) d=0) (hL1:ziM (zcs a b d (-2002)) (Ex.ret,(zkR a b d))):zfP (zbe a b d) (Ex.ret,(zkS a b)):=Loops.fin (LS.at zbL 60 [] [2] [] [1,1,0,0] (.t h1<|.c (beq_iff_eq.2 h2)<|.c (beq_false_of_ne h3)<|.t h4<|.t h5<|.y h6<|.c (bne_eq_false_iff_eq.2 h7)<|.v [0,3,5,6] [] hL1<|.e) [1,2,3,0,4,5,6,7,0,8]) (fun h=>nomatch h)
theorem re_L3_0_3 (a:List Int) (b d f:Int) (h1:d≤1000) (h2:b=4) (h3:d≠0) (h4:0<(a.length:Int)) (h5:0<a.length) (h6:¬(d=0)) (h7:Int.tmod (a.getD 0 0) d=0) (hL1:ziM (zcs a b d (-2002)) (Ex.exit 4,(zhu a b d f))) (h9:r64 (d+1)) {r:Ex × St} (k:zfP (zbe a b (d+1)) r):zfP (zbe a b d) r:=Loops.go (LS.at zbL 60 [] [0,3,5] [] [1,1,0,0] (.t h1<|.c (beq_iff_eq.2 h2)<|.c (beq_false_of_ne h3)<|.t h4<|.t h5<|.y h6<|.c (bne_eq_false_iff_eq.2 h7)<|.v [0,3,5,6] [] hL1<|.i h9<|.e) [1,2,3,0,4,5,6,7,0,8,9]) k
theorem re_L3_0_4 (a:List Int) (b d:Int) (h1:d≤1000) (h2:b≠4):zfP (zbe a b d) (Ex.exit 2,(zfQ a b d)):=Loops.fin (LS.at zbL 60 [] [0,3,5] [] [1,0] (.t h1<|.c (beq_false_of_ne h2)<|.e) [1,2]) (fun h=>nomatch h)
theorem re_L3_0_5 (a:List Int) (b c:Int) (h1:¬(c≤1000)):zfP (zbe a b c) (Ex.exit 2,(zfQ a b c)):=Loops.fin (LS.at zbL 60 [] [0,3,5] [] [0] (.f h1<|.e) [1]) (fun h=>nomatch h)
theorem re_2 (p:List Int) (a:Int) (h1:r64 ((p.length:Int)-1)) (h2:(p.length:Int)-1≠1) (hL1:zjs (zc0 p ((p.length:Int)-1) (-1001)) (Ex.exit 0,(zfO p ((p.length:Int)-1) a))) (hL2:zfP (zbe p ((p.length:Int)-1) (-1000)) (Ex.ret,(zkS p ((p.length:Int)-1)))):FC Tryz.prog 102 [.sq p] (.tt):=eZ zbL 60 [0] (.i h1<|.c (beq_false_of_ne h2)<|.v [0,3,4] [] hL1<|.v [0,3,5] [] hL2<|.e) [1,2,0,3,0,4]
theorem re_3 (p:List Int) (a b:Int) (h1:r64 ((p.length:Int)-1)) (h2:(p.length:Int)-1≠1) (hL1:zjs (zc0 p ((p.length:Int)-1) (-1001)) (Ex.exit 0,(zfO p ((p.length:Int)-1) a))) (hL2:zfP (zbe p ((p.length:Int)-1) (-1000)) (Ex.exit 2,(zfQ p ((p.length:Int)-1) b))):FC Tryz.prog 102 [.sq p] (.ff):=eZ zbL 60 [0] (.i h1<|.c (beq_false_of_ne h2)<|.v [0,3,4] [] hL1<|.v [0,3,5] [] hL2<|.e) [1,2,0,3,0,4]
end
theorem ze7 {R:Type} (B:Int→R→Prop) (G:Int→Prop) (lo hi:Int) (e0:R) (e2:Int→R) (h0:∀t,lo≤t→t≤hi→G t→B t e0) (h1:∀t,lo≤t→t≤hi→¬G t→∀r,B (t+1) r→B t r) (h2:B (hi+1) (e2 (hi+1))) :
 ∀(n:Nat) (t:Int),t+n=hi+1→lo≤t→(∃a,t≤a∧a≤hi∧G a)∧B t e0∨(¬ ∃a,t≤a∧a≤hi∧G a)∧B t (e2 (hi+1))
 | 0,t,ht,_=>by
  grind
 | n + 1,t,ht,hm=>by
  by_cases e:G t
  ·grind
  ·have go:=h1 t hm (by omega) e
   rcases ze7 B G lo hi e0 e2 h0 h1 h2 n (t+1) (by omega) (by omega) with ⟨⟨a,h1,h2,h3⟩,k⟩ | ⟨hn,k⟩
   ·grind
   grind
theorem zj9 {R:Type} (A B:Int→R→Prop) (G:Int→Prop) (lo hi:Int) (e0:R) (e1 e2:Int→R) (hB:∀(n:Nat) (t:Int),t+n=hi+1→lo≤t→(∃a,t≤a∧a≤hi∧G a)∧B t e0∨(¬ ∃a,t≤a∧a≤hi∧G a)∧B t (e2 (hi+1)))
 (h0:∀t,lo≤t→t≤hi→G t→A t e0) (h1:∀t,lo≤t→t≤hi→¬G t→(∀r,B (t+1) r→A t r)∨(∀r,A (t+1) r→A t r)) (h2:A (hi+1) (e1 (hi+1))) :
 ∀(n:Nat) (t:Int),t+n=hi+1→lo≤t→(∃a,t≤a∧a≤hi∧G a)∧A t e0∨(¬ ∃a,t≤a∧a≤hi∧G a)∧(A t (e1 (hi+1))∨A t (e2 (hi+1)))
 | 0,t,ht,_=>by
  grind
 | n + 1,t,ht,hm=>by
  have up:(¬ ∃a,t+1≤a∧a≤hi∧G a)→¬G t→¬ ∃a,t≤a∧a≤hi∧G a:=fun hn e ⟨a,h1,h2,h3⟩=>by
   grind
  by_cases e:G t
  ·grind
  ·rcases h1 t hm (by omega) e with go | go
   ·grind
   ·rcases zj9 A B G lo hi e0 e1 e2 hB h0 h1 h2 n (t+1) (by omega) (by omega) with ⟨⟨a,h1,h2,h3⟩,k⟩ | ⟨hn,k | k⟩
    ·grind
    ·simp_all
    simp_all
def Red (p:List Int):Prop:=p.length≠2∧((∃x,pv p x=0)∨p.length=5∧∃b,b≠0∧b∣p.getD 0 0∧Q2 p b)
noncomputable def red (p:List Int):Bool:=@decide (Red p) (Classical.propDecidable _)
theorem zqD {p:List Int} (h:Red p):AV.lit (.bool (red p))=.lit (.bool true):=by unfold red;simp_all
theorem zjt {p:List Int} (h:¬Red p):AV.lit (.bool (red p))=.lit (.bool false):=by unfold red;simp_all
def zdA (p:List Int):Prop:=2≤p.length∧p.length≤5∧(∀c∈p,c.natAbs≤1000)
instance tRed {p:List Int}:Tst (zdA p):=⟨false,fun h=>by cases h⟩
theorem pv_dvd {p:List Int} {x:Int} (h:pv p x=0):x∣p.getD 0 0:=by
 cases p with
 | nil=>simp
 | cons c l=>exact ⟨- pv l x,by simp only [pv] at h;simp;grind⟩
theorem znI {p:List Int} (h:p.getD 0 0=0):pv p 0=0:=by
 cases p with
 | nil=>rfl
 | cons c l=>simp only [pv];simp at h;omega
theorem dvdB {x a:Int} (h:x∣a) (h0:a≠0):x.natAbs≤a.natAbs:=Nat.le_of_dvd (by omega) (Int.natAbs_dvd_natAbs.2 h)
theorem ttT {P:Program} {f:FuncId} {a:List AV} {b:Bool} (h:FC P f a .tt) (e:AV.lit (.bool b)=.lit (.bool true)):FC P f a (.lit (.bool b)):=by rw [e];exact h.res fun E v hv=>by cases hv;exact .lit _
theorem ffF {P:Program} {f:FuncId} {a:List AV} {b:Bool} (h:FC P f a .ff) (e:AV.lit (.bool b)=.lit (.bool false)):FC P f a (.lit (.bool b)):=by rw [e];exact h.res fun E v hv=>by cases hv;exact .lit _
def Dv (n:Int) (H:Int→Prop) (t:Int):Prop:=Int.tmod n t=0∧(H t∨H (0-t))
theorem dv_ex {n:Int} (h0:n≠0) {H:Int→Prop} {m:Int} (hm:m=(if 0-n > n then 0-n else n)):(∃a,1≤a∧a≤m∧Dv n H a)↔∃b,b≠0∧b∣n∧H b:=by
 constructor
 ·rintro ⟨a,h1,h2,h3,h4⟩
  have hd:=Int.dvd_of_tmod_eq_zero h3
  rcases h4 with h | h
  ·grind
  ·exact ⟨0-a,by omega,by simp_all,h⟩
 ·rintro ⟨b,h1,h2,h3⟩
  have hb:=dvdB h2 h0
  have hm':(m:Int)=n.natAbs:=by subst hm;split<;>omega
  rcases Int.lt_or_le 0 b with h | h
  ·exact ⟨b,by omega,by omega,Int.tmod_eq_zero_of_dvd h2,.inl h3⟩
  ·refine ⟨-b,by omega,by omega,Int.tmod_eq_zero_of_dvd ((Int.neg_dvd).2 h2),.inr ?_⟩
   simp_all
theorem dv0 {p:List Int} (h:zdA p) (h0:p.getD 0 0≠0) {m:Int} (hm:m=(if 0-p.getD 0 0 > p.getD 0 0 then 0-p.getD 0 0 else p.getD 0 0)) :
 (∃b,b≠0∧b∣p.getD 0 0∧pv p b=0)∧zbm (zav (p.getD 0 0) p 1) (Ex.ret,zdm (p.getD 0 0) p) ∨
 (¬ ∃b,b≠0∧b∣p.getD 0 0∧pv p b=0)∧(zbm (zav (p.getD 0 0) p 1) (Ex.exit 0,zdn (p.getD 0 0) p (m+1))∨zbm (zav (p.getD 0 0) p 1) (Ex.exit 0,zdo (p.getD 0 0) p (m+1))):=by
 obtain ⟨h2,h5,ha⟩:=h
 have g0:=zfb ha 0
 have hm':(m:Int)=(p.getD 0 0).natAbs:=by subst hm;split<;>omega
 have pp:∀t:Int,t.natAbs≤1000→pPv p t:=fun t ht=>⟨h2,h5,ha,by omega⟩
 rw [← dv_ex h0 hm]
 refine zj9 (fun t=>zbm (zav (p.getD 0 0) p t)) (fun t=>zbm (zcV (p.getD 0 0) p t)) (Dv (p.getD 0 0) fun t=>pv p t=0) 1 m (Ex.ret,zdm (p.getD 0 0) p) (fun t=>(Ex.exit 0,zdn (p.getD 0 0) p t)) (fun t=>(Ex.exit 0,zdo (p.getD 0 0) p t)) ?_ ?_ ?_ ?_ m.toNat 1 (by omega) (by omega)
 ·refine ze7 (fun t=>zbm (zcV (p.getD 0 0) p t)) _ 1 m _ (fun t=>(Ex.exit 0,zdo (p.getD 0 0) p t)) ?_ ?_ ?_
  ·rintro t t1 t2 ⟨k1,k2⟩
   by_cases k3:pv p t=0
   ·exact dv_L0_1_0 _ _ t (by omega) (by omega) (by omega) k1 (pp _ (by omega)) k3
   ·exact dv_L0_1_1 _ _ t (by omega) (by omega) (by omega) k1 (pp _ (by omega)) k3 (by omega) (pp _ (by omega)) (k2.resolve_left k3)
  ·intro t t1 t2 hn r k
   by_cases k1:Int.tmod (p.getD 0 0) t=0
   ·have n1:pv p t≠0:=fun e=>hn ⟨k1,.inl e⟩
    have n2:pv p (0-t)≠0:=fun e=>hn ⟨k1,.inr e⟩
    exact dv_L0_1_2 _ _ t (by omega) (by omega) (by omega) k1 (pp _ (by omega)) n1 (by omega) (pp _ (by omega)) n2 (by omega) k
   ·exact dv_L0_1_3 _ _ t (by omega) (by omega) (by omega) k1 (by omega) k
  ·exact dv_L0_1_4 _ _ _ (by omega) (by omega)
 ·rintro t t1 t2 ⟨k1,k2⟩
  by_cases k3:pv p t=0
  ·exact dv_L0_0_0 _ _ t (by omega) (by omega) (by omega) k1 (pp _ (by omega)) k3
  ·exact dv_L0_0_1 _ _ t (by omega) (by omega) (by omega) k1 (pp _ (by omega)) k3 (by omega) (pp _ (by omega)) (k2.resolve_left k3)
 ·intro t t1 t2 hn
  by_cases k1:Int.tmod (p.getD 0 0) t=0
  ·have n1:pv p t≠0:=fun e=>hn ⟨k1,.inl e⟩
   have n2:pv p (0-t)≠0:=fun e=>hn ⟨k1,.inr e⟩
   exact .inl fun r k=>dv_L0_0_2 _ _ t (by omega) (by omega) (by omega) k1 (pp _ (by omega)) n1 (by omega) (pp _ (by omega)) n2 (by omega) k
  ·exact .inr fun r k=>dv_L0_0_3 _ _ t (by omega) (by omega) (by omega) k1 (by omega) k
 ·exact dv_L0_0_4 _ _ _ (by omega) (by omega)
theorem dv1 {p:List Int} (h:zdA p) (hl:p.length=5) (h0:p.getD 0 0≠0) {m:Int} (hm:m=(if 0-p.getD 0 0 > p.getD 0 0 then 0-p.getD 0 0 else p.getD 0 0)) :
 (∃b,b≠0∧b∣p.getD 0 0∧Q2 p b)∧zcn (zbs (p.getD 0 0) p 1) (Ex.ret,zdp (p.getD 0 0) p) ∨
 (¬ ∃b,b≠0∧b∣p.getD 0 0∧Q2 p b)∧(zcn (zbs (p.getD 0 0) p 1) (Ex.exit 0,zhi (p.getD 0 0) p (m+1))∨zcn (zbs (p.getD 0 0) p 1) (Ex.exit 0,zfq (p.getD 0 0) p (m+1))):=by
 obtain ⟨h2,_,ha⟩:=h
 have h5:=hl
 have g0:=zfb ha 0
 have hm':(m:Int)=(p.getD 0 0).natAbs:=by subst hm;split<;>omega
 have pp:∀t:Int,t≠0→t.natAbs≤1000→pD2 p t:=fun t h1 ht=>⟨h5,ha,h1,ht⟩
 rw [← dv_ex h0 hm]
 refine zj9 (fun t=>zcn (zbs (p.getD 0 0) p t)) (fun t=>zcn (zcW (p.getD 0 0) p t)) (Dv (p.getD 0 0) fun t=>Q2 p t) 1 m (Ex.ret,zdp (p.getD 0 0) p) (fun t=>(Ex.exit 0,zhi (p.getD 0 0) p t)) (fun t=>(Ex.exit 0,zfq (p.getD 0 0) p t)) ?_ ?_ ?_ ?_ m.toNat 1 (by omega) (by omega)
 ·refine ze7 (fun t=>zcn (zcW (p.getD 0 0) p t)) _ 1 m _ (fun t=>(Ex.exit 0,zfq (p.getD 0 0) p t)) ?_ ?_ ?_
  ·rintro t t1 t2 ⟨k1,k2⟩
   by_cases k3:Q2 p t
   ·exact dv_L1_1_0 _ _ t (by omega) (by omega) (by omega) k1 (pp _ (by omega) (by omega)) (q2_t k3)
   ·exact dv_L1_1_1 _ _ t (by omega) (by omega) (by omega) k1 (pp _ (by omega) (by omega)) (zr2 k3) (by omega) (pp _ (by omega) (by omega)) (q2_t (k2.resolve_left k3))
  ·intro t t1 t2 hn r k
   by_cases k1:Int.tmod (p.getD 0 0) t=0
   ·have n1:=zr2 fun(e:Q2 p t)=>hn ⟨k1,.inl e⟩
    have n2:=zr2 fun(e:Q2 p (0-t))=>hn ⟨k1,.inr e⟩
    exact dv_L1_1_2 _ _ t (by omega) (by omega) (by omega) k1 (pp _ (by omega) (by omega)) n1 (by omega) (pp _ (by omega) (by omega)) n2 (by omega) k
   ·exact dv_L1_1_3 _ _ t (by omega) (by omega) (by omega) k1 (by omega) k
  ·exact dv_L1_1_4 _ _ _ (by omega) (by omega)
 ·rintro t t1 t2 ⟨k1,k2⟩
  by_cases k3:Q2 p t
  ·exact dv_L1_0_0 _ _ t (by omega) (by omega) (by omega) k1 (pp _ (by omega) (by omega)) (q2_t k3)
  ·exact dv_L1_0_1 _ _ t (by omega) (by omega) (by omega) k1 (pp _ (by omega) (by omega)) (zr2 k3) (by omega) (pp _ (by omega) (by omega)) (q2_t (k2.resolve_left k3))
 ·intro t t1 t2 hn
  by_cases k1:Int.tmod (p.getD 0 0) t=0
  ·have n1:=zr2 fun(e:Q2 p t)=>hn ⟨k1,.inl e⟩
   have n2:=zr2 fun(e:Q2 p (0-t))=>hn ⟨k1,.inr e⟩
   exact .inl fun r k=>dv_L1_0_2 _ _ t (by omega) (by omega) (by omega) k1 (pp _ (by omega) (by omega)) n1 (by omega) (pp _ (by omega) (by omega)) n2 (by omega) k
  ·exact .inr fun r k=>dv_L1_0_3 _ _ t (by omega) (by omega) (by omega) k1 (by omega) k
 ·exact dv_L1_0_4 _ _ _ (by omega) (by omega)
theorem dv2 {p:List Int} (h:zdA p) (hl:p.length=5) (h0:p.getD 0 0≠0) {m:Int} (hm:m=(if 0-p.getD 0 0 > p.getD 0 0 then 0-p.getD 0 0 else p.getD 0 0)) :
 (∃b,b≠0∧b∣p.getD 0 0∧Q2 p b)∧zg9 (zbN (p.getD 0 0) p 1) (Ex.ret,zhj (p.getD 0 0) p) ∨
 (¬ ∃b,b≠0∧b∣p.getD 0 0∧Q2 p b)∧zg9 (zbN (p.getD 0 0) p 1) (Ex.exit 0,zhk (p.getD 0 0) p (m+1)):=by
 obtain ⟨h2,_,ha⟩:=h
 have g0:=zfb ha 0
 have hm':(m:Int)=(p.getD 0 0).natAbs:=by subst hm;split<;>omega
 have pp:∀t:Int,t≠0→t.natAbs≤1000→pD2 p t:=fun t h1 ht=>⟨hl,ha,h1,ht⟩
 rw [← dv_ex h0 hm]
 refine ze7 (fun t=>zg9 (zbN (p.getD 0 0) p t)) (Dv (p.getD 0 0) fun t=>Q2 p t) 1 m _ (fun t=>(Ex.exit 0,zhk (p.getD 0 0) p t)) ?_ ?_ ?_ m.toNat 1 (by omega) (by omega)
 ·rintro t t1 t2 ⟨k1,k2⟩
  by_cases k3:Q2 p t
  ·exact dv_L2_0_0 _ _ t (by omega) (by omega) (by omega) k1 (pp _ (by omega) (by omega)) (q2_t k3)
  ·exact dv_L2_0_1 _ _ t (by omega) (by omega) (by omega) k1 (pp _ (by omega) (by omega)) (zr2 k3) (by omega) (pp _ (by omega) (by omega)) (q2_t (k2.resolve_left k3))
 ·intro t t1 t2 hn r k
  by_cases k1:Int.tmod (p.getD 0 0) t=0
  ·have n1:=zr2 fun(e:Q2 p t)=>hn ⟨k1,.inl e⟩
   have n2:=zr2 fun(e:Q2 p (0-t))=>hn ⟨k1,.inr e⟩
   exact dv_L2_0_2 _ _ t (by omega) (by omega) (by omega) k1 (pp _ (by omega) (by omega)) n1 (by omega) (pp _ (by omega) (by omega)) n2 (by omega) k
  ·exact dv_L2_0_3 _ _ t (by omega) (by omega) (by omega) k1 (by omega) k
 ·exact dv_L2_0_4 _ _ _ (by omega) (by omega)
theorem zpr (p:List Int) (h:zdA p):FC Tryz.prog 114 [.sq p] (.lit (.bool (red p))):=by
 have h':=h
 obtain ⟨h2,h5,ha⟩:=h'
 have g0:=zfb ha 0
 by_cases e2:p.length=2
 ·exact ffF (dv_0 p (by omega) (by omega)) (zjt fun k=>k.1 e2)
 by_cases e0:p.getD 0 0=0
 ·exact ttT (dv_1 p (by omega) (by omega) (by omega) (by omega) e0) (zqD ⟨e2,.inl ⟨0,znI e0⟩⟩)
 have q1:-9223372036854775808≤(p.length:Int)-1∧(p.length:Int)-1≤9223372036854775807:=by omega
 have q2:(p.length:Int)-1≠1:=by omega
 have q3:(0:Int)<p.length:=by omega
 have q4:0<p.length:=by omega
 have q5:p.length=5→¬((p.length:Int)-1<4):=fun h=>by omega
 have q6:p.length≠5→(p.length:Int)-1<4:=fun h=>by omega
 have hr:(∃x,pv p x=0)↔∃b,b≠0∧b∣p.getD 0 0∧pv p b=0:=
  ⟨fun ⟨x,hx⟩=>⟨x,fun e=>e0 (by have:=pv_dvd hx;simp_all),pv_dvd hx,hx⟩,fun ⟨b,_,_,hb⟩=>⟨b,hb⟩⟩
 rcases dv0 h e0 rfl with ⟨ex,k⟩ | ⟨nx,k⟩
 ·exact ttT (dv_2 p q1 q2 q3 q4 e0 k) (zqD ⟨e2,.inl (hr.2 ex)⟩)
 by_cases e5:p.length=5
 ·rcases k with k | k
  ·rcases dv1 h e5 e0 rfl with ⟨ex,j⟩ | ⟨ny,j⟩
   ·exact ttT (dv_4 p _ q1 q2 q3 q4 e0 k (q5 e5) j) (zqD ⟨e2,.inr ⟨e5,ex⟩⟩)
   ·have nr:¬Red p:=fun r=>r.2.elim (fun hx=>nx (hr.1 hx)) fun hx=>ny hx.2
    rcases j with j | j
    ·exact ffF (dv_5 p _ _ q1 q2 q3 q4 e0 k (q5 e5) j) (zjt nr)
    ·exact ffF (dv_6 p _ _ q1 q2 q3 q4 e0 k (q5 e5) j) (zjt nr)
  ·rcases dv2 h e5 e0 rfl with ⟨ex,j⟩ | ⟨ny,j⟩
   ·exact ttT (dv_8 p _ q1 q2 q3 q4 e0 k (q5 e5) j) (zqD ⟨e2,.inr ⟨e5,ex⟩⟩)
   ·exact ffF (dv_9 p _ _ q1 q2 q3 q4 e0 k (q5 e5) j) (zjt fun r=>r.2.elim (fun hx=>nx (hr.1 hx)) fun hx=>ny hx.2)
 ·have nr:¬Red p:=fun r=>r.2.elim (fun hx=>nx (hr.1 hx)) fun hx=>e5 hx.1
  rcases k with k | k
  ·exact ffF (dv_3 p _ q1 q2 q3 q4 e0 k (q6 e5)) (zjt nr)
  ·exact ffF (dv_7 p _ q1 q2 q3 q4 e0 k (q6 e5)) (zjt nr)
def Eq2 (p:List Int) (b a:Int):Prop:=b*(p.getD 2 0-b-a*(p.getD 3 0-a))=p.getD 0 0∧a*(p.getD 2 0-b-a*(p.getD 3 0-a))+b*(p.getD 3 0-a)=p.getD 1 0
theorem re2 {p:List Int} (hl:p.length=5) (ha:∀c∈p,c.natAbs≤1000) {b:Int} (hb:b.natAbs≤1000) :
 (∃a,-2002≤a∧a≤2002∧Eq2 p b a)∧ziM (zcs p 4 b (-2002)) (Ex.ret,zkR p 4 b)∨(¬ ∃a,-2002≤a∧a≤2002∧Eq2 p b a)∧ziM (zcs p 4 b (-2002)) (Ex.exit 4,zhu p 4 b 2003):=by
 have g0:=zfb ha 0
 have g1:=zfb ha 1
 have g2:=zfb ha 2
 have g3:=zfb ha 3
 refine ze7 (fun t=>ziM (zcs p 4 b t)) (Eq2 p b) (-2002) 2002 _ (fun t=>(Ex.exit 4,zhu p 4 b t)) ?_ ?_ ?_ 4005 (-2002) (by omega) (by omega)
 ·rintro t t1 t2 ⟨k1,k2⟩
  have m1:=zl3 (a:=t) (b:=p.getD 3 0-t) (A:=2002) (B:=3002) (by omega) (by omega)
  have m2:=zl3 (a:=b) (b:=p.getD 2 0-b-t*(p.getD 3 0-t)) (A:=1000) (B:=6012004) (by omega) (by omega)
  have m3:=zl3 (a:=t) (b:=p.getD 2 0-b-t*(p.getD 3 0-t)) (A:=2002) (B:=6012004) (by omega) (by omega)
  have m4:=zl3 (a:=b) (b:=p.getD 3 0-t) (A:=1000) (B:=3002) (by omega) (by omega)
  exact re_L2_0_0 p 4 b t (by omega) (by omega) (by omega) (by omega) (by omega) (by omega) (by omega) (by omega) (by omega) (by omega) (by omega) (by omega) k1 (by omega) (by omega) (by omega) (by omega) (by omega) k2
 ·intro t t1 t2 hn r k
  have m1:=zl3 (a:=t) (b:=p.getD 3 0-t) (A:=2002) (B:=3002) (by omega) (by omega)
  have m2:=zl3 (a:=b) (b:=p.getD 2 0-b-t*(p.getD 3 0-t)) (A:=1000) (B:=6012004) (by omega) (by omega)
  have m3:=zl3 (a:=t) (b:=p.getD 2 0-b-t*(p.getD 3 0-t)) (A:=2002) (B:=6012004) (by omega) (by omega)
  have m4:=zl3 (a:=b) (b:=p.getD 3 0-t) (A:=1000) (B:=3002) (by omega) (by omega)
  by_cases k1:b*(p.getD 2 0-b-t*(p.getD 3 0-t))=p.getD 0 0
  ·exact re_L2_0_1 p 4 b t (by omega) (by omega) (by omega) (by omega) (by omega) (by omega) (by omega) (by omega) (by omega) (by omega) (by omega) (by omega) k1 (by omega) (by omega) (by omega) (by omega) (by omega) (fun k2=>hn ⟨k1,k2⟩) (by omega) k
  ·exact re_L2_0_2 p 4 b t (by omega) (by omega) (by omega) (by omega) (by omega) (by omega) (by omega) (by omega) (by omega) (by omega) (by omega) (by omega) k1 (by omega) k
 ·exact re_L2_0_3 p 4 b _ (by omega)
theorem eq2_iff {p:List Int} (ha:∀c∈p,c.natAbs≤1000) (h0:p.getD 0 0≠0) {b:Int} (hb0:b≠0) (hd:b∣p.getD 0 0):(∃a,-2002≤a∧a≤2002∧Eq2 p b a)↔Q2 p b:=by
 have g0:=zfb ha 0
 have g2:=zfb ha 2
 have g3:=zfb ha 3
 have hm:=Int.mul_tdiv_cancel' hd
 have hb:=dvdB hd h0
 have hq:=tdivB (p.getD 0 0) b
 constructor
 ·rintro ⟨a,_,_,k1,k2⟩
  have e:p.getD 2 0-b-a*(p.getD 3 0-a)=Int.tdiv (p.getD 0 0) b:=Int.eq_of_mul_eq_mul_left hb0 (by rw [k1,hm])
  rw [e] at k2
  exact ⟨a,by omega,k2⟩
 ·rintro ⟨a,k1,k2⟩
  have e:p.getD 2 0-b-a*(p.getD 3 0-a)=Int.tdiv (p.getD 0 0) b:=by omega
  have hr:-2002≤a∧a≤2002:=by
   by_cases hr:-2002≤a∧a≤2002
   ·exact hr
   ·have m1:(a*(p.getD 3 0-a)).natAbs≤3000:=by omega
    rw [Int.natAbs_mul] at m1
    have m2:2003*1003≤a.natAbs*(p.getD 3 0-a).natAbs:=Nat.mul_le_mul (by omega) (by omega)
    omega
  exact ⟨a,hr.1,hr.2,by rw [Eq2,e];exact ⟨hm,k2⟩⟩
theorem re0 {p:List Int} (h:zdA p) (n:Int):(∃x,pv p x=0)∧zjs (zc0 p n (-1001)) (Ex.ret,zkQ p n)∨(¬ ∃x,pv p x=0)∧zjs (zc0 p n (-1001)) (Ex.exit 0,zfO p n 1002):=by
 obtain ⟨h2,h5,ha⟩:=h
 have g0:=zfb ha 0
 have pp:∀t:Int,t.natAbs≤1001→pPv p t:=fun t ht=>⟨h2,h5,ha,by omega⟩
 have hr:(∃x,pv p x=0)↔∃x,-1001≤x∧x≤1001∧pv p x=0:=by
  constructor
  ·rintro ⟨x,hx⟩
   by_cases e:p.getD 0 0=0
   ·exact ⟨0,by omega,by omega,znI e⟩
   ·have:=dvdB (pv_dvd hx) e
    grind
  grind
 rw [hr]
 refine ze7 (fun t=>zjs (zc0 p n t)) (fun x=>pv p x=0) (-1001) 1001 _ (fun t=>(Ex.exit 0,zfO p n t)) ?_ ?_ ?_ 2003 (-1001) (by omega) (by omega)
 ·intro t t1 t2 k;exact re_L0_0_0 p n t (by omega) (pp t (by omega)) k
 ·intro t t1 t2 k r j;exact re_L0_0_1 p n t (by omega) (pp t (by omega)) k (by omega) j
 ·exact re_L0_0_2 p n _ (by omega)
theorem re3 {p:List Int} (h:zdA p) (hl:p.length=5) (h0:p.getD 0 0≠0):(∃b,b≠0∧b∣p.getD 0 0∧Q2 p b)∧zfP (zbe p 4 (-1000)) (Ex.ret,zkS p 4)∨(¬ ∃b,b≠0∧b∣p.getD 0 0∧Q2 p b)∧zfP (zbe p 4 (-1000)) (Ex.exit 2,zfQ p 4 1001):=by
 obtain ⟨h2,h5,ha⟩:=h
 have g0:=zfb ha 0
 have hr:(∃b,b≠0∧b∣p.getD 0 0∧Q2 p b)↔∃b,-1000≤b∧b≤1000∧(b≠0∧b∣p.getD 0 0∧Q2 p b):=
  ⟨fun ⟨b,k⟩=>⟨b,by have:=dvdB k.2.1 h0;omega,by have:=dvdB k.2.1 h0;omega,k⟩,fun ⟨b,_,_,k⟩=>⟨b,k⟩⟩
 rw [hr]
 refine ze7 (fun t=>zfP (zbe p 4 t)) (fun b=>b≠0∧b∣p.getD 0 0∧Q2 p b) (-1000) 1000 _ (fun t=>(Ex.exit 2,zfQ p 4 t)) ?_ ?_ ?_ 2001 (-1000) (by omega) (by omega)
 ·rintro t t1 t2 ⟨k1,k2,k3⟩
  rcases re2 hl ha (b:=t) (by omega) with ⟨ex,j⟩ | ⟨nx,j⟩
  ·exact re_L3_0_2 p 4 t (by omega) rfl k1 (by omega) (by omega) k1 (Int.tmod_eq_zero_of_dvd k2) j
  ·exact absurd ((eq2_iff ha h0 k1 k2).2 k3) nx
 ·intro t t1 t2 hn r k
  by_cases k1:t=0
  ·exact re_L3_0_0 p 4 t (by omega) rfl k1 (by omega) k
  by_cases k2:Int.tmod (p.getD 0 0) t=0
  ·rcases re2 hl ha (b:=t) (by omega) with ⟨ex,j⟩ | ⟨nx,j⟩
   ·exact absurd ⟨k1,Int.dvd_of_tmod_eq_zero k2,(eq2_iff ha h0 k1 (Int.dvd_of_tmod_eq_zero k2)).1 ex⟩ hn
   ·exact re_L3_0_3 p 4 t _ (by omega) rfl k1 (by omega) (by omega) k1 k2 j (by omega) k
  ·exact re_L3_0_1 p 4 t (by omega) rfl k1 (by omega) (by omega) k1 k2 (by omega) k
 ·exact re_L3_0_5 p 4 _ (by omega)
theorem zle (p:List Int) (h:zdA p):FC Tryz.prog 102 [.sq p] (.lit (.bool (red p))):=by
 have h':=h
 obtain ⟨h2,h5,ha⟩:=h'
 by_cases e2:p.length=2
 ·exact ffF (re_0 p (by omega) (by omega)) (zjt fun k=>k.1 e2)
 rcases re0 h ((p.length:Int)-1) with ⟨ex,k⟩ | ⟨nx,k⟩
 ·exact ttT (re_1 p (by omega) (by omega) k) (zqD ⟨e2,.inl ex⟩)
 have e0:p.getD 0 0≠0:=fun e=>nx ⟨0,znI e⟩
 by_cases e5:p.length=5
 ·have e4:(p.length:Int)-1=4:=by omega
  have r2:=fun t4=>re_2 p t4 (by omega) (by omega)
  have r3:=fun t4 t5=>re_3 p t4 t5 (by omega) (by omega)
  rw [e4] at k r2 r3
  rcases re3 h e5 e0 with ⟨ex,j⟩ | ⟨ny,j⟩
  ·exact ttT (r2 _ k j) (zqD ⟨e2,.inr ⟨e5,ex⟩⟩)
  ·exact ffF (r3 _ _ k j) (zjt fun r=>r.2.elim nx fun hx=>ny hx.2)
 ·exact ffF (re_3 p _ _ (by omega) (by omega) k (re_L3_0_4 p _ _ (by omega) (by omega))) (zjt fun r=>r.2.elim nx fun hx=>e5 hx.1)
noncomputable def ctrH3:Ctr:=(114,cL zdA (fun p=>.lit (.bool (red p)))) :: (102,cL zdA (fun p=>.lit (.bool (red p)))) :: ctrH
theorem zlB:∀p∈ctrH3,kZ Tryz.prog p.1 p.2:=CAll.cons (zj6 zpr) (CAll.cons (zj6 zle) zka)
abbrev kdW:List (TypeId × EK):=[(100,.whole)]
theorem zjq:(dZ Tryz.prog ctrH3 bw [] kdW).OK:=DZ zbQ mixed zlB zbM
noncomputable section
abbrev zmn (s:St) (r:Ex × St):Prop:=Loops 1 Tryz.prog (lZ Tryz.prog 105 0) s r
abbrev znH (a:List Int) (b c d e:Int):St:=⟨sp 20 [(3,aN),(7,.sq a),(8,aI b),(9,aI 0)],[.flat [.sq a,aI c,aI d,aI e] true],[]⟩
abbrev ziD (a:List Int) (b c d e:Int) (f:Nat) (g:Int) (i:List Int):St:=⟨sp 20 [(3,.own 1 0 f 2),(7,.sq a),(8,aI b),(9,aI g)],[.flat [.sq a,aI c,aI d,aI e] true,.lst EK.whole i true],[]⟩
abbrev po_L0_E0 (a:List Int) (b c d e:Int):St:=⟨sp 20 [(3,aN),(7,.sq a),(8,aI b),(9,aI 0)],[.flat [.sq a,aI c,aI d,aI e] true],[]⟩
abbrev zkI (a:List Int) (b c d e:Int) (f:Nat) (g:Int) (i:List Int):St:=⟨sp 20 [(3,.own 1 0 f 2),(7,.sq a),(8,aI b),(9,aI g)],[.flat [.sq a,aI c,aI d,aI e] true,.lst EK.whole i true],[]⟩
theorem po_L0_0_0 (a:List Int) (b d f g:Int) (h1:0<b) (h2:0<(a.length:Int)) (h3:0<a.length) (h4:cZ (a.getD 0 0)) (h5:1≤List.length [a.getD 0 0]) (h6:0<(List.take 1 [a.getD 0 0]).length) (h7:(List.take 1 [a.getD 0 0]).length*32≤140737488355328) (h8:(List.take 1 [a.getD 0 0]).length≤4611686018427387904) {r:Ex × St} (k:zmn (ziD a b d f g (1) (1) ([a.getD 0 0])) r):zmn (znH a b d f g) r:=Loops.go (LS.at zjq 60 [2] [3,7,8,9] [] [1] (.t h1<|.t h2<|.t h3<|.c h4<|.c h5<|.t h6<|.t h7<|.t h8<|.e) [1,0,2,3,4,0,5,6,7,8,0]) k
theorem po_L0_0_1 (a:List Int) (b c d g:Int) (h1:¬(0<b)):zmn (znH a b c d g) (Ex.exit 0,(po_L0_E0 a b c d g)):=Loops.fin (LS.at zjq 60 [] [3,7,8,9] [] [0] (.f h1<|.e) [1]) (fun h=>nomatch h)
theorem po_L0_1_0 (a:List Int) (b d f g:Int) (j:Nat) (l:Int) (m:List Int) (h1:l<b) (h2:0≤l) (h3:l<(a.length:Int)) (h4:l.toNat<a.length) (h5:cZ (a.getD l.toNat 0)) (h6:1≤List.length [a.getD l.toNat 0]) (h7:(j+(List.take 1 [a.getD l.toNat 0]).length)*32≤140737488355328) (h8:j+(List.take 1 [a.getD l.toNat 0]).length≤4611686018427387904) (h9:j≤m.length) (h10:r64 (l+1)) {r:Ex × St} (k:zmn (ziD a b d f g (j+(List.take 1 [a.getD l.toNat 0]).length) (l+1) (m.take j++List.take 1 [a.getD l.toNat 0])) r):zmn (ziD a b d f g j l m) r:=Loops.go (LS.at zjq 60 [3] [3,7,8,9] [] [1] (.t h1<|.t h2<|.t h3<|.t h4<|.c h5<|.c h6<|.t h7<|.t h8<|.t h9<|.i h10<|.e) [1,2,3,4,5,0,6,7,8,9,10]) k
theorem po_L0_1_1 (a:List Int) (b c d g:Int) (i:Nat) (j:Int) (l:List Int) (h1:¬(j<b)):zmn (ziD a b c d g i j l) (Ex.exit 0,(zkI a b c d g i j l)):=Loops.fin (LS.at zjq 60 [1] [3,7,8,9] [] [0] (.f h1<|.e) [1]) (fun h=>nomatch h)
theorem po_1 (p:List Int) (a b c:Int) (d:Nat) (f:Int) (g:List Int) (hL1:zmn (znH p ((p.length:Int)) a b c) (Ex.exit 0,(zkI p ((p.length:Int)) a b c d f g))) (h2:d≤g.length):FC Tryz.prog 105 [.agg [.sq p,.lit (.int .i64 a),.lit (.int .i64 b),.lit (.int .i64 c)]] (.lst EK.whole (g.take d)):=eZ zjq 60 [] (.v [3,7,8,9] [] hL1<|.c h2<|.e) [0,1,2]
abbrev zjj (s:St) (r:Ex × St):Prop:=Loops 0 Tryz.prog (lZ Tryz.prog 192 0) s r
abbrev zh5 (a:List Int) (b c:Int):St:=⟨sp 24 [(3,aN),(6,.lst EK.whole a),(7,aI b),(8,aI c)],[],[]⟩
abbrev zh6 (a:List Int) (b:Int) (c:Nat) (d:Int) (e:List Int):St:=⟨sp 24 [(3,.own 0 0 c 2),(6,.lst EK.whole a),(7,aI b),(8,aI d)],[.lst EK.whole e true],[]⟩
abbrev zhh (a:List Int) (b:Int) (c:Nat) (d:Int) (e:List Int):St:=⟨sp 24 [(3,.own 0 0 c 2),(6,.lst EK.whole a),(7,aI b),(8,aI d)],[.lst EK.whole e true],[]⟩
theorem dr_L0_0_0 (a:List Int) (b d:Int) (h1:d<b) (h2:0≤d) (h3:d<(a.length:Int)) (h4:d > 0) (h5:cZ d) (h6:decide (a.getD d.toNat (EK.dflt EK.whole)<OfNat.ofNat 0)=decide (a.getD d.toNat (EK.dflt EK.whole)<0)) (h7:pDD (a.getD d.toNat (EK.dflt EK.whole)) d) (h8:1≤List.length [a.getD d.toNat (EK.dflt EK.whole)*d]) (h9:0<(List.take 1 [a.getD d.toNat (EK.dflt EK.whole)*d]).length) (h10:(List.take 1 [a.getD d.toNat (EK.dflt EK.whole)*d]).length*32≤140737488355328) (h11:(List.take 1 [a.getD d.toNat (EK.dflt EK.whole)*d]).length≤4611686018427387904) (h12:r64 (d+1)) {r:Ex × St} (k:zjj (zh6 a b (1) (d+1) ([a.getD d.toNat (EK.dflt EK.whole)*d])) r):zjj (zh5 a b d) r:=Loops.go (LS.at zjq 60 [2] [3,6,7,8] [] [1,1] (.t h1<|.t h2<|.t h3<|.t h4<|.c h5<|.c h6<|.c h7<|.c h8<|.t h9<|.t h10<|.t h11<|.i h12<|.e) [1,2,3,4,5,6,0,7,0,8,9,10,11,12]) k
theorem dr_L0_0_1 (a:List Int) (b c:Int) (h1:c<b) (h2:0≤c) (h3:c<(a.length:Int)) (h4:¬(c > 0)) (h5:r64 (c+1)) {r:Ex × St} (k:zjj (zh5 a b (c+1)) r):zjj (zh5 a b c) r:=Loops.go (LS.at zjq 60 [] [3,6,7,8] [] [1,0] (.t h1<|.t h2<|.t h3<|.f h4<|.i h5<|.e) [1,2,3,4,5]) k
theorem dr_L0_1_0 (a:List Int) (b:Int) (d:Nat) (f:Int) (g:List Int) (h1:f<b) (h2:0≤f) (h3:f<(a.length:Int)) (h4:f > 0) (h5:cZ f) (h6:decide (a.getD f.toNat (EK.dflt EK.whole)<OfNat.ofNat 0)=decide (a.getD f.toNat (EK.dflt EK.whole)<0)) (h7:pDD (a.getD f.toNat (EK.dflt EK.whole)) f) (h8:1≤List.length [a.getD f.toNat (EK.dflt EK.whole)*f]) (h9:(d+(List.take 1 [a.getD f.toNat (EK.dflt EK.whole)*f]).length)*32≤140737488355328) (h10:d+(List.take 1 [a.getD f.toNat (EK.dflt EK.whole)*f]).length≤4611686018427387904) (h11:d≤g.length) (h12:r64 (f+1)) {r:Ex × St} (k:zjj (zh6 a b (d+(List.take 1 [a.getD f.toNat (EK.dflt EK.whole)*f]).length) (f+1) (g.take d++List.take 1 [a.getD f.toNat (EK.dflt EK.whole)*f])) r):zjj (zh6 a b d f g) r:=Loops.go (LS.at zjq 60 [3] [3,6,7,8] [] [1,1] (.t h1<|.t h2<|.t h3<|.t h4<|.c h5<|.c h6<|.c h7<|.c h8<|.t h9<|.t h10<|.t h11<|.i h12<|.e) [1,2,3,4,5,6,0,7,0,8,9,10,11,12]) k
theorem dr_L0_1_2 (a:List Int) (b:Int) (c:Nat) (d:Int) (g:List Int) (h1:¬(d<b)):zjj (zh6 a b c d g) (Ex.exit 0,(zhh a b c d g)):=Loops.fin (LS.at zjq 60 [0] [3,6,7,8] [] [0] (.f h1<|.e) [1]) (fun h=>nomatch h)
theorem dr_1 (p:List Int) (a:Nat) (b:Int) (d:List Int) (hL1:zjj (zh5 p ((p.length:Int)) (0)) (Ex.exit 0,(zhh p ((p.length:Int)) a b d))) (h2:a≤d.length):FC Tryz.prog 192 [.lst .whole p] (.lst EK.whole (d.take a)):=eZ zjq 60 [] (.v [3,6,7,8] [] hL1<|.c h2<|.e) [0,1,2]
end
theorem zo1 {l:List Int} {k:Nat} (h:k<l.length):List.take k (List.take k l)++List.take 1 [l.getD k 0]=l.take (k+1):=by
 rw [List.take_take,Nat.min_self,List.take_succ_eq_append_getElem h]
 simp [List.getD,h]
theorem flB {x:Int} (h:x.natAbs≤1000):cZ x:=by unfold cZ;omega
theorem po_loop {p:List Int} (h:zdA p) (a b c:Int):∀(n k:Nat),k+n=p.length→1≤k→zmn (ziD p p.length a b c k k (p.take k)) (Ex.exit 0,zkI p p.length a b c p.length p.length p)
 | 0,k,hk,_=>by
  obtain rfl:k=p.length:=by omega
  have:=po_L0_1_1 p p.length a b c p.length p.length (p.take p.length) (by omega)
  rw [List.take_length] at this ⊢
  exact this
 | n+1,k,hk,h1=>by
  have hlt:k<p.length:=by omega
  have hl:=h.2.1
  have ih:=po_loop h a b c n (k+1) (by omega) (by omega)
  rw [← zo1 hlt] at ih
  have hg:=zfb h.2.2 k
  have e:Int.toNat (k:Int)=k:=by omega
  refine po_L0_1_0 p p.length a b c k k (p.take k) (by omega) (by omega) (by omega) (by omega) (flB (by rw [e];exact hg)) (by simp) (by simp;omega) (by simp;omega) (by simp;omega) (by omega) ?_
  rw [e]
  exact ih
theorem ziE (p:List Int) (a b c:Int) (h:zdA p):FC Tryz.prog 105 [.agg [.sq p,.lit (.int .i64 a),.lit (.int .i64 b),.lit (.int .i64 c)]] (.lst .whole p):=by
 have hl:=h.1
 have hg:=zfb h.2.2 0
 have k:=po_loop h a b c (p.length-1) 1 (by omega) (by omega)
 have e1:p.take 1=[p.getD 0 0]:=by
  rw [← zo1 (k:=0) (by omega)];rfl
 have s:=po_L0_0_0 p p.length a b c (by omega) (by omega) (by omega) (flB hg) (by simp) (by simp) (by simp) (by simp) (by rw [e1] at k;exact k)
 have:=po_1 p a b c p.length p.length p s (by omega)
 rw [List.take_length] at this
 exact this
def der (p:List Int):List Int:=(List.range (p.length-1)).map fun i=>p.getD (i+1) 0*((i+1:Nat):Int)
theorem der_get {p:List Int} {k:Nat} (h:k+1<p.length):(der p).getD k 0=p.getD (k+1) 0*((k+1:Nat):Int):=by
 unfold der
 rw [List.getD_eq_getElem?_getD,List.getElem?_map,List.getElem?_range (by omega)]
 rfl
theorem ze8 (p:List Int):(der p).length=p.length-1:=by simp [der]
theorem dr_loop {p:List Int} (h:zdA p):∀(n k:Nat),k+n=p.length→2≤k→zjj (zh6 p p.length (k-1) k ((der p).take (k-1))) (Ex.exit 0,zhh p p.length (p.length-1) p.length (der p))
 | 0,k,hk,_=>by
  obtain rfl:k=p.length:=by omega
  have:=dr_L0_1_2 p p.length (p.length-1) p.length ((der p).take (p.length-1)) (by omega)
  rw [← ze8,List.take_length] at this ⊢
  exact this
 | n+1,k,hk,h2=>by
  have hlt:k<p.length:=by omega
  have hl:=h.2.1
  obtain ⟨j,rfl⟩:∃j,k=j+1:=⟨k-1,by omega⟩
  have ih:=dr_loop h n (j+1+1) (by omega) (by omega)
  have hd:j<(der p).length:=by rw [ze8];omega
  rw [show j+1+1-1=j+1 by omega,← zo1 hd,der_get hlt] at ih
  have hg:=zfb h.2.2 (j+1)
  have e:Int.toNat ((j+1:Nat):Int)=j+1:=by omega
  have s1:Sz 3 (p.getD (j+1) 0):=by unfold Sz;omega
  have s2:Sz 3 ((j+1:Nat):Int):=by unfold Sz;omega
  have hD:pDD (p.getD (j+1) 0) ((j+1:Nat):Int):=⟨vZ s1 (by decide),vZ s2 (by decide)⟩
  rw [show j+1-1=j by omega]
  refine dr_L0_1_0 p p.length j ((j+1:Nat):Int) ((der p).take j) (by omega) (by omega) (by omega) (by omega) (by unfold cZ;omega) rfl (by rw [e];exact hD) (by simp) (by simp;omega) (by simp;omega) (by simp;omega) (by omega) ?_
  rw [e]
  exact ih
theorem zpq (p:List Int) (h:zdA p):FC Tryz.prog 192 [.lst .whole p] (.lst .whole (der p)):=by
 have hl:=h.1
 have hg:=zfb h.2.2 1
 have k:=dr_loop h (p.length-2) 2 (by omega) (by omega)
 have s1:Sz 3 (p.getD 1 0):=by unfold Sz;omega
 have hD:pDD (p.getD 1 0) 1:=⟨vZ s1 (by decide),vZ (k:=3) (by unfold Sz;omega) (by decide)⟩
 have e1:(der p).take 1=[p.getD 1 0*1]:=by
  have hd:0<(der p).length:=by rw [ze8];omega
  have:=zo1 hd
  rw [der_get (by omega)] at this
  rw [← this];rfl
 have s0:zjj (zh5 p p.length 1) (Ex.exit 0,zhh p p.length (p.length-1:Nat) p.length (der p)):=
  dr_L0_0_0 p p.length 1 (by omega) (by omega) (by omega) (by omega) (by unfold cZ;omega) rfl hD (by simp) (by simp) (by simp) (by simp) (by omega) (by rw [show(2:Nat)-1=1 by rfl,e1] at k;exact k)
 have s:=dr_L0_0_1 p p.length 0 (by omega) (by omega) (by omega) (by omega) (by omega) s0
 have:=dr_1 p (p.length-1:Nat) p.length (der p) s (by rw [ze8];omega)
 rw [← ze8,List.take_length] at this
 exact this
end Go.Proofs.YtloaeinogiplbaaGreatDoor
end
section
namespace Go.Kf
set_option linter.unusedVariables false
class CR (R:Type) where
 add:R→R→R
 mul:R→R→R
 neg:R→R
 zero:R
 one:R
 add_assoc:∀a b c,add (add a b) c=add a (add b c)
 add_comm:∀a b,add a b=add b a
 zero_add:∀a,add zero a=a
 neg_add:∀a,add (neg a) a=zero
 mul_assoc:∀a b c,mul (mul a b) c=mul a (mul b c)
 mul_comm:∀a b,mul a b=mul b a
 one_mul:∀a,mul one a=a
 mul_add:∀a b c,mul a (add b c)=add (mul a b) (mul a c)
namespace CR
variable {R:Type} [CR R]
theorem add_zero (a:R):add a zero=a:=by rw [add_comm,zero_add]
theorem add_neg (a:R):add a (neg a)=zero:=by rw [add_comm,neg_add]
theorem add_mul (a b c:R):mul (add a b) c=add (mul a c) (mul b c):=by rw [mul_comm,mul_add,mul_comm c a,mul_comm c b]
theorem zjv {a b c:R} (h:add a b=add a c):b=c:=by
 have:=congrArg (add (neg a)) h
 rwa [← add_assoc,← add_assoc,neg_add,zero_add,zero_add] at this
theorem mul_zero (a:R):mul a zero=zero:=by
 refine zjv (a:=mul a zero) ?_
 rw [← mul_add,zero_add,add_zero]
theorem zero_mul (a:R):mul zero a=zero:=by rw [mul_comm,mul_zero]
theorem mul_one (a:R):mul a one=a:=by rw [mul_comm,one_mul]
theorem zgE {a b:R} (h:add a b=zero):b=neg a:=by
 refine zjv (a:=a) ?_
 rw [h,add_neg]
theorem mul_neg (a b:R):mul a (neg b)=neg (mul a b):=zgE (by rw [← mul_add,add_neg,mul_zero])
theorem neg_neg (a:R):neg (neg a)=a:=(zgE (neg_add a)).symm
theorem neg_zero:neg (zero:R)=zero:=(zgE (add_zero zero)).symm
end CR
section
variable {R:Type} [CR R]
end
section
variable {R:Type} [CR R]
open CR
variable (e:Nat→R)
end
end Go.Kf
end
section
namespace Go.Kf
set_option linter.unusedVariables false
set_option linter.unusedSimpArgs false
abbrev V:=Nat→Rat
namespace V
def add (x y:V):V:=fun i=>x i+y i
def sm (r:Rat) (x:V):V:=fun i=>r*x i
def zero:V:=fun _=>0
def e0:V:=fun i=>if i=0 then 1 else 0
end V
open V
def Sup (n:Nat) (x:V):Prop:=∀i,n≤i→x i=0
def T (n:Nat) (p:V) (x:V):V:=fun i=>if i<n then(if i=0 then 0 else x (i-1))-x (n-1)*p i else 0
section
variable {n:Nat} {p:V}
theorem sup_T (x:V):Sup n (T n p x):=fun i h=>if_neg (by omega)
theorem sup_add {x y:V} (hx:Sup n x) (hy:Sup n y):Sup n (add x y):=fun i h=>by
 show x i+y i=0
 rw [hx i h,hy i h];exact Rat.add_zero 0
theorem zoX {r:Rat} {x:V} (hx:Sup n x):Sup n (sm r x):=fun i h=>by
 show r*x i=0
 rw [hx i h];exact Rat.mul_zero r
theorem zoY:Sup n zero:=fun _ _=>rfl
theorem sup_e0 (h:1≤n):Sup n e0:=fun i hi=>if_neg (by omega)
theorem zo9 (x y:V):T n p (add x y)=add (T n p x) (T n p y):=by
 funext i
 simp only [T,add]
 grind
theorem T_sm (r:Rat) (x:V):T n p (sm r x)=sm r (T n p x):=by
 funext i
 simp only [T,sm]
 grind
theorem T_zero:T n p zero=zero:=by
 funext i
 simp only [T,zero]
 grind
end
section
variable (n:Nat) (p:V)
def zcp:List Rat→V→V
 | [],_=>zero
 | c :: l,y=>add (sm c y) (T n p (zcp l y))
def crd (x:V):List Rat:=(List.range n).map x
def mul (x y:V):V:=zcp n p (crd n x) y
end
theorem zlf (x y:V):add x y=add y x:=funext fun i=>Rat.add_comm _ _
theorem zbq (x y z:V):add (add x y) z=add x (add y z):=funext fun i=>Rat.add_assoc _ _ _
theorem zdg (x:V):add zero x=x:=funext fun i=>Rat.zero_add _
theorem zhL (x:V):add x zero=x:=funext fun i=>Rat.add_zero _
theorem zmO (r:Rat) (x y:V):sm r (add x y)=add (sm r x) (sm r y):=funext fun i=>Rat.mul_add _ _ _
theorem zk4 (r s:Rat) (x:V):sm r (sm s x)=sm (r*s) x:=funext fun i=>(Rat.mul_assoc _ _ _).symm
theorem znO (r:Rat):sm r zero=zero:=funext fun i=>Rat.mul_zero _
theorem zje (x:V):sm 0 x=zero:=funext fun i=>Rat.zero_mul _
theorem one_sm (x:V):sm 1 x=x:=funext fun i=>Rat.one_mul _
theorem add_sm (r s:Rat) (x:V):sm (r+s) x=add (sm r x) (sm s x):=funext fun i=>Rat.add_mul _ _ _
theorem sm_comm (r s:Rat) (x:V):sm r (sm s x)=sm s (sm r x):=by rw [zk4,zk4,Rat.mul_comm]
theorem add4 (a b c d:V):add (add a b) (add c d)=add (add a c) (add b d):=by
 rw [zbq,← zbq b,zlf b c,zbq c,← zbq]
section
variable {n:Nat} {p:V}
theorem zol (l:List Rat) (x y:V):zcp n p l (add x y)=add (zcp n p l x) (zcp n p l y):=by
 induction l with
 | nil=>exact(zdg _).symm
 | cons c l ih=>show add (sm c (add x y)) (T n p (zcp n p l (add x y)))=_;rw [ih,zo9,zmO,add4];rfl
theorem znB (l:List Rat) (r:Rat) (x:V):zcp n p l (sm r x)=sm r (zcp n p l x):=by
 induction l with
 | nil=>exact(znO _).symm
 | cons c l ih=>show add (sm c (sm r x)) (T n p (zcp n p l (sm r x)))=_;rw [ih,T_sm,sm_comm,← zmO];rfl
theorem mulL_T (l:List Rat) (x:V):zcp n p l (T n p x)=T n p (zcp n p l x):=by
 induction l with
 | nil=>exact T_zero.symm
 | cons c l ih=>show add (sm c (T n p x)) (T n p (zcp n p l (T n p x)))=T n p (add (sm c x) (T n p (zcp n p l x)));rw [ih,zo9,T_sm]
theorem zl4 (l m:List Rat) (x:V):zcp n p l (zcp n p m x)=zcp n p m (zcp n p l x):=by
 induction l with
 | nil=>
  show zero=zcp n p m zero
  have:=znB (n:=n) (p:=p) m 0 zero
  rw [zje,zje] at this
  exact this.symm
 | cons c l ih=>
  show add (sm c (zcp n p m x)) (T n p (zcp n p l (zcp n p m x)))=zcp n p m (add (sm c x) (T n p (zcp n p l x)))
  rw [zol,znB,mulL_T,ih]
theorem zoW (l:List Rat) {x:V} (hx:Sup n x):Sup n (zcp n p l x):=by
 cases l with
 | nil=>exact zoY
 | cons c l=>exact sup_add (zoX hx) (sup_T _)
def ei (k:Nat):V:=fun i=>if i=k then 1 else 0
theorem T_ei {k:Nat} (h:k+1<n):T n p (ei k)=ei (k+1):=by
 funext i
 have h1:ei k (n-1)=0:=if_neg (by omega)
 simp only [T,h1]
 by_cases hi:i<n
 ·rw [if_pos hi]
  by_cases h0:i=0
  ·rw [if_pos h0]
   have:ei (k+1) i=0:=if_neg (by omega)
   rw [this];grind
  ·rw [if_neg h0]
   by_cases hk:i=k+1
   ·have h2:ei k (i-1)=1:=if_pos (by omega)
    have h3:ei (k+1) i=1:=if_pos hk
    rw [h2,h3];grind
   ·have h2:ei k (i-1)=0:=if_neg (by omega)
    have h3:ei (k+1) i=0:=if_neg hk
    rw [h2,h3];grind
 ·rw [if_neg hi]
  have:ei (k+1) i=0:=if_neg (by omega)
  exact this.symm
def ofL:Nat→List Rat→V
 | _,[]=>zero
 | k,c :: l=>add (sm c (ei k)) (ofL (k+1) l)
theorem zny:∀(l:List Rat) (k:Nat),k+l.length≤n→zcp n p l (ei k)=ofL k l
 | [],_,_=>rfl
 | [c],k,_=>by show add (sm c (ei k)) (T n p zero)=add (sm c (ei k)) zero;rw [T_zero]
 | c :: d :: l,k,h=>by
  simp only [List.length_cons] at h
  show add (sm c (ei k)) (T n p (zcp n p (d :: l) (ei k)))=add (sm c (ei k)) (ofL (k+1) (d :: l))
  rw [← mulL_T,T_ei (by omega),zny (d :: l) (k+1) (by simp;omega)]
theorem znC:∀(l:List Rat) (k i:Nat),ofL k l i=if k≤i then l.getD (i-k) 0 else 0
 | [],k,i=>by simp [ofL,zero]
 | c :: l,k,i=>by
  show c*ei k i+ofL (k+1) l i=_
  rw [znC l (k+1) i]
  by_cases h:i=k
  ·subst h
   rw [show ei i i=1 from if_pos rfl,if_neg (by omega),if_pos (by omega)]
   simp;grind
  ·rw [show ei k i=0 from if_neg h]
   grind
theorem e0_ei:e0=ei 0:=rfl
theorem zpm (x:V):(crd n x).length=n:=by simp [crd]
theorem crd_get (x:V) (i:Nat) (h:i<n):(crd n x).getD i 0=x i:=by
 simp [crd,List.getD_eq_getElem?_getD,List.getElem?_map,List.getElem?_range h]
theorem zkx {x:V} (hx:Sup n x):zcp n p (crd n x) e0=x:=by
 rw [e0_ei,zny _ 0 (by rw [zpm];omega)]
 funext i
 rw [znC,if_pos (Nat.zero_le _)]
 by_cases h:i<n
 ·exact crd_get x i h
 ·rw [hx i (by omega)]
  simp [List.getD_eq_getElem?_getD,crd]
  simp_all
def ev (n:Nat) (p:V) (l:List Rat):V:=zcp n p l e0
theorem zoV (h:1≤n) (l:List Rat):Sup n (ev n p l):=zoW l (sup_e0 h)
theorem znA {y:V} (hy:Sup n y) (l:List Rat):zcp n p l y=zcp n p (crd n y) (ev n p l):=by
 show _=zcp n p (crd n y) (zcp n p l e0)
 rw [zl4,zkx hy]
theorem zpG {y:V} (hy:Sup n y) {l m:List Rat} (h:ev n p l=ev n p m):zcp n p l y=zcp n p m y:=by
 rw [znA hy,znA hy,h]
theorem ev_crd {x:V} (hx:Sup n x):ev n p (crd n x)=x:=zkx hx
theorem znz (h1:1≤n) {y:V} (hy:Sup n y) (l:List Rat):zcp n p l y=mul n p (ev n p l) y:=
 zpG hy (by rw [ev_crd (zoV h1 l)])
theorem zc7 {x y:V} (hx:Sup n x) (hy:Sup n y):mul n p x y=mul n p y x:=by
 show zcp n p (crd n x) y=zcp n p (crd n y) x
 rw [znA hy,ev_crd hx]
theorem mul_add' (x y z:V):mul n p x (add y z)=add (mul n p x y) (mul n p x z):=zol _ _ _
theorem mul_sm (r:Rat) (x y:V):mul n p x (sm r y)=sm r (mul n p x y):=znB _ _ _
theorem mul_left' (x y z:V):mul n p x (mul n p y z)=mul n p y (mul n p x z):=zl4 _ _ _
theorem sup_mul {x y:V} (hy:Sup n y):Sup n (mul n p x y):=zoW _ hy
theorem zpH {x y z:V} (hx:Sup n x) (hy:Sup n y) (hz:Sup n z):mul n p (mul n p x y) z=mul n p x (mul n p y z):=by
 rw [zc7 (sup_mul hy) hz,zc7 hy hz,mul_left']
theorem e0_mul (h:1≤n) {x:V} (hx:Sup n x):mul n p e0 x=x:=by
 rw [zc7 (sup_e0 h) hx];exact zkx hx
end
class Fact' (q:Prop):Prop where
 ok:q
def F (n:Nat) (_p:V):Type:={ x:V // Sup n x }
instance instF {n:Nat} {p:V} [h:Fact' (1≤n)]:CR (F n p) where
 add x y:=⟨add x.1 y.1,sup_add x.2 y.2⟩
 mul x y:=⟨mul n p x.1 y.1,sup_mul y.2⟩
 neg x:=⟨sm (-1) x.1,zoX x.2⟩
 zero:=⟨zero,zoY⟩
 one:=⟨e0,sup_e0 h.ok⟩
 add_assoc _ _ _:=Subtype.ext (zbq _ _ _)
 add_comm _ _:=Subtype.ext (zlf _ _)
 zero_add _:=Subtype.ext (zdg _)
 neg_add x:=Subtype.ext (by
  show add (sm (-1) x.1) x.1=zero
  conv=>lhs;arg 2;rw [← one_sm x.1]
  rw [← add_sm,show(-1+1:Rat)=0 by grind]
  exact zje _)
 mul_assoc x y z:=Subtype.ext (zpH x.2 y.2 z.2)
 mul_comm x y:=Subtype.ext (zc7 x.2 y.2)
 one_mul x:=Subtype.ext (e0_mul h.ok x.2)
 mul_add _ _ _:=Subtype.ext (mul_add' _ _ _)
end Go.Kf
end
section
namespace Go.Kf
set_option linter.unusedVariables false
set_option linter.unusedSimpArgs false
def gL (g:Nat):List Int→Nat
 | []=>g
 | x :: l=>gL (Int.gcd g x) l
theorem gL_dvd:∀(l:List Int) (g:Nat),gL g l∣g∧∀x∈l,(gL g l:Int)∣x
 | [],g=>⟨Nat.dvd_refl g,fun _ h=>by cases h⟩
 | x :: l,g=>by
  obtain ⟨h1,h2⟩:=gL_dvd l (Int.gcd g x)
  have a:Int.gcd (g:Int) x∣g:=by have:=Int.gcd_dvd_natAbs_left (g:Int) x;simpa using this
  have b:((Int.gcd (g:Int) x:Nat):Int)∣x:=Int.gcd_dvd_right ..
  refine ⟨Nat.dvd_trans h1 a,fun y hy=>?_⟩
  rcases List.mem_cons.1 hy with rfl | hy
  ·exact Int.dvd_trans (Int.natCast_dvd_natCast.2 h1) b
  ·exact h2 y hy
theorem dvd_gL:∀(l:List Int) (g k:Nat),k∣g→(∀x∈l,(k:Int)∣x)→k∣gL g l
 | [],g,k,h,_=>h
 | x :: l,g,k,h,hl=>dvd_gL l _ k (Int.dvd_gcd (Int.natCast_dvd_natCast.2 h) (hl x (by simp))) fun y hy=>hl y (by simp [hy])
theorem gL_pos {g:Nat} (h:0<g) (l:List Int):0<gL g l:=Nat.pos_of_dvd_of_pos (gL_dvd l g).1 h
def dvs (c:List Int) (d:Int):Int:=if d<0 then -(gL d.natAbs c:Int) else(gL d.natAbs c:Int)
def loC (c:List Int) (d:Int) (i:Nat):Int:=c.getD i 0 / dvs c d
def loD (c:List Int) (d:Int):Int:=d / dvs c d
theorem zh7 {c:List Int} {d:Int} (h:d≠0):dvs c d≠0:=by
 have:=gL_pos (g:=d.natAbs) (by omega) c
 unfold dvs;split<;>omega
theorem zfa (c:List Int) (d:Int):dvs c d∣d∧∀i,dvs c d∣c.getD i 0:=by
 obtain ⟨h1,h2⟩:=gL_dvd c d.natAbs
 have h1':(gL d.natAbs c:Int)∣d:=Int.dvd_natAbs.1 (Int.natCast_dvd_natCast.2 h1)
 have h2':∀i,(gL d.natAbs c:Int)∣c.getD i 0:=fun i=>by
  by_cases h:i<c.length
  ·simp_all
  simp_all
 unfold dvs
 split
 ·simp_all
 ·exact ⟨h1',h2'⟩
theorem zio {c : List Int} {d:Int} (h:d≠0):0<loD c d:=by
 obtain ⟨k,hk⟩:=(zfa c d).1
 have h0:=zh7 (c:=c) h
 have : loD c d = k := by unfold loD;conv=>lhs;arg 1;rw [hk]
                          exact Int.mul_ediv_cancel_left k h0
 rw [this]
 have hp:=gL_pos (g:=d.natAbs) (by omega) c
 unfold dvs at hk
 split at hk
 ·rename_i hd
  rcases Int.lt_trichotomy k 0 with h1 | h1 | h1
  ·exfalso
   have:0 < -(gL d.natAbs c:Int)*k:=Int.mul_pos_of_neg_of_neg (by omega) h1
   omega
  ·subst h1;simp at hk;omega
  ·exact h1
 ·rename_i hd
  rcases Int.lt_trichotomy k 0 with h1 | h1 | h1
  ·exfalso
   have:(gL d.natAbs c:Int)*k<0:=Int.mul_neg_of_pos_of_neg (by omega) h1
   omega
  ·subst h1;simp at hk;omega
  ·exact h1
theorem zbP (c:List Int) (d:Int):loD c d*dvs c d=d:=Int.ediv_mul_cancel (zfa c d).1
theorem zbO (c:List Int) (d:Int) (i:Nat):loC c d i*dvs c d=c.getD i 0:=Int.ediv_mul_cancel ((zfa c d).2 i)
theorem zoj {c:List Int} {d:Int} (h:d≠0) {k:Nat} (h1:(k:Int)∣loD c d) (h2:∀i,(k:Int)∣loC c d i):k=1:=by
 have hg:=gL_pos (g:=d.natAbs) (by omega) c
 have ha:(dvs c d).natAbs=gL d.natAbs c:=by unfold dvs;split<;>omega
 have hd:d.natAbs=k*gL d.natAbs c*(loD c d / k).natAbs:=by
  obtain ⟨m,hm⟩:=h1
  have hk:(k:Int)≠0:=fun hk=>by
   have:=zbP c d
   simp_all
  have e1:loD c d / k=m:=by simp_all
  have e2:=congrArg Int.natAbs (zbP c d)
  rw [Int.natAbs_mul,ha] at e2
  have e3:=congrArg Int.natAbs hm
  rw [Int.natAbs_mul,Int.natAbs_natCast] at e3
  grind
 have h3:k*gL d.natAbs c∣gL d.natAbs c:=by
  refine dvd_gL _ _ _ ⟨_,hd⟩ fun x hx=>?_
  obtain ⟨i,hi,rfl⟩:=List.getElem_of_mem hx
  obtain ⟨m,hm⟩:=h2 i
  have:=zbO c d i
  rw [hm,List.getD_eq_getElem?_getD,List.getElem?_eq_getElem hi] at this
  simp only [Option.getD_some] at this
  have e4:((k*gL d.natAbs c:Nat):Int)∣(k:Int)*m*dvs c d:=by
   rw [← ha,Int.natCast_mul]
   rcases Int.natAbs_eq (dvs c d) with e | e
   ·rw [← e];exact ⟨m,by grind⟩
   ·exact ⟨-m,by grind⟩
  rw [this] at e4
  exact e4
 have h4:=Nat.le_of_dvd hg h3
 rcases Nat.lt_or_ge k 2 with h5 | h5
 ·grind
 ·have:2*gL d.natAbs c≤k*gL d.natAbs c:=Nat.mul_le_mul_right _ h5
  omega
theorem lo_eq {c c':List Int} {d d':Int} (h:d≠0) (h':d'≠0) (hc:∀i,c.getD i 0*d'=c'.getD i 0*d):loD c d=loD c' d'∧∀i,loC c d i=loC c' d' i:=by
 have g0:=zh7 (c:=c) h
 have g0':=zh7 (c:=c') h'
 have e:∀i,loC c d i*loD c' d'=loC c' d' i*loD c d:=fun i=>by
  have:=hc i
  rw [← zbO c d i,← zbO c' d' i,← zbP c d,← zbP c' d'] at this
  rw [zbP,zbP,zbO,zbO] at *
  have h2:(loC c d i*loD c' d'-loC c' d' i*loD c d)*(dvs c d*dvs c' d')=0:=by
   have a1:=zbO c d i;have a2:=zbO c' d' i;have a3:=zbP c d;have a4:=zbP c' d'
   grind
  rcases Int.mul_eq_zero.1 h2 with h3 | h3
  ·omega
  ·rcases Int.mul_eq_zero.1 h3 with h4 | h4<;>contradiction
 have p:=zio (c:=c) h
 have p':=zio (c:=c') h'
 have key:∀ {c c':List Int} {d d':Int},d≠0→0<loD c d→0<loD c' d'→(∀i,loC c d i*loD c' d'=loC c' d' i*loD c d)→loD c d∣loD c' d':=by
  intro c c' d d' h p p' e
  have hg:Int.gcd (loD c d) (loD c' d')≠0:=by
   intro h0;simp_all
  obtain ⟨a,ha⟩:=Int.gcd_dvd_left (loD c d) (loD c' d')
  obtain ⟨b,hb⟩:=Int.gcd_dvd_right (loD c d) (loD c' d')
  have cop:Int.gcd a b=1:=by
   have:=Int.gcd_mul_left (Int.gcd (loD c d) (loD c' d'):Int) a b
   rw [← ha,← hb] at this
   simp at this
   have h1:Int.gcd (loD c d) (loD c' d')*Int.gcd a b=Int.gcd (loD c d) (loD c' d')*1:=by omega
   exact Nat.eq_of_mul_eq_mul_left (by omega) h1
  have hdiv:∀i,a∣loC c d i:=fun i=>by
   have:=e i
   rw [ha,hb] at this
   have h3:loC c d i*b=loC c' d' i*a:=by
    have:(loC c d i*b-loC c' d' i*a)*(Int.gcd (loD c d) (loD c' d'):Int)=0:=by grind
    rcases Int.mul_eq_zero.1 this with h4 | h4<;>omega
   have h4:a.natAbs∣(loC c d i).natAbs*b.natAbs:=by
    rw [← Int.natAbs_mul,h3,Int.natAbs_mul];exact Nat.dvd_mul_left ..
   exact Int.natAbs_dvd_natAbs.1 (Nat.Coprime.dvd_of_dvd_mul_right (show Nat.gcd a.natAbs b.natAbs=1 from cop) h4)
  have h1:a.natAbs=1:=zoj (k:=a.natAbs) h (by rw [Int.natAbs_dvd];exact ⟨_,by rw [Int.mul_comm];exact ha⟩) fun i=>Int.natAbs_dvd.2 (hdiv i)
  have h2:(Int.gcd (loD c d) (loD c' d'):Int)=loD c d:=by
   grind
  exact ⟨b,by rw [← h2];exact hb⟩
 have d1:=key h p p' e
 have d2:=key h' p' p fun i=>(e i).symm
 have eD:loD c d=loD c' d':=Int.dvd_antisymm (by omega) (by omega) d1 d2
 refine ⟨eD,fun i=>?_⟩
 have:=e i
 rw [eD] at this
 exact Int.eq_of_mul_eq_mul_right (by omega) this
end Go.Kf
end
