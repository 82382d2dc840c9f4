/- Part of a proof about a given program: see the last module of the claim. -/
import Derived.Test.YtagbldogmjhdpaaGreatDoorC
section
open Go Go.Ev Go.RowKit
namespace Go.Proofs.YtagbldogmjhdpaaGreatDoor
open Go.Proofs
set_option maxRecDepth 100000
set_option maxHeartbeats 1000000
set_option linter.unusedVariables false
set_option linter.unusedSimpArgs false
noncomputable section
theorem tiL_0 (e f:Bool) (a b i d c k:Int) (n:Nat) (l:List Int):RndI (eZ tP ctr5 bw) 60 (kZ tP 103 1) 4 [] [2,3,4,5,6,7,8,32,33,34,40,41,42] [3] (TN e f a b i d c k n l) [1] [] [1,2,1,3,4,5,6,7,8,9,10,4,0,0,11,5,6,7,12] (Ex.normal) (⟨sp 86 [(2,.ref 0 0),(3,.ref 1 0),(4,.ref 2 0),(5,.own 3 0 n 1),(6,aI i),(7,aI d),(8,aI (Int.tdiv (l.getD (0+(i+k).toNat*1) 0+d*(digs b.natAbs).getD k.toNat 0+c) 100000000)),(32,.wd a),(33,aI (↑((digs a.natAbs).length):Int)),(34,aI i),(40,.wd b),(41,aI (↑((digs b.natAbs).length):Int)),(42,aI (k+1))],[.flat [.lit (.bool e),.wd a] true,.flat [.lit (.bool f),.wd b] true,.flat [aF,aN] true,.ints (l.set (0+(i+k).toNat*1) (Int.tmod (l.getD (0+(i+k).toNat*1) 0+d*(digs b.natAbs).getD k.toNat 0+c) 100000000)) true],[3]⟩) [decide (k<(↑((digs b.natAbs).length):Int))=true,decide (0≤k)=true,decide (k.toNat<(digs b.natAbs).length)=true,inR .i64 (i+k)=true,decide (0≤i+k)=true,decide (i+k<(n:Int))=true,decide (0+(i+k).toNat*1<l.length)=true,inR .i64 (d*(digs b.natAbs).getD k.toNat 0)=true,inR .i64 (l.getD (0+(i+k).toNat*1) 0+d*(digs b.natAbs).getD k.toNat 0)=true,inR .i64 (l.getD (0+(i+k).toNat*1) 0+d*(digs b.natAbs).getD k.toNat 0+c)=true,inR .i64 (Int.tdiv (l.getD (0+(i+k).toNat*1) 0+d*(digs b.natAbs).getD k.toNat 0+c) 100000000)=true,inR .i64 (k+1)=true]:={}
theorem tiL_1 (e f:Bool) (a b i d c k:Int) (n:Nat) (l:List Int):RndI (eZ tP ctr5 bw) 60 (kZ tP 103 1) 4 [] [2,3,4,5,6,7,8,32,33,34,40,41,42] [3] (TN e f a b i d c k n l) [0] [] [1] (Ex.exit 2) (⟨sp 86 [(2,.ref 0 0),(3,.ref 1 0),(4,.ref 2 0),(5,.own 3 0 n 1),(6,aI i),(7,aI d),(8,aI c),(32,.wd a),(33,aI (↑((digs a.natAbs).length):Int)),(34,aI i),(40,.wd b),(41,aI (↑((digs b.natAbs).length):Int)),(42,aI k)],[.flat [.lit (.bool e),.wd a] true,.flat [.lit (.bool f),.wd b] true,.flat [aF,aN] true,.ints l true],[3]⟩) [decide (k<(↑((digs b.natAbs).length):Int))=false]:={}
theorem toL_0 (d e:Bool) (a b i c k:Int) (n:Nat) (l f:List Int):RndI (eZ tP ctr5 bw) 60 (kZ tP 103 0) 4 [] [2,3,4,5,32,33,34] [3] (TO d e a b i n l) [1] [some (zdZ tP (kZ tP 103 1) [] [2,3,4,5,6,7,8,32,33,34,40,41,42] [3] (TN d e a b i ((digs a.natAbs).getD i.toNat 0) 0 0 n l) (.exit 2,TN d e a b i ((digs a.natAbs).getD i.toNat 0) c k n f))] [1,2,1,3,0,4,5,6,7,8,9] (Ex.normal) (⟨sp 86 [(2,.ref 0 0),(3,.ref 1 0),(4,.ref 2 0),(5,.own 3 0 n 1),(32,.wd a),(33,aI (↑((digs a.natAbs).length):Int)),(34,aI (i+1))],[.flat [.lit (.bool d),.wd a] true,.flat [.lit (.bool e),.wd b] true,.flat [aF,aN] true,.ints (f.set (0+(i+(↑((digs b.natAbs).length):Int)).toNat*1) c) true],[3]⟩) [decide (i<(↑((digs a.natAbs).length):Int))=true,decide (0≤i)=true,decide (i.toNat<(digs a.natAbs).length)=true,Loops 4 tP (kZ tP 103 1) ⟨sp 86 [(2,.ref 0 0),(3,.ref 1 0),(4,.ref 2 0),(5,.own 3 0 n 1),(6,aI i),(7,aI ((digs a.natAbs).getD i.toNat 0)),(8,aI 0),(32,.wd a),(33,aI (↑((digs a.natAbs).length):Int)),(34,aI i),(40,.wd b),(41,aI (↑((digs b.natAbs).length):Int)),(42,aI 0)],[.flat [.lit (.bool d),.wd a] true,.flat [.lit (.bool e),.wd b] true,.flat [aF,aN] true,.ints l true],[3]⟩ (Ex.exit 2,⟨sp 86 [(2,.ref 0 0),(3,.ref 1 0),(4,.ref 2 0),(5,.own 3 0 n 1),(6,aI i),(7,aI ((digs a.natAbs).getD i.toNat 0)),(8,aI c),(32,.wd a),(33,aI (↑((digs a.natAbs).length):Int)),(34,aI i),(40,.wd b),(41,aI (↑((digs b.natAbs).length):Int)),(42,aI k)],[.flat [.lit (.bool d),.wd a] true,.flat [.lit (.bool e),.wd b] true,.flat [aF,aN] true,.ints f true],[3]⟩),inR .i64 (i+(↑((digs b.natAbs).length):Int))=true,decide (0≤i+(↑((digs b.natAbs).length):Int))=true,decide (i+(↑((digs b.natAbs).length):Int)<(n:Int))=true,decide (0+(i+(↑((digs b.natAbs).length):Int)).toNat*1<f.length)=true,inR .i64 (i+1)=true]:={}
theorem toE_0 (c d:Bool) (a b i:Int) (n:Nat) (l:List Int):RndI (eZ tP ctr5 bw) 60 (kZ tP 103 0) 4 [] [2,3,4,5,32,33,34] [3] (TO c d a b i n l) [0] [] [1] (Ex.exit 0) (⟨sp 86 [(2,.ref 0 0),(3,.ref 1 0),(4,.ref 2 0),(5,.own 3 0 n 1),(32,.wd a),(33,aI (↑((digs a.natAbs).length):Int)),(34,aI i)],[.flat [.lit (.bool c),.wd a] true,.flat [.lit (.bool d),.wd b] true,.flat [aF,aN] true,.ints l true],[3]⟩) [decide (i<(↑((digs a.natAbs).length):Int))=false]:={}
abbrev zoy (c d:Bool) (a b:Int) (n:Nat):St:=⟨sp 86 [(2,.ref 0 0),(3,.ref 1 0),(4,.ref 2 0),(5,.own 3 0 n 1),(32,.wd a),(33,aI (↑((digs a.natAbs).length):Int)),(34,aI 0)],[.flat [.lit (.bool c),.wd a] true,.flat [.lit (.bool d),.wd b] true,.flat [aF,aN] true,.ints (List.replicate n 0) true],[3]⟩
theorem tim_2 (c d:Bool) (a b i:Int) (n:Nat) (l:List Int):FunI (eZ tP ctr5 bw) 60 103 [.agg [.lit (.bool c),.wd a],.agg [.lit (.bool d),.wd b]] [0,0] [some (zdZ tP (kZ tP 103 0) [] [2,3,4,5,32,33,34] [3] (TO c d a b 0 n (List.replicate n 0)) (.exit 0,TO c d a b i n l))] [1,2,3,4,5,6,7,8,9,10,11] (.agg [.lit (.bool (!(c==d))),.sq (trm (l.take n))]) [((↑((digs a.natAbs).length):Int)==0)=false,((↑((digs b.natAbs).length):Int)==0)=false,inR .i64 ((↑((digs a.natAbs).length):Int)+(↑((digs b.natAbs).length):Int))=true,decide (0≤(↑((digs a.natAbs).length):Int)+(↑((digs b.natAbs).length):Int))=true,decide ((↑((digs a.natAbs).length):Int)+(↑((digs b.natAbs).length):Int)≤(↑((digs a.natAbs).length):Int)+(↑((digs b.natAbs).length):Int))=true,decide (8*((↑((digs a.natAbs).length):Int)+(↑((digs b.natAbs).length):Int))≤281474976710656)=true,decide ((↑((digs a.natAbs).length):Int)+(↑((digs b.natAbs).length):Int)≤9223372036854775807)=true,(⟨sp 86 [(2,.ref 0 0),(3,.ref 1 0),(4,.ref 2 0),(5,.own 3 0 ((↑((digs a.natAbs).length):Int)+(↑((digs b.natAbs).length):Int)).toNat 1),(32,.wd a),(33,aI (↑((digs a.natAbs).length):Int)),(34,aI 0)],[.flat [.lit (.bool c),.wd a] true,.flat [.lit (.bool d),.wd b] true,.flat [aF,aN] true,.ints (List.replicate ((↑((digs a.natAbs).length):Int)+(↑((digs b.natAbs).length):Int)).toNat 0) true],[3]⟩:St)=(zoy c d a b n),Loops 4 tP (kZ tP 103 0) (zoy c d a b n) (Ex.exit 0,⟨sp 86 [(2,.ref 0 0),(3,.ref 1 0),(4,.ref 2 0),(5,.own 3 0 n 1),(32,.wd a),(33,aI (↑((digs a.natAbs).length):Int)),(34,aI i)],[.flat [.lit (.bool c),.wd a] true,.flat [.lit (.bool d),.wd b] true,.flat [aF,aN] true,.ints l true],[3]⟩),n≤l.length,MZ (l.take n)]:={}
theorem timZ_0 (c d:Bool) (a b:Int):FunI (eZ tP ctr5 bw) 60 103 [.agg [.lit (.bool c),.wd a],.agg [.lit (.bool d),.wd b]] [1] [] [1] (.agg [aF,aN]) [((↑((digs a.natAbs).length):Int)==0)=true]:={}
theorem timZ_1 (c d:Bool) (a b:Int):FunI (eZ tP ctr5 bw) 60 103 [.agg [.lit (.bool c),.wd a],.agg [.lit (.bool d),.wd b]] [0,1] [] [1,2] (.agg [aF,aN]) [((↑((digs a.natAbs).length):Int)==0)=false,((↑((digs b.natAbs).length):Int)==0)=true]:={}
end
theorem zgj:∀(l:List Int) (j:Nat) (v:Int),j<l.length→vl (l.set j v)=vl l+100000000 ^ j*(v-l.getD j 0)
 | [],j,v,h=>by simp at h
 | d :: l,0,v,h=>by simp [vl];omega
 | d :: l,j+1,v,h=>by
  have:=zgj l j v (by simpa using h)
  simp only [List.set_cons_succ,vl,this,List.getD_cons_succ,Int.pow_succ]
  rw [Int.mul_add,← Int.mul_assoc,Int.mul_comm 100000000 (100000000 ^ j)]
  omega
theorem IZ (l:List Int) (i j:Nat) (v:Int) (h:i≠j):(l.set j v).getD i 0=l.getD i 0:=by
 simp [List.getD,List.getElem?_set_ne (Ne.symm h)]
theorem zem {l:List Int} (h:Digs l) (j:Nat) {v:Int} (h0:0≤v) (h1:v<100000000):Digs (l.set j v):=by
 intro d hd
 rcases List.mem_or_eq_of_mem_set hd with hd | rfl
 ·exact h d hd
 ·exact ⟨h0,h1⟩
theorem mul_dig {d y:Int} (h0:0≤d) (h1:d<100000000) (h2:0≤y) (h3:y<100000000):0≤d*y∧d*y≤9999999800000001:=by
 refine ⟨Int.mul_nonneg h0 h2,?_⟩
 have:=Int.mul_le_mul (show d≤99999999 by omega) (show y≤99999999 by omega) h2 (by decide)
 omega
theorem timesI (na nb:Bool) (a b d:Int) (hd0:0≤d) (hd1:d<100000000) (i n:Nat) (hn:n≤2097152) (hin:i+(digs b.natAbs).length<n):∀(r k:Nat) (l:List Int) (c:Int),k+r=(digs b.natAbs).length→Digs l→0≤c→c<100000000→l.length=n →
 ∃(l2:List Int) (c2:Int),Digs l2∧l2.length=n∧0≤c2∧c2<100000000∧vl l2+100000000 ^ (i+(digs b.natAbs).length)*c2=vl l+100000000 ^ (i+k)*(c+d*vl ((digs b.natAbs).drop k)) ∧
  (∀j,i+(digs b.natAbs).length≤j→l2.getD j 0=l.getD j 0) ∧
  Loops 4 tP (kZ tP 103 1) (TN na nb a b i d c k n l) (.exit 2,TN na nb a b i d c2 ((digs b.natAbs).length:Int) n l2)
 | 0,k,l,c,hk,hl,hc0,hc1,hln=>by
  obtain rfl:k=(digs b.natAbs).length:=by omega
  refine ⟨l,c,hl,hln,hc0,hc1,?_,fun _ _=>rfl,Loops.fin (LS.of ok5 (tiL_1 na nb a b i d c ((digs b.natAbs).length:Int) n l) (by(repeat' (first | exact AllC.nil | refine AllC.cons ?_ ?_));all_goals (first | exact CU.h {} | (simp []<;>omega) | assumption | rfl))) (by simp [Ex.toExit])⟩
  rw [List.drop_length];simp [vl]
 | r + 1,k,l,c,hk,hl,hc0,hc1,hln=>by
  have hnat:0+Int.toNat ((i:Int)+(k:Int))*1=i+k:=by omega
  have hkn:Int.toNat (k:Int)=k:=by omega
  have hkb:k<(digs b.natAbs).length:=by omega
  obtain ⟨hy0,hy1⟩:=GZ (oZ b.natAbs) k
  obtain ⟨hx0,hx1⟩:=GZ hl (i+k)
  obtain ⟨hm0,hm1⟩:=mul_dig hd0 hd1 hy0 hy1
  obtain ⟨t1,t2⟩:=tdm (t:=l.getD (i+k) 0+d*(digs b.natAbs).getD k 0+c) (by omega)
  have h:=LS.of ok5 (tiL_0 na nb a b i d c k n l) (by
   rw [hnat,hkn,t1]
   generalize d*(digs b.natAbs).getD k 0=m at *
   exact(by(repeat' (first | exact AllC.nil | refine AllC.cons ?_ ?_));all_goals (first | exact CU.h {} | (simp [hkb,hln]<;>omega) | assumption | rfl)))
  rw [hnat,hkn,t1,t2] at h
  have hv:=zgj l (i+k) ((l.getD (i+k) 0+d*(digs b.natAbs).getD k 0+c) % 100000000) (by omega)
  have hdr:=zan (digs b.natAbs) k
  have hD:Digs (l.set (i+k) ((l.getD (i+k) 0+d*(digs b.natAbs).getD k 0+c) % 100000000)):=zem hl _ (by omega) (by omega)
  obtain ⟨l2,c2,k1,k2,k3,k4,k5,k6,k7⟩:=timesI na nb a b d hd0 hd1 i n hn hin r (k+1) (l.set (i+k) ((l.getD (i+k) 0+d*(digs b.natAbs).getD k 0+c) % 100000000)) ((l.getD (i+k) 0+d*(digs b.natAbs).getD k 0+c) / 100000000)
   (by omega) hD (by omega) (by omega) (by simp;omega)
  have e:((k+1:Nat):Int)=(k:Int)+1:=by omega
  rw [e] at k7
  refine ⟨l2,c2,k1,k2,k3,k4,?_,fun j hj=>(k6 j hj).trans (IZ _ _ _ _ (by omega)),Loops.go h k7⟩
  rw [k5,hv,hdr,← Nat.add_assoc,Int.pow_succ]
  generalize hT:l.getD (i+k) 0+d*(digs b.natAbs).getD k 0+c=t
  have e2:c+d*((digs b.natAbs).getD k 0+100000000*vl ((digs b.natAbs).drop (k+1)))=(t % 100000000-l.getD (i+k) 0)+100000000*(t / 100000000+d*vl ((digs b.natAbs).drop (k+1))):=by
   rw [Int.mul_add d,Int.mul_left_comm d 100000000]
   generalize d*(digs b.natAbs).getD k 0=m at *
   omega
  rw [e2,alg1,Int.add_assoc]
theorem timesO (na nb:Bool) (a b:Int) (ha:zag a) (hb:zag b) (n:Nat) (hn:n=(digs a.natAbs).length+(digs b.natAbs).length) (hb0:0<(digs b.natAbs).length):∀(r i:Nat) (l:List Int),i+r=(digs a.natAbs).length→Digs l→l.length=n →
 (∀j,i+(digs b.natAbs).length≤j→l.getD j 0=0) →
 ∃l2:List Int,Digs l2∧l2.length=n∧vl l2=vl l+100000000 ^ i*(vl ((digs a.natAbs).drop i)*(b.natAbs:Int)) ∧
  Loops 4 tP (kZ tP 103 0) (TO na nb a b i n l) (.exit 0,TO na nb a b ((digs a.natAbs).length:Int) n l2)
 | 0,i,l,hi,hl,hln,hz=>by
  obtain rfl:i=(digs a.natAbs).length:=by omega
  refine ⟨l,hl,hln,?_,Loops.fin (LS.of ok5 (toE_0 na nb a b ((digs a.natAbs).length:Int) n l) (by(repeat' (first | exact AllC.nil | refine AllC.cons ?_ ?_));all_goals (first | exact CU.h {} | (simp []<;>omega) | assumption | rfl))) (by simp [Ex.toExit])⟩
  rw [List.drop_length];simp [vl]
 | r + 1,i,l,hi,hl,hln,hz=>by
  have ha':=ha
  have hb':=hb
  unfold zag dl at ha' hb'
  have hin:Int.toNat (i:Int)=i:=by omega
  have hnat:0+Int.toNat ((i:Int)+((digs b.natAbs).length:Int))*1=i+(digs b.natAbs).length:=by omega
  have hia:i<(digs a.natAbs).length:=by omega
  obtain ⟨hd0,hd1⟩:=GZ (oZ a.natAbs) i
  obtain ⟨l2,c2,k1,k2,k3,k4,k5,k6,k7⟩:=timesI na nb a b ((digs a.natAbs).getD i 0) hd0 hd1 i n (by omega) (by omega) (digs b.natAbs).length 0 l 0 (by omega) hl (by omega) (by omega) hln
  have k7':Loops 4 tP (kZ tP 103 1) (TN na nb a b i ((digs a.natAbs).getD i 0) 0 0 n l) (.exit 2,TN na nb a b i ((digs a.natAbs).getD i 0) c2 ((digs b.natAbs).length:Int) n l2):=k7
  have h:=LS.of ok5 (toL_0 na nb a b i c2 ((digs b.natAbs).length:Int) n l l2) (by
   rw [hnat,hin]
   exact(by(repeat' (first | exact AllC.nil | refine AllC.cons ?_ ?_));all_goals (first | exact CU.h {} | (simp [hia,k2]<;>omega) | assumption | rfl)))
  rw [hnat] at h
  have hv:=zgj l2 (i+(digs b.natAbs).length) c2 (by omega)
  have h0:l2.getD (i+(digs b.natAbs).length) 0=0:=by rw [k6 _ (Nat.le_refl _)];exact hz _ (Nat.le_refl _)
  rw [h0,Int.sub_zero,k5] at hv
  obtain ⟨l4,m1,m2,m3,m4⟩:=timesO na nb a b ha hb n hn hb0 r (i+1) (l2.set (i+(digs b.natAbs).length) c2) (by omega) (zem k1 _ k3 k4) (by simp;omega) (fun j hj=>by
   rw [IZ _ _ _ _ (by omega),k6 j (by omega)];exact hz j (by omega))
  have e:((i+1:Nat):Int)=(i:Int)+1:=by omega
  rw [e] at m4
  refine ⟨l4,m1,m2,?_,Loops.go h m4⟩
  rw [m3,hv,zan (digs a.natAbs) i,List.drop_zero,XZ,Int.zero_add,Nat.add_zero,Int.pow_succ,Int.add_mul,Int.mul_assoc 100000000,alg1,Int.add_assoc]
theorem times_fc (a b:Int) (h:pDD a b):FC tP 103 [W a,W b] (W (a*b)):=by
 obtain ⟨ha,hb⟩:=h
 have ha':=ha
 have hb':=hb
 unfold zag dl at ha' hb'
 by_cases ha0:a=0
 ·subst ha0
  have:=lZ ok5 (timZ_0 (decide ((0:Int)<0)) (decide (b<0)) 0 b) (.cons (by simp [QZ]) .nil)
  exact this.res fun E v h=>h.toW (b:=false) (l:=[]) rfl rfl (by simp) (by simp [QZ])
 ·have hna:=zd8 ha0
  by_cases hb0:b=0
  ·subst hb0
   have:=lZ ok5 (timZ_1 (decide (a<0)) (decide ((0:Int)<0)) a 0) (.cons (by simp [hna]) (.cons (by simp [QZ]) .nil))
   exact this.res fun E v h=>h.toW (b:=false) (l:=[]) rfl rfl (by simp) (by simp [QZ])
  ·have hnb:=zd8 hb0
   have hpa:=zbJ ha0
   have hpb:=zbJ hb0
   obtain ⟨N,hN⟩:∃N,N=Int.toNat (((digs a.natAbs).length:Int)+((digs b.natAbs).length:Int)):=⟨_,rfl⟩
   have hN2:N=(digs a.natAbs).length+(digs b.natAbs).length:=by omega
   have hz0:Digs (List.replicate N 0):=fun d hd=>by
    have:=List.eq_of_mem_replicate hd
    omega
   have hvz:∀m:Nat,vl (List.replicate m 0)=0:=by
    intro m
    induction m with
    | zero=>rfl
    | succ m ih=>simp only [List.replicate_succ,vl,ih];rfl
   obtain ⟨l2,k1,k2,k3,k4⟩:=timesO (decide (a<0)) (decide (b<0)) a b ha hb N hN2 hpb (digs a.natAbs).length 0 (List.replicate N 0) (by omega) hz0 (by simp) (fun j hj=>by simp [List.getD,List.getElem?_replicate];split<;>rfl)
   have k4':Loops 4 tP (kZ tP 103 0) (TO (decide (a<0)) (decide (b<0)) a b 0 N (List.replicate N 0)) (.exit 0,TO (decide (a<0)) (decide (b<0)) a b ((digs a.natAbs).length:Int) N l2):=k4
   have hst:List.take N l2=l2:=by rw [← k2,zar]
   have:=lZ ok5 (tim_2 (decide (a<0)) (decide (b<0)) a b ((digs a.natAbs).length:Int) N l2) (by
    rw [hst,← hN]
    exact(by(repeat' (first | exact AllC.nil | refine AllC.cons ?_ ?_));all_goals (first | exact CU.h {} | (simp [hna,hnb,k2,MZ]<;>omega) | assumption | rfl)))
   rw [hst] at this
   have hprod:vl l2=((a.natAbs*b.natAbs:Nat):Int):=by
    rw [k3,hvz,List.drop_zero,XZ,Int.pow_zero,Int.one_mul,Int.zero_add];simp
   refine this.res fun E v h=>h.toW (b:=(!(decide (a<0)==decide (b<0)))) rfl rfl ?_ ?_
   ·rcases Int.lt_or_gt_of_ne ha0 with h1 | h1<;>rcases Int.lt_or_gt_of_ne hb0 with h2 | h2
    ·have:=Int.mul_pos_of_neg_of_neg h1 h2
     simp [h1,h2];omega
    ·have:=Int.mul_neg_of_neg_of_pos h1 h2
     have h3:¬b<0:=by omega
     simp [h1,h3,this]
    ·have:=Int.mul_neg_of_pos_of_neg h1 h2
     have h3:¬a<0:=by omega
     simp [h2,h3,this]
    ·have:=Int.mul_pos h1 h2
     have h3:¬a<0:=by omega
     have h4:¬b<0:=by omega
     simp [h3,h4];omega
   ·rw [zas k1,hprod,Int.toNat_natCast,Int.natAbs_mul]
def ctr6:Ctr:=(103,c2 pDD (fun a b=>W (a*b))) :: ctr5
theorem znt:∀p∈ctr6,jZ tP p.1 p.2:=CAll.cons (c2_ok times_fc) zns
theorem ok6:(eZ tP ctr6 bw).OK:=JZ znt
end Go.Proofs.YtagbldogmjhdpaaGreatDoor
end
section
open Go Go.Ev
namespace Go.Proofs.YtagbldogmjhdpaaGreatDoor
open Go.Proofs
def cLI (p:List Int→Int→Prop) (r:List Int→Int→AV) (args:List AV):M AV:=match args with
 | [x,.lit (.int .i64 n)]=>do
  let l ← ofOpt 217 (ints? x)
  tell (p l n)
  M.pure (r l n)
 | _=>fail 218
theorem cLI_ok {P:Program} {f:FuncId} {p:List Int→Int→Prop} {r:List Int→Int→AV} (h:∀l n,p l n→FC P f [.sq l,lI n] (r l n)):jZ P f (cLI p r):=by
 intro args _
 unfold cLI
 split
 ·exact Spec.bind (Spec.ofOpt fun l hl=>Spec.bind (Spec.tell fun hp=>Spec.pure' ((h l _ hp).arg2 (fun E v hv=>hv.toSq hl) (fun E v hv=>hv))))
 ·exact Spec.fail
abbrev SH (l:List Int) (n r i:Int) (m:Nat) (a:List Int):St:=⟨sp 38 [(0,.sq l),(1,lI n),(6,.own 0 0 m 1),(7,lI r),(8,lI i)],[.ints a true],[0]⟩
end Go.Proofs.YtagbldogmjhdpaaGreatDoor
end
section
open Go Go.Ev Go.RowKit
namespace Go.Proofs.YtagbldogmjhdpaaGreatDoor
open Go.Proofs
set_option maxRecDepth 100000
set_option maxHeartbeats 1000000
set_option linter.unusedVariables false
set_option linter.unusedSimpArgs false
noncomputable section
theorem shL_0 (l:List Int) (n r i:Int) (m:Nat) (a:List Int):RndI (eZ tP ctr6 bw) 60 (kZ tP 159 0) 1 [] [0,1,6,7,8] [0] (SH l n r i m a) [1] [] [1,2,3,4,5,6,7,8,7,3,9,10,11] (Ex.normal) (⟨sp 38 [(0,.sq l),(1,aI n),(6,.own 0 0 m 1),(7,aI (Int.tmod (r*100000000+l.getD i.toNat 0) n)),(8,aI (i-1))],[.ints (a.set (0+i.toNat*1) (Int.tdiv (r*100000000+l.getD i.toNat 0) n)) true],[0]⟩) [decide (i≥0)=true,inR .i64 (r*100000000)=true,decide (0≤i)=true,decide (i<(l.length:Int))=true,decide (i.toNat<l.length)=true,inR .i64 (r*100000000+l.getD i.toNat 0)=true,(!decide (n=0))=true,inR .i64 (Int.tdiv (r*100000000+l.getD i.toNat 0) n)=true,decide (i<(m:Int))=true,decide (0+i.toNat*1<a.length)=true,inR .i64 (i-1)=true]:={}
theorem shL_1 (l:List Int) (n r i:Int) (m:Nat) (a:List Int):RndI (eZ tP ctr6 bw) 60 (kZ tP 159 0) 1 [] [0,1,6,7,8] [0] (SH l n r i m a) [0] [] [1] (Ex.exit 0) (⟨sp 38 [(0,.sq l),(1,aI n),(6,.own 0 0 m 1),(7,aI r),(8,aI i)],[.ints a true],[0]⟩) [decide (i≥0)=false]:={}
theorem sh_0 (l:List Int) (n r i:Int) (m:Nat) (a:List Int):FunI (eZ tP ctr6 bw) 60 159 [.sq l,lI n] [] [some (zdZ tP (kZ tP 159 0) [] [0,1,6,7,8] [0] (SH l n 0 ((l.length:Int)-1) m (List.replicate m 0)) (.exit 0,SH l n r i m a))] [0,1,2,3,4,5,6,7,8] (.tup [.sq (trm (a.take m)),aI r]) [decide ((l.length:Int)≤(l.length:Int))=true,decide (8*(l.length:Int)≤281474976710656)=true,decide ((l.length:Int)≤9223372036854775807)=true,inR .i64 ((l.length:Int)-1)=true,(⟨sp 38 [(0,.sq l),(1,aI n),(6,.own 0 0 (l.length:Int).toNat 1),(7,aI 0),(8,aI ((l.length:Int)-1))],[.ints (List.replicate (l.length:Int).toNat 0) true],[0]⟩:St)=⟨sp 38 [(0,.sq l),(1,aI n),(6,.own 0 0 m 1),(7,aI 0),(8,aI ((l.length:Int)-1))],[.ints (List.replicate m 0) true],[0]⟩,Loops 1 tP (kZ tP 159 0) ⟨sp 38 [(0,.sq l),(1,aI n),(6,.own 0 0 m 1),(7,aI 0),(8,aI ((l.length:Int)-1))],[.ints (List.replicate m 0) true],[0]⟩ (Ex.exit 0,⟨sp 38 [(0,.sq l),(1,aI n),(6,.own 0 0 m 1),(7,aI r),(8,aI i)],[.ints a true],[0]⟩),m≤a.length,MZ (a.take m)]:={}
end
theorem tdn {t n:Int} (h:0≤t) (hn:0<n):Int.tdiv t n=t / n∧Int.tmod t n=t % n:=
 ⟨Int.tdiv_eq_ediv_of_nonneg h,Int.tmod_eq_emod_of_nonneg h⟩
theorem zjF (l:List Int) (k:Nat) (v:Int):(l.set k v).drop (k+1)=l.drop (k+1):=by
 apply List.ext_getElem?
 intro i
 rw [List.getElem?_drop,List.getElem?_drop,List.getElem?_set_ne (by omega)]
theorem zcs (l:List Int) (k:Nat) (v:Int) (h:k<l.length):(l.set k v).getD k 0=v:=by simp [List.getD,h]
theorem shortL (l:List Int) (n:Int) (hn:0<n) (hnB:n≤100000000) (hl:Digs l) (hll:l.length≤4194304):∀(k:Nat) (r:Int) (out:List Int),k≤l.length→out.length=l.length→0≤r→r<n→Digs out→vl (out.drop k)*n+r=vl (l.drop k) →
 ∃(r2:Int) (out2:List Int),out2.length=l.length∧0≤r2∧r2<n∧Digs out2∧vl out2*n+r2=vl l ∧
  Loops 1 tP (kZ tP 159 0) (SH l n r ((k:Int)-1) l.length out) (.exit 0,SH l n r2 (-1) l.length out2)
 | 0,r,out,hk,ho,h0,h1,hd,hv=>by
  rw [List.drop_zero,List.drop_zero] at hv
  exact ⟨r,out,ho,h0,h1,hd,hv,Loops.fin (LS.of ok6 (shL_1 l n r (-1) l.length out) (by(repeat' (first | exact AllC.nil | refine AllC.cons ?_ ?_));all_goals (first | exact CU.h {} | (simp []<;>omega) | assumption | rfl))) (by simp [Ex.toExit])⟩
 | k + 1,r,out,hk,ho,h0,h1,hd,hv=>by
  have hnat:0+Int.toNat (((k+1:Nat):Int)-1)*1=k:=by omega
  have hnat2:Int.toNat (((k+1:Nat):Int)-1)=k:=by omega
  have hx:=GZ hl k
  have hkl:k<l.length:=by omega
  obtain ⟨t1,t2⟩:=tdn (t:=r*100000000+l.getD k 0) (n:=n) (by omega) hn
  have hq0:0≤(r*100000000+l.getD k 0) / n:=Int.ediv_nonneg (by omega) (by omega)
  have hq1:(r*100000000+l.getD k 0) / n<100000000:=Int.ediv_lt_of_lt_mul hn (by omega)
  have hr0:0≤(r*100000000+l.getD k 0) % n:=Int.emod_nonneg _ (by omega)
  have hr1:(r*100000000+l.getD k 0) % n<n:=Int.emod_lt_of_pos _ hn
  have hdm:=Int.mul_ediv_add_emod (r*100000000+l.getD k 0) n
  have hn0:(!decide (n=0))=true:=by simp;omega
  have h:=LS.of ok6 (shL_0 l n r (((k+1:Nat):Int)-1) l.length out) (by
   rw [hnat,hnat2,t1]
   exact(by(repeat' (first | exact AllC.nil | refine AllC.cons ?_ ?_));all_goals (first | exact CU.h {} | (simp [ho]<;>omega) | assumption | rfl)))
  rw [hnat,hnat2,t1,t2] at h
  have e:((k+1:Nat):Int)-1-1=(k:Int)-1:=by omega
  rw [e] at h
  have hv2:vl ((out.set k ((r*100000000+l.getD k 0) / n)).drop k)*n+(r*100000000+l.getD k 0) % n=vl (l.drop k):=by
   rw [zan (out.set k _) k,zjF,zcs _ _ _ (by omega),zan l k,← hv,Int.add_mul,Int.mul_assoc]
   rw [Int.mul_comm n] at hdm
   omega
  obtain ⟨r2,out2,k1,k2,k3,k4,k5,k6⟩:=shortL l n hn hnB hl hll k _ _ (by omega) (by simp;omega) hr0 hr1 (zem hd _ hq0 hq1) hv2
  exact ⟨r2,out2,k1,k2,k3,k4,k5,Loops.go h k6⟩
theorem Rd_lit_eq {E:Env} {a b:Value} {v:Value} (h:a=b) (hr:Rd E (.lit a) v):Rd E (.lit b) v:=h▸hr
def zgd (l:List Int) (n:Int):Prop:=Digs l∧l.length≤4194304∧0<n∧n≤100000000
theorem short_fc (l:List Int) (n:Int) (h:zgd l n):FC tP 159 [.sq l,lI n] (.tup [.wd (vl l / n),lI (vl l % n)]):=by
 obtain ⟨hl,hll,hn,hnB⟩:=h
 have hz0:Digs (List.replicate l.length 0):=fun d hd=>by
  have:=List.eq_of_mem_replicate hd
  omega
 obtain ⟨r2,out2,k1,k2,k3,k4,k5,k6⟩:=shortL l n hn hnB hl hll l.length 0 (List.replicate l.length 0) (Nat.le_refl _) (by simp) (Int.le_refl _) hn hz0 (by
  rw [List.drop_length,List.drop_eq_nil_of_le (by simp)];simp [vl])
 have e:List.take l.length out2=out2:=by rw [← k1,zar]
 have:=lZ ok6 (sh_0 l n r2 (-1) l.length out2) (by
  rw [e]
  simp only [Int.toNat_natCast]
  exact(by(repeat' (first | exact AllC.nil | refine AllC.cons ?_ ?_));all_goals (first | exact CU.h {} | (simp [k1,MZ]<;>omega) | assumption | rfl)))
 rw [e] at this
 have hq:vl l / n=vl out2:=by
  rw [← k5,Int.mul_comm,Int.add_comm,Int.add_mul_ediv_left _ _ (by omega),Int.ediv_eq_zero_of_lt k2 k3,Int.zero_add]
 have hr:vl l % n=r2:=by
  rw [← k5,Int.mul_comm,Int.add_comm,Int.add_mul_emod_self_left,Int.emod_eq_of_lt k2 k3]
 have hv0:=FZ k4
 refine this.res fun E v hv=>hv.tup2 (fun u hu=>hu.toWd rfl ?_) (fun u hu=>Rd_lit_eq (by rw [hr]) hu)
 rw [zas k4,hq]
 congr 1
 omega
def zmt:Ctr:=(159,cLI zgd (fun l n=>.tup [.wd (vl l / n),lI (vl l % n)])) :: ctr6
theorem znu:∀p∈zmt,jZ tP p.1 p.2:=CAll.cons (cLI_ok short_fc) znt
end Go.Proofs.YtagbldogmjhdpaaGreatDoor
end
section
open Go Go.Ev
namespace Go.Proofs.YtagbldogmjhdpaaGreatDoor
open Go.Proofs
def dmy:zay:=none
abbrev TW (c d:Bool) (a b:Int) (n:Nat) (l:List Int):St:=⟨sp 21 [(0,.own 3 0 n 1)],[.flat [.lit (.bool c),.wd a] true,.flat [.lit (.bool d),.wd b] true,.flat [.lit (.bool false),.lit (.slice none 0 0)] true,.ints l true],[]⟩
abbrev rwL (a f:Int) (n2:Nat) (u out:List Int):List Row:=[.flat [.lit (.bool false),.wd a] true,.flat [.lit (.bool (decide (f<0))),.wd f] true,.flat [.lit (.bool (!(false==decide (f<0)))),.own 3 0 n2 1] true,.dead,.ints [0,0] true,.ints u true,.ints out true]
abbrev LO (a f:Int) (b:Nat) (V:Int) (L J:Nat) (j:Int) (u c:List Int):St:=⟨sp 182 [(6,lI f),(7,.own 5 0 L 1),(8,.wd V),(9,lI ((digs V.natAbs).length:Int)),(10,.own 6 0 J 1),(11,lI j)],rwL a f b u c,[2,3,4,5,6]⟩
abbrev LSb (a f:Int) (b:Nat) (V:Int) (L J:Nat) (j g c i:Int) (u d:List Int):St:=⟨sp 182 [(6,lI f),(7,.own 5 0 L 1),(8,.wd V),(9,lI ((digs V.natAbs).length:Int)),(10,.own 6 0 J 1),(11,lI j),(12,lI g),(13,lI c),(81,lI ((digs V.natAbs).length:Int)),(82,lI i)],rwL a f b u d,[2,3,4,5,6]⟩
abbrev LC (a f:Int) (b:Nat) (V:Int) (L J:Nat) (j g:Int) (u c:List Int):St:=⟨sp 182 [(6,lI f),(7,.own 5 0 L 1),(8,.wd V),(9,lI ((digs V.natAbs).length:Int)),(10,.own 6 0 J 1),(11,lI j),(12,lI g)],rwL a f b u c,[2,3,4,5,6]⟩
abbrev LA (a f:Int) (b:Nat) (V:Int) (L J:Nat) (j g c i:Int) (u d:List Int):St:=⟨sp 182 [(6,lI f),(7,.own 5 0 L 1),(8,.wd V),(9,lI ((digs V.natAbs).length:Int)),(10,.own 6 0 J 1),(11,lI j),(12,lI g),(13,lI c),(130,lI ((digs V.natAbs).length:Int)),(131,lI i)],rwL a f b u d,[2,3,4,5,6]⟩
end Go.Proofs.YtagbldogmjhdpaaGreatDoor
end
section
open Go Go.Ev Go.RowKit
namespace Go.Proofs.YtagbldogmjhdpaaGreatDoor
open Go.Proofs
set_option maxRecDepth 100000
set_option maxHeartbeats 1000000
set_option linter.unusedVariables false
set_option linter.unusedSimpArgs false
noncomputable section
theorem loS_0 (a f:Int) (b:Nat) (V:Int) (L J:Nat) (j g c i:Int) (u d:List Int):RndI (eZ tP zmt bw [103,143]) 60 (kZ tP 160 1) 7 [] [6,7,8,9,10,11,12,13,81,82] [2,3,4,5,6] (LSb a f b V L J j g c i u d) [1] [] [1,2,3,4,5,6,1,7,8,9,10,11,2,3,4,5,12] (Ex.normal) (⟨sp 182 [(6,aI f),(7,.own 5 0 L 1),(8,.wd V),(9,aI (↑((digs V.natAbs).length):Int)),(10,.own 6 0 J 1),(11,aI j),(12,aI g),(13,aI ((u.getD (0+(i+j).toNat*1) 0-g*(digs V.natAbs).getD i.toNat 0+c) / 100000000)),(81,aI (↑((digs V.natAbs).length):Int)),(82,aI (i+1))],[.flat [aF,.wd a] true,.flat [aD f,.wd f] true,.flat [.lit (.bool (!(false==decide (f<0)))),.own 3 0 b 1] true,.dead,.ints [0,0] true,.ints (u.set (0+(i+j).toNat*1) ((u.getD (0+(i+j).toNat*1) 0-g*(digs V.natAbs).getD i.toNat 0+c) % 100000000)) true,.ints d true],[2,3,4,5,6]⟩) [decide (i<(↑((digs V.natAbs).length):Int))=true,inR .i64 (i+j)=true,decide (0≤i+j)=true,decide (i+j<(L:Int))=true,decide (0+(i+j).toNat*1<u.length)=true,decide (0≤i)=true,decide (i.toNat<(digs V.natAbs).length)=true,inR .i64 (g*(digs V.natAbs).getD i.toNat 0)=true,inR .i64 (u.getD (0+(i+j).toNat*1) 0-g*(digs V.natAbs).getD i.toNat 0)=true,inR .i64 (u.getD (0+(i+j).toNat*1) 0-g*(digs V.natAbs).getD i.toNat 0+c)=true,cZ (u.getD (0+(i+j).toNat*1) 0-g*(digs V.natAbs).getD i.toNat 0+c),inR .i64 (i+1)=true]:={}
theorem loS_1 (a f:Int) (b:Nat) (V:Int) (L J:Nat) (j g c i:Int) (u d:List Int):RndI (eZ tP zmt bw [103,143]) 60 (kZ tP 160 1) 7 [] [6,7,8,9,10,11,12,13,81,82] [2,3,4,5,6] (LSb a f b V L J j g c i u d) [0] [] [1] (Ex.exit 2) (⟨sp 182 [(6,aI f),(7,.own 5 0 L 1),(8,.wd V),(9,aI (↑((digs V.natAbs).length):Int)),(10,.own 6 0 J 1),(11,aI j),(12,aI g),(13,aI c),(81,aI (↑((digs V.natAbs).length):Int)),(82,aI i)],[.flat [aF,.wd a] true,.flat [aD f,.wd f] true,.flat [.lit (.bool (!(false==decide (f<0)))),.own 3 0 b 1] true,.dead,.ints [0,0] true,.ints u true,.ints d true],[2,3,4,5,6]⟩) [decide (i<(↑((digs V.natAbs).length):Int))=false]:={}
theorem loA_0 (a f:Int) (b:Nat) (V:Int) (L J:Nat) (j g c i:Int) (u d:List Int):RndI (eZ tP zmt bw [103,143]) 60 (kZ tP 160 3) 7 [] [6,7,8,9,10,11,12,13,130,131] [2,3,4,5,6] (LA a f b V L J j g c i u d) [1] [] [1,2,3,4,5,6,1,7,8,9,10,2,3,4,5,11] (Ex.normal) (⟨sp 182 [(6,aI f),(7,.own 5 0 L 1),(8,.wd V),(9,aI (↑((digs V.natAbs).length):Int)),(10,.own 6 0 J 1),(11,aI j),(12,aI g),(13,aI ((u.getD (0+(i+j).toNat*1) 0+(digs V.natAbs).getD i.toNat 0+c) / 100000000)),(130,aI (↑((digs V.natAbs).length):Int)),(131,aI (i+1))],[.flat [aF,.wd a] true,.flat [aD f,.wd f] true,.flat [.lit (.bool (!(false==decide (f<0)))),.own 3 0 b 1] true,.dead,.ints [0,0] true,.ints (u.set (0+(i+j).toNat*1) ((u.getD (0+(i+j).toNat*1) 0+(digs V.natAbs).getD i.toNat 0+c) % 100000000)) true,.ints d true],[2,3,4,5,6]⟩) [decide (i<(↑((digs V.natAbs).length):Int))=true,inR .i64 (i+j)=true,decide (0≤i+j)=true,decide (i+j<(L:Int))=true,decide (0+(i+j).toNat*1<u.length)=true,decide (0≤i)=true,decide (i.toNat<(digs V.natAbs).length)=true,inR .i64 (u.getD (0+(i+j).toNat*1) 0+(digs V.natAbs).getD i.toNat 0)=true,inR .i64 (u.getD (0+(i+j).toNat*1) 0+(digs V.natAbs).getD i.toNat 0+c)=true,cZ (u.getD (0+(i+j).toNat*1) 0+(digs V.natAbs).getD i.toNat 0+c),inR .i64 (i+1)=true]:={}
theorem loA_1 (a f:Int) (b:Nat) (V:Int) (L J:Nat) (j g c i:Int) (u d:List Int):RndI (eZ tP zmt bw [103,143]) 60 (kZ tP 160 3) 7 [] [6,7,8,9,10,11,12,13,130,131] [2,3,4,5,6] (LA a f b V L J j g c i u d) [0] [] [1] (Ex.exit 6) (⟨sp 182 [(6,aI f),(7,.own 5 0 L 1),(8,.wd V),(9,aI (↑((digs V.natAbs).length):Int)),(10,.own 6 0 J 1),(11,aI j),(12,aI g),(13,aI c),(130,aI (↑((digs V.natAbs).length):Int)),(131,aI i)],[.flat [aF,.wd a] true,.flat [aD f,.wd f] true,.flat [.lit (.bool (!(false==decide (f<0)))),.own 3 0 b 1] true,.dead,.ints [0,0] true,.ints u true,.ints d true],[2,3,4,5,6]⟩) [decide (i<(↑((digs V.natAbs).length):Int))=false]:={}
theorem loC_0 (a f:Int) (b:Nat) (V:Int) (L J:Nat) (j g c i:Int) (u d e:List Int):RndI (eZ tP zmt bw [103,143]) 60 (kZ tP 160 2) 7 [] [6,7,8,9,10,11,12] [2,3,4,5,6] (LC a f b V L J j g u e) [1] [some (zdZ tP (kZ tP 160 3) [] [6,7,8,9,10,11,12,13,130,131] [2,3,4,5,6] (LA a f b V L J j (g-1) 0 0 u e) (.exit 6,LA a f b V L J j (g-1) c i d e))] [1,2,3,4,5,6,0,7,1,2,3,8,9,2,3,8] (Ex.normal) (⟨sp 182 [(6,aI f),(7,.own 5 0 L 1),(8,.wd V),(9,aI (↑((digs V.natAbs).length):Int)),(10,.own 6 0 J 1),(11,aI j),(12,aI (g-1))],[.flat [aF,.wd a] true,.flat [aD f,.wd f] true,.flat [.lit (.bool (!(false==decide (f<0)))),.own 3 0 b 1] true,.dead,.ints [0,0] true,.ints (d.set (0+(j+(↑((digs V.natAbs).length):Int)).toNat*1) (d.getD (0+(j+(↑((digs V.natAbs).length):Int)).toNat*1) 0+c)) true,.ints e true],[2,3,4,5,6]⟩) [inR .i64 (j+(↑((digs V.natAbs).length):Int))=true,decide (0≤j+(↑((digs V.natAbs).length):Int))=true,decide (j+(↑((digs V.natAbs).length):Int)<(L:Int))=true,decide (0+(j+(↑((digs V.natAbs).length):Int)).toNat*1<u.length)=true,decide (u.getD (0+(j+(↑((digs V.natAbs).length):Int)).toNat*1) 0<0)=true,inR .i64 (g-1)=true,Loops 7 tP (kZ tP 160 3) ⟨sp 182 [(6,aI f),(7,.own 5 0 L 1),(8,.wd V),(9,aI (↑((digs V.natAbs).length):Int)),(10,.own 6 0 J 1),(11,aI j),(12,aI (g-1)),(13,aI 0),(130,aI (↑((digs V.natAbs).length):Int)),(131,aI 0)],[.flat [aF,.wd a] true,.flat [aD f,.wd f] true,.flat [.lit (.bool (!(false==decide (f<0)))),.own 3 0 b 1] true,.dead,.ints [0,0] true,.ints u true,.ints e true],[2,3,4,5,6]⟩ (Ex.exit 6,⟨sp 182 [(6,aI f),(7,.own 5 0 L 1),(8,.wd V),(9,aI (↑((digs V.natAbs).length):Int)),(10,.own 6 0 J 1),(11,aI j),(12,aI (g-1)),(13,aI c),(130,aI (↑((digs V.natAbs).length):Int)),(131,aI i)],[.flat [aF,.wd a] true,.flat [aD f,.wd f] true,.flat [.lit (.bool (!(false==decide (f<0)))),.own 3 0 b 1] true,.dead,.ints [0,0] true,.ints d true,.ints e true],[2,3,4,5,6]⟩),decide (0+(j+(↑((digs V.natAbs).length):Int)).toNat*1<d.length)=true,inR .i64 (d.getD (0+(j+(↑((digs V.natAbs).length):Int)).toNat*1) 0+c)=true]:={}
theorem loD_0 (a f:Int) (b:Nat) (V:Int) (L J:Nat) (j g:Int) (u c:List Int):RndI (eZ tP zmt bw [103,143]) 60 (kZ tP 160 2) 7 [] [6,7,8,9,10,11,12] [2,3,4,5,6] (LC a f b V L J j g u c) [0] [] [1,2,3,4,5] (Ex.exit 4) (⟨sp 182 [(6,aI f),(7,.own 5 0 L 1),(8,.wd V),(9,aI (↑((digs V.natAbs).length):Int)),(10,.own 6 0 J 1),(11,aI j),(12,aI g)],[.flat [aF,.wd a] true,.flat [aD f,.wd f] true,.flat [.lit (.bool (!(false==decide (f<0)))),.own 3 0 b 1] true,.dead,.ints [0,0] true,.ints u true,.ints c true],[2,3,4,5,6]⟩) [inR .i64 (j+(↑((digs V.natAbs).length):Int))=true,decide (0≤j+(↑((digs V.natAbs).length):Int))=true,decide (j+(↑((digs V.natAbs).length):Int)<(L:Int))=true,decide (0+(j+(↑((digs V.natAbs).length):Int)).toNat*1<u.length)=true,decide (u.getD (0+(j+(↑((digs V.natAbs).length):Int)).toNat*1) 0<0)=false]:={}
theorem loM_0 (a f:Int) (b:Nat) (V:Int) (L J:Nat) (j g d c i:Int) (u e l m:List Int):RndI (eZ tP zmt bw [103,143]) 60 (kZ tP 160 0) 7 [] [6,7,8,9,10,11] [2,3,4,5,6] (LO a f b V L J j u m) [1] [some (zdZ tP (kZ tP 160 1) [] [6,7,8,9,10,11,12,13,81,82] [2,3,4,5,6] (LSb a f b V L J j g 0 0 u m) (.exit 2,LSb a f b V L J j g c i e m)),some (zdZ tP (kZ tP 160 2) [] [6,7,8,9,10,11,12] [2,3,4,5,6] (LC a f b V L J j g (e.set (j.toNat+(digs V.natAbs).length) (e.getD (j.toNat+(digs V.natAbs).length) 0+c)) m) (.exit 4,LC a f b V L J j d l m))] [1,2,3,4,5,6,2,7,8,9,10,11,12,13,14,15,16,17,18,19,2,3,4,20,21,3,4,20,22,23,24,25,26,27] (Ex.normal) (⟨sp 182 [(6,aI f),(7,.own 5 0 L 1),(8,.wd V),(9,aI (↑((digs V.natAbs).length):Int)),(10,.own 6 0 J 1),(11,aI (j-1))],[.flat [aF,.wd a] true,.flat [aD f,.wd f] true,.flat [.lit (.bool (!(false==decide (f<0)))),.own 3 0 b 1] true,.dead,.ints [0,0] true,.ints l true,.ints (m.set (0+j.toNat*1) d) true],[2,3,4,5,6]⟩) [decide (j≥0)=true,inR .i64 (j+(↑((digs V.natAbs).length):Int))=true,decide (0≤j+(↑((digs V.natAbs).length):Int))=true,decide (j+(↑((digs V.natAbs).length):Int)<(L:Int))=true,decide (0+(j+(↑((digs V.natAbs).length):Int)).toNat*1<u.length)=true,inR .i64 (u.getD (0+(j+(↑((digs V.natAbs).length):Int)).toNat*1) 0*100000000)=true,inR .i64 (j+(↑((digs V.natAbs).length):Int)-1)=true,decide (0≤j+(↑((digs V.natAbs).length):Int)-1)=true,decide (j+(↑((digs V.natAbs).length):Int)-1<(L:Int))=true,decide (0+(j+(↑((digs V.natAbs).length):Int)-1).toNat*1<u.length)=true,inR .i64 (u.getD (0+(j+(↑((digs V.natAbs).length):Int)).toNat*1) 0*100000000+u.getD (0+(j+(↑((digs V.natAbs).length):Int)-1).toNat*1) 0)=true,inR .i64 ((↑((digs V.natAbs).length):Int)-1)=true,decide (0≤(↑((digs V.natAbs).length):Int)-1)=true,decide ((↑((digs V.natAbs).length):Int)-1<(↑((digs V.natAbs).length):Int))=true,decide (((↑((digs V.natAbs).length):Int)-1).toNat<(digs V.natAbs).length)=true,(!decide ((digs V.natAbs).getD ((↑((digs V.natAbs).length):Int)-1).toNat 0=0))=true,inR .i64 (Int.tdiv (u.getD (0+(j+(↑((digs V.natAbs).length):Int)).toNat*1) 0*100000000+u.getD (0+(j+(↑((digs V.natAbs).length):Int)-1).toNat*1) 0) ((digs V.natAbs).getD ((↑((digs V.natAbs).length):Int)-1).toNat 0))=true,(⟨sp 182 [(6,aI f),(7,.own 5 0 L 1),(8,.wd V),(9,aI (↑((digs V.natAbs).length):Int)),(10,.own 6 0 J 1),(11,aI j),(12,aI (if 99999999<Int.tdiv (u.getD (0+(j+(↑((digs V.natAbs).length):Int)).toNat*1) 0*100000000+u.getD (0+(j+(↑((digs V.natAbs).length):Int)-1).toNat*1) 0) ((digs V.natAbs).getD ((↑((digs V.natAbs).length):Int)-1).toNat 0) then 99999999 else Int.tdiv (u.getD (0+(j+(↑((digs V.natAbs).length):Int)).toNat*1) 0*100000000+u.getD (0+(j+(↑((digs V.natAbs).length):Int)-1).toNat*1) 0) ((digs V.natAbs).getD ((↑((digs V.natAbs).length):Int)-1).toNat 0))),(13,aI 0),(81,aI (↑((digs V.natAbs).length):Int)),(82,aI 0)],[.flat [aF,.wd a] true,.flat [aD f,.wd f] true,.flat [.lit (.bool (!(false==decide (f<0)))),.own 3 0 b 1] true,.dead,.ints [0,0] true,.ints u true,.ints m true],[2,3,4,5,6]⟩:St)=⟨sp 182 [(6,aI f),(7,.own 5 0 L 1),(8,.wd V),(9,aI (↑((digs V.natAbs).length):Int)),(10,.own 6 0 J 1),(11,aI j),(12,aI g),(13,aI 0),(81,aI (↑((digs V.natAbs).length):Int)),(82,aI 0)],[.flat [aF,.wd a] true,.flat [aD f,.wd f] true,.flat [.lit (.bool (!(false==decide (f<0)))),.own 3 0 b 1] true,.dead,.ints [0,0] true,.ints u true,.ints m true],[2,3,4,5,6]⟩,Loops 7 tP (kZ tP 160 1) ⟨sp 182 [(6,aI f),(7,.own 5 0 L 1),(8,.wd V),(9,aI (↑((digs V.natAbs).length):Int)),(10,.own 6 0 J 1),(11,aI j),(12,aI g),(13,aI 0),(81,aI (↑((digs V.natAbs).length):Int)),(82,aI 0)],[.flat [aF,.wd a] true,.flat [aD f,.wd f] true,.flat [.lit (.bool (!(false==decide (f<0)))),.own 3 0 b 1] true,.dead,.ints [0,0] true,.ints u true,.ints m true],[2,3,4,5,6]⟩ (Ex.exit 2,⟨sp 182 [(6,aI f),(7,.own 5 0 L 1),(8,.wd V),(9,aI (↑((digs V.natAbs).length):Int)),(10,.own 6 0 J 1),(11,aI j),(12,aI g),(13,aI c),(81,aI (↑((digs V.natAbs).length):Int)),(82,aI i)],[.flat [aF,.wd a] true,.flat [aD f,.wd f] true,.flat [.lit (.bool (!(false==decide (f<0)))),.own 3 0 b 1] true,.dead,.ints [0,0] true,.ints e true,.ints m true],[2,3,4,5,6]⟩),decide (0+(j+(↑((digs V.natAbs).length):Int)).toNat*1<e.length)=true,inR .i64 (e.getD (0+(j+(↑((digs V.natAbs).length):Int)).toNat*1) 0+c)=true,(⟨sp 182 [(6,aI f),(7,.own 5 0 L 1),(8,.wd V),(9,aI (↑((digs V.natAbs).length):Int)),(10,.own 6 0 J 1),(11,aI j),(12,aI g)],[.flat [aF,.wd a] true,.flat [aD f,.wd f] true,.flat [.lit (.bool (!(false==decide (f<0)))),.own 3 0 b 1] true,.dead,.ints [0,0] true,.ints (e.set (0+(j+(↑((digs V.natAbs).length):Int)).toNat*1) (e.getD (0+(j+(↑((digs V.natAbs).length):Int)).toNat*1) 0+c)) true,.ints m true],[2,3,4,5,6]⟩:St)=⟨sp 182 [(6,aI f),(7,.own 5 0 L 1),(8,.wd V),(9,aI (↑((digs V.natAbs).length):Int)),(10,.own 6 0 J 1),(11,aI j),(12,aI g)],[.flat [aF,.wd a] true,.flat [aD f,.wd f] true,.flat [.lit (.bool (!(false==decide (f<0)))),.own 3 0 b 1] true,.dead,.ints [0,0] true,.ints (e.set (j.toNat+(digs V.natAbs).length) (e.getD (j.toNat+(digs V.natAbs).length) 0+c)) true,.ints m true],[2,3,4,5,6]⟩,Loops 7 tP (kZ tP 160 2) ⟨sp 182 [(6,aI f),(7,.own 5 0 L 1),(8,.wd V),(9,aI (↑((digs V.natAbs).length):Int)),(10,.own 6 0 J 1),(11,aI j),(12,aI g)],[.flat [aF,.wd a] true,.flat [aD f,.wd f] true,.flat [.lit (.bool (!(false==decide (f<0)))),.own 3 0 b 1] true,.dead,.ints [0,0] true,.ints (e.set (j.toNat+(digs V.natAbs).length) (e.getD (j.toNat+(digs V.natAbs).length) 0+c)) true,.ints m true],[2,3,4,5,6]⟩ (Ex.exit 4,⟨sp 182 [(6,aI f),(7,.own 5 0 L 1),(8,.wd V),(9,aI (↑((digs V.natAbs).length):Int)),(10,.own 6 0 J 1),(11,aI j),(12,aI d)],[.flat [aF,.wd a] true,.flat [aD f,.wd f] true,.flat [.lit (.bool (!(false==decide (f<0)))),.own 3 0 b 1] true,.dead,.ints [0,0] true,.ints l true,.ints m true],[2,3,4,5,6]⟩),decide (0≤j)=true,decide (j<(J:Int))=true,decide (0+j.toNat*1<m.length)=true,inR .i64 (j-1)=true]:={}
theorem loX_0 (a f:Int) (b:Nat) (V:Int) (L J:Nat) (j:Int) (u c:List Int):RndI (eZ tP zmt bw [103,143]) 60 (kZ tP 160 0) 7 [] [6,7,8,9,10,11] [2,3,4,5,6] (LO a f b V L J j u c) [0] [] [1] (Ex.exit 0) (⟨sp 182 [(6,aI f),(7,.own 5 0 L 1),(8,.wd V),(9,aI (↑((digs V.natAbs).length):Int)),(10,.own 6 0 J 1),(11,aI j)],[.flat [aF,.wd a] true,.flat [aD f,.wd f] true,.flat [.lit (.bool (!(false==decide (f<0)))),.own 3 0 b 1] true,.dead,.ints [0,0] true,.ints u true,.ints c true],[2,3,4,5,6]⟩) [decide (j≥0)=false]:={}
end
theorem pFl {n:Int} (h1:-9223372036854775808≤n) (h2:n≤9223372036854775807):cZ n:=⟨h1,h2⟩
theorem zpv:(eZ tP zmt bw [103,143]).OK:=JZ znu
def Dg (u:List Int) (p:Nat):Prop:=∀q,q≠p→0≤u.getD q 0∧u.getD q 0<100000000
theorem Dg.of {u:List Int} (h:Digs u) (p:Nat):Dg u p:=fun q _=>GZ h q
theorem Dg.digs {u:List Int} {p:Nat} (h:Dg u p) (h0:0≤u.getD p 0) (h1:u.getD p 0<100000000):Digs u:=by
 intro d hd
 obtain ⟨q,hq,rfl⟩:=List.getElem_of_mem hd
 have e:u.getD q 0=u[q]:=by simp [List.getD,hq]
 by_cases hp:q=p
 ·simp_all
 ·rw [← e];exact h q hp
theorem getD_set (u:List Int) (i q:Nat) (v:Int) (h:i<u.length):(u.set i v).getD q 0=if q=i then v else u.getD q 0:=by
 grind
theorem Dg.set {u:List Int} {p:Nat} (h:Dg u p) (i:Nat) {v:Int} (hi:i<u.length) (h0:0≤v) (h1:v<100000000):Dg (u.set i v) p:=by
 intro q hq
 rw [getD_set _ _ _ _ hi]
 split
 ·exact ⟨h0,h1⟩
 ·exact h q hq
theorem Dg.top {u:List Int} {p:Nat} (h:Dg u p) (v:Int):Dg (u.set p v) p:=by
 intro q hq
 rw [IZ _ _ _ _ hq]
 exact h q hq
theorem zna {u u':List Int} {j:Nat} (hl:u'.length=u.length) (h:∀p,p<j→u'.getD p 0=u.getD p 0):u'.take j=u.take j:=by
 apply List.ext_getElem
 ·simp [hl]
 ·intro i h1 h2
  simp only [List.length_take] at h1
  have:=h i (by omega)
  grind
theorem drop_eq {u u':List Int} {j:Nat} (hl:u'.length=u.length) (h:∀p,j≤p→u'.getD p 0=u.getD p 0):u'.drop j=u.drop j:=by
 apply List.ext_getElem
 ·simp [hl]
 ·intro i h1 h2
  simp only [List.length_drop] at h1
  have:=h (j+i) (by omega)
  grind
theorem zcK (u:List Int) (j:Nat) (h:j≤u.length):vl u=vl (u.take j)+100000000 ^ j*vl (u.drop j):=by
 have:=zaK (u.take j) (u.drop j)
 simp_all
theorem zio (u:List Int) (j n:Nat) (h:j+n≤u.length):vl (u.drop j)=vl ((u.drop j).take n)+100000000 ^ n*vl (u.drop (j+n)):=by
 have:=zcK (u.drop j) n (by simp;omega)
 simp_all
theorem ziQ {j:Nat} {a b:Int} (h:100000000 ^ j*a=100000000 ^ j*b):a=b:=
 Int.eq_of_mul_eq_mul_left (Int.ne_of_gt (pow_pos j)) h
theorem subL (a f:Int) (n2:Nat) (V:Int) (L J j:Nat) (g:Int) (out:List Int) (hL:L≤4194304) (hj:j+(digs V.natAbs).length<L) (hg0:0≤g) (hg1:g<100000000) :
 ∀(r i:Nat) (u:List Int) (c:Int),i+r=(digs V.natAbs).length→Digs u→u.length=L→-100000000≤c→c≤0 →
 ∃(u2:List Int) (c2:Int),Digs u2∧u2.length=L∧-100000000≤c2∧c2≤0∧vl u2+100000000 ^ (j+(digs V.natAbs).length)*c2=vl u+100000000 ^ (j+i)*(c-g*vl ((digs V.natAbs).drop i)) ∧
  (∀p,j+(digs V.natAbs).length≤p→u2.getD p 0=u.getD p 0)∧(∀p,p<j→u2.getD p 0=u.getD p 0) ∧
  Loops 7 tP (kZ tP 160 1) (LSb a f n2 V L J j g c i u out) (.exit 2,LSb a f n2 V L J j g c2 ((digs V.natAbs).length:Int) u2 out)
 | 0,i,u,c,hi,hd,hl,hc0,hc1=>by
  obtain rfl:i=(digs V.natAbs).length:=by omega
  refine ⟨u,c,hd,hl,hc0,hc1,?_,fun _ _=>rfl,fun _ _=>rfl,Loops.fin (LS.of zpv (loS_1 a f n2 V L J j g c ((digs V.natAbs).length:Int) u out) (by(repeat' (first | exact AllC.nil | refine AllC.cons ?_ ?_));all_goals (first | exact CU.h {} | (simp []<;>omega) | assumption | rfl))) (by simp [Ex.toExit])⟩
  rw [List.drop_length];simp [vl]
 | r + 1,i,u,c,hi,hd,hl,hc0,hc1=>by
  have hnat:0+Int.toNat ((i:Int)+(j:Int))*1=j+i:=by omega
  have hin:Int.toNat (i:Int)=i:=by omega
  have hib:i<(digs V.natAbs).length:=by omega
  obtain ⟨hy0,hy1⟩:=GZ (oZ V.natAbs) i
  obtain ⟨hx0,hx1⟩:=GZ hd (j+i)
  obtain ⟨hm0,hm1⟩:=mul_dig hg0 hg1 hy0 hy1
  have hdr:=zan (digs V.natAbs) i
  have e2:∀t,t=u.getD (j+i) 0-g*(digs V.natAbs).getD i 0+c →
   c-g*((digs V.natAbs).getD i 0+100000000*vl ((digs V.natAbs).drop (i+1)))=(t % 100000000-u.getD (j+i) 0)+100000000*(t / 100000000-g*vl ((digs V.natAbs).drop (i+1))):=by
   intro t ht
   rw [Int.mul_add g,Int.mul_left_comm g 100000000]
   generalize g*(digs V.natAbs).getD i 0=m at *
   omega
  generalize hm:g*(digs V.natAbs).getD i 0=m at *
  have h:=LS.of zpv (loS_0 a f n2 V L J j g c i u out) (by
   rw [hnat,hin,hm]
   exact(by(repeat' (first | exact AllC.nil | refine AllC.cons ?_ ?_));all_goals (first | exact CU.h {} | (simp [hib,hl,cZ]<;>omega) | assumption | rfl)))
  rw [hnat,hin,hm] at h
  have hv:=zgj u (j+i) ((u.getD (j+i) 0-m+c) % 100000000) (by omega)
  have hD:Digs (u.set (j+i) ((u.getD (j+i) 0-m+c) % 100000000)):=zem hd _ (by omega) (by omega)
  obtain ⟨u2,c2,k1,k2,k3,k4,k5,k6,k7,k8⟩:=subL a f n2 V L J j g out hL hj hg0 hg1 r (i+1) (u.set (j+i) ((u.getD (j+i) 0-m+c) % 100000000)) ((u.getD (j+i) 0-m+c) / 100000000)
   (by omega) hD (by simp;omega) (by omega) (by omega)
  have e:((i+1:Nat):Int)=(i:Int)+1:=by omega
  rw [e] at k8
  refine ⟨u2,c2,k1,k2,k3,k4,?_,fun p hp=>(k6 p hp).trans (IZ _ _ _ _ (by omega)),fun p hp=>(k7 p hp).trans (IZ _ _ _ _ (by omega)),Loops.go h k8⟩
  rw [k5,hv,hdr,← Nat.add_assoc,Int.pow_succ,e2 _ rfl,alg1,Int.add_assoc]
theorem addL (a f:Int) (n2:Nat) (V:Int) (L J j:Nat) (g:Int) (out:List Int) (hL:L≤4194304) (hj:j+(digs V.natAbs).length<L) :
 ∀(r i:Nat) (u:List Int) (c:Int),i+r=(digs V.natAbs).length→Dg u (j+(digs V.natAbs).length)→u.length=L→(c=0∨c=1) →
 ∃(u2:List Int) (c2:Int),Dg u2 (j+(digs V.natAbs).length)∧u2.length=L∧(c2=0∨c2=1)∧vl u2+100000000 ^ (j+(digs V.natAbs).length)*c2=vl u+100000000 ^ (j+i)*(c+vl ((digs V.natAbs).drop i)) ∧
  (∀p,j+(digs V.natAbs).length≤p→u2.getD p 0=u.getD p 0)∧(∀p,p<j→u2.getD p 0=u.getD p 0) ∧
  Loops 7 tP (kZ tP 160 3) (LA a f n2 V L J j g c i u out) (.exit 6,LA a f n2 V L J j g c2 ((digs V.natAbs).length:Int) u2 out)
 | 0,i,u,c,hi,hd,hl,hc=>by
  obtain rfl:i=(digs V.natAbs).length:=by omega
  refine ⟨u,c,hd,hl,hc,?_,fun _ _=>rfl,fun _ _=>rfl,Loops.fin (LS.of zpv (loA_1 a f n2 V L J j g c ((digs V.natAbs).length:Int) u out) (by(repeat' (first | exact AllC.nil | refine AllC.cons ?_ ?_));all_goals (first | exact CU.h {} | (simp []<;>omega) | assumption | rfl))) (by simp [Ex.toExit])⟩
  rw [List.drop_length];simp [vl]
 | r + 1,i,u,c,hi,hd,hl,hc=>by
  have hnat:0+Int.toNat ((i:Int)+(j:Int))*1=j+i:=by omega
  have hin:Int.toNat (i:Int)=i:=by omega
  have hib:i<(digs V.natAbs).length:=by omega
  obtain ⟨hy0,hy1⟩:=GZ (oZ V.natAbs) i
  obtain ⟨hx0,hx1⟩:=hd (j+i) (by omega)
  have hdr:=zan (digs V.natAbs) i
  have h:=LS.of zpv (loA_0 a f n2 V L J j g c i u out) (by
   rw [hnat,hin]
   exact(by(repeat' (first | exact AllC.nil | refine AllC.cons ?_ ?_));all_goals (first | exact CU.h {} | (simp [hib,hl,cZ]<;>omega) | assumption | rfl)))
  rw [hnat,hin] at h
  have hv:=zgj u (j+i) ((u.getD (j+i) 0+(digs V.natAbs).getD i 0+c) % 100000000) (by omega)
  have hD:Dg (u.set (j+i) ((u.getD (j+i) 0+(digs V.natAbs).getD i 0+c) % 100000000)) (j+(digs V.natAbs).length):=hd.set _ (by omega) (by omega) (by omega)
  obtain ⟨u2,c2,k1,k2,k3,k5,k6,k7,k8⟩:=addL a f n2 V L J j g out hL hj r (i+1) (u.set (j+i) ((u.getD (j+i) 0+(digs V.natAbs).getD i 0+c) % 100000000)) ((u.getD (j+i) 0+(digs V.natAbs).getD i 0+c) / 100000000)
   (by omega) hD (by simp;omega) (by omega)
  have e:((i+1:Nat):Int)=(i:Int)+1:=by omega
  rw [e] at k8
  refine ⟨u2,c2,k1,k2,k3,?_,fun p hp=>(k6 p hp).trans (IZ _ _ _ _ (by omega)),fun p hp=>(k7 p hp).trans (IZ _ _ _ _ (by omega)),Loops.go h k8⟩
  rw [k5,hv,hdr,← Nat.add_assoc,Int.pow_succ]
  have e2:c+((digs V.natAbs).getD i 0+100000000*vl ((digs V.natAbs).drop (i+1)))=((u.getD (j+i) 0+(digs V.natAbs).getD i 0+c) % 100000000-u.getD (j+i) 0)+100000000*((u.getD (j+i) 0+(digs V.natAbs).getD i 0+c) / 100000000+vl ((digs V.natAbs).drop (i+1))):=by omega
  rw [e2,alg1,Int.add_assoc]
theorem zcy {n:Nat} {t:Int} (h:1≤t):(100000000:Int) ^ n≤100000000 ^ n*t:=by
 have:=Int.mul_le_mul_of_nonneg_left h (zn6 n)
 rwa [Int.mul_one] at this
theorem zeI {n:Nat} {t:Int} (h:t≤-1):(100000000:Int) ^ n*t≤- 100000000 ^ n:=by
 have:=Int.mul_le_mul_of_nonneg_left h (zn6 n)
 omega
theorem zhu (V:Int):(V.natAbs:Int)<100000000 ^ (digs V.natAbs).length:=by
 have:=zfW (oZ V.natAbs)
 rwa [XZ] at this
theorem window {u:List Int} {j n:Nat} (h:j+n<u.length) (hd:Dg u (j+n)) (hz:vl (u.drop (j+n+1))=0) :
 ∃low,0≤low∧low<100000000 ^ n∧vl (u.drop j)=low+100000000 ^ n*u.getD (j+n) 0:=by
 have hD:Digs ((u.drop j).take n):=by
  intro d hd'
  obtain ⟨q,hq,rfl⟩:=List.getElem_of_mem hd'
  simp only [List.length_take,List.length_drop] at hq
  have hq2:j+q<u.length:=by omega
  rw [List.getElem_take,List.getElem_drop]
  have:=hd (j+q) (by omega)
  simp_all
 refine ⟨vl ((u.drop j).take n),FZ hD,?_,?_⟩
 ·have:=zfW hD
  grind
 ·rw [zio u j n (by omega),zan u (j+n),hz,Int.mul_zero,Int.add_zero]
theorem corL (a f:Int) (n2:Nat) (V:Int) (L J j:Nat) (out:List Int) (hL:L≤4194304) (hj:j+(digs V.natAbs).length<L) (U:Int) (hU:0≤U) :
    ∀(k:Nat) (g:Int) (u:List Int),g≤k→0≤g→g<100000000→Dg u (j+(digs V.natAbs).length)→u.length=L→vl (u.drop (j+(digs V.natAbs).length+1))=0 →
      vl (u.drop j)=U-g*(V.natAbs:Int)→U<(g+1)*(V.natAbs:Int)→-100000000≤u.getD (j+(digs V.natAbs).length) 0→u.getD (j+(digs V.natAbs).length) 0≤100000000 →
    ∃(g2:Int) (u2:List Int),0≤g2∧g2<100000000∧Digs u2∧u2.length=L∧(∀q,q<j→u2.getD q 0=u.getD q 0)∧vl (u2.drop j)=U-g2*(V.natAbs:Int)∧vl (u2.drop j)<(V.natAbs:Int) ∧
      Loops 7 tP (kZ tP 160 2) (LC a f n2 V L J j g u out) (.exit 4,LC a f n2 V L J j g2 u2 out):=by
  intro k
  induction k with
  | zero =>
    intro g u hgk hg0 hg1 hd hl hz hH hUg hb1 hb2
    obtain rfl:g=0:=by omega
    obtain ⟨low,hl0,hl1,hw⟩:=window (by omega) hd hz
    have hnat:0+Int.toNat ((j:Int)+((digs V.natAbs).length:Int))*1=j+(digs V.natAbs).length:=by omega
    have hVB:=zhu V
    rw [Int.zero_mul,Int.sub_zero] at hH
    have htop:u.getD (j+(digs V.natAbs).length) 0=0:=by
      rcases Int.lt_or_le (u.getD (j+(digs V.natAbs).length) 0) 0 with h | h
      · have:=zeI (n:=(digs V.natAbs).length) (show u.getD (j+(digs V.natAbs).length) 0≤-1 by omega)
        omega
      · rcases Int.lt_or_le 0 (u.getD (j+(digs V.natAbs).length) 0) with h2 | h2
        · have:=zcy (n:=(digs V.natAbs).length) (show 1≤u.getD (j+(digs V.natAbs).length) 0 by omega)
          omega
        · omega
    have h:=LS.of zpv (loD_0 a f n2 V L J j 0 u out) (by
      rw [hnat]
      exact(by(repeat' (first | exact AllC.nil | refine AllC.cons ?_ ?_));all_goals (first | exact CU.h {} | (simp [hl]<;>omega) | assumption | rfl)))
    refine ⟨0,u,by omega,by omega,hd.digs (by omega) (by omega),hl,fun _ _=>rfl,by rw [hH];omega,by omega,Loops.fin h (by simp [Ex.toExit])⟩
  | succ k ih=>
    intro g u hgk hg0 hg1 hd hl hz hH hUg hb1 hb2
    obtain ⟨low,hl0,hl1,hw⟩:=window (by omega) hd hz
    have hnat:0+Int.toNat ((j:Int)+((digs V.natAbs).length:Int))*1=j+(digs V.natAbs).length:=by omega
    have hVB:=zhu V
    have hexp:(g+1)*(V.natAbs:Int)=g*(V.natAbs:Int)+(V.natAbs:Int):=by rw [Int.add_mul,Int.one_mul]
    have hgV:0≤g*(V.natAbs:Int):=Int.mul_nonneg hg0 (by omega)
    rcases Int.lt_or_le (u.getD (j+(digs V.natAbs).length) 0) 0 with hneg | hpos
    · have hn:=zeI (n:=(digs V.natAbs).length) (show u.getD (j+(digs V.natAbs).length) 0≤-1 by omega)
      have hg1':1≤g:=by
        rcases Int.lt_or_le g 1 with h | h
        · have:g=0:=by omega
          subst this
          rw [Int.zero_mul] at hH
          omega
        · exact h
      obtain ⟨u2,c2,k1,k2,k3,k5,k6,k7,k8⟩:=addL a f n2 V L J j (g-1) out hL hj (digs V.natAbs).length 0 u 0 (by omega) hd hl (.inl rfl)
      have k8':Loops 7 tP (kZ tP 160 3) (LA a f n2 V L J j (g-1) 0 0 u out) (.exit 6,LA a f n2 V L J j (g-1) c2 ((digs V.natAbs).length:Int) u2 out):=k8
      have ht2:=k6 (j+(digs V.natAbs).length) (Nat.le_refl _)
      have h:=LS.of zpv (loC_0 a f n2 V L J j g c2 ((digs V.natAbs).length:Int) u u2 out) (by
        rw [hnat]
        exact(by(repeat' (first | exact AllC.nil | refine AllC.cons ?_ ?_));all_goals (first | exact CU.h {} | (simp [hl,k2]<;>omega) | assumption | rfl)))
      rw [hnat] at h
      have hv:=zgj u2 (j+(digs V.natAbs).length) (u2.getD (j+(digs V.natAbs).length) 0+c2) (by omega)
      generalize hu3:u2.set (j+(digs V.natAbs).length) (u2.getD (j+(digs V.natAbs).length) 0+c2)=u3 at *
      have hl3:u3.length=L:=by rw [← hu3];simp [k2]
      have hlow3:∀q,q<j→u3.getD q 0=u.getD q 0:=fun q hq=>by
        rw [← hu3,IZ _ _ _ _ (by omega)];exact k7 q hq
      have hhigh3:vl (u3.drop (j+(digs V.natAbs).length+1))=0:=by
        rw [drop_eq (u:=u) (by rw [hl3,hl]) (fun q hq=>by
          rw [← hu3,IZ _ _ _ _ (by omega)];exact k6 q (by omega))]
        exact hz
      have htop3:u3.getD (j+(digs V.natAbs).length) 0=u.getD (j+(digs V.natAbs).length) 0+c2:=by
        rw [← hu3,zcs _ _ _ (by omega),ht2]
      have hd3:Dg u3 (j+(digs V.natAbs).length):=by rw [← hu3];exact k1.top _
      have hH3:vl (u3.drop j)=U-(g-1)*(V.natAbs:Int):=by
        have s1:=zcK u j (by omega)
        have s3:=zcK u3 j (by omega)
        rw [zna (by rw [hl3,hl]) hlow3] at s3
        have e1:u2.getD (j+(digs V.natAbs).length) 0+c2-u2.getD (j+(digs V.natAbs).length) 0=c2:=by omega
        rw [e1,k5,Nat.add_zero,Int.zero_add,List.drop_zero,XZ] at hv
        have:(100000000:Int) ^ j*vl (u3.drop j)=100000000 ^ j*(vl (u.drop j)+(V.natAbs:Int)):=by rw [Int.mul_add];omega
        rw [ziQ this,hH,Int.sub_mul,Int.one_mul];omega
      obtain ⟨g2,u4,m1,m2,m3,m4,m5,m6,m7,m8⟩:=ih (g-1) u3 (by omega) (by omega) (by omega) hd3 hl3 hhigh3 hH3 (by
        have:g-1+1=g:=by omega
        rw [this];omega) (by rw [htop3];omega) (by rw [htop3];omega)
      exact ⟨g2,u4,m1,m2,m3,m4,fun q hq=>(m5 q hq).trans (hlow3 q hq),m6,m7,Loops.go h m8⟩
    · have htop:u.getD (j+(digs V.natAbs).length) 0=0:=by
        rcases Int.lt_or_le 0 (u.getD (j+(digs V.natAbs).length) 0) with h2 | h2
        · have:=zcy (n:=(digs V.natAbs).length) (show 1≤u.getD (j+(digs V.natAbs).length) 0 by omega)
          omega
        · omega
      have h:=LS.of zpv (loD_0 a f n2 V L J j g u out) (by
        rw [hnat]
        exact(by(repeat' (first | exact AllC.nil | refine AllC.cons ?_ ?_));all_goals (first | exact CU.h {} | (simp [hl]<;>omega) | assumption | rfl)))
      exact ⟨g,u,hg0,hg1,hd.digs (by omega) (by omega),hl,fun _ _=>rfl,hH,by omega,Loops.fin h (by simp [Ex.toExit])⟩
theorem last_ne {n:Nat} (h:n≠0):0<(digs n).getD ((digs n).length-1) 0:=by
 have hd:=(GZ (oZ n) ((digs n).length-1)).1
 rcases Int.lt_or_le 0 ((digs n).getD ((digs n).length-1) 0) with h1 | h1
 ·exact h1
 ·exfalso
  have h0:(digs n).getD ((digs n).length-1) 0=0:=by omega
  have hne:digs n≠[]:=fun e=>h ((zbI n).1 e)
  have hlen:0<(digs n).length:=List.length_pos_iff.2 hne
  obtain ⟨q,d,hq⟩:∃q d,digs n=q++[d]:=by
   rcases List.eq_nil_or_concat (digs n) with e | ⟨q,d,e⟩
   ·exact absurd e hne
   simp_all
  have e:=zcI n
  rw [hq] at h0 e
  have hd0:d=0:=by simpa [List.getD] using h0
  subst hd0
  rw [zgP] at e
  have:=zfV q
  grind
theorem mainL (a f:Int) (n2:Nat) (V:Int) (L J:Nat) (hL:L≤4194304) (hV:V≠0) (hn:1≤(digs V.natAbs).length) (A:Int) :
 ∀(k:Nat) (u out:List Int),k≤J→(k=0∨k+(digs V.natAbs).length≤L)→Digs u→u.length=L→Digs out→out.length=J→(∀q,q<k→out.getD q 0=0)→vl (u.drop k)<(V.natAbs:Int) →
  vl u+(V.natAbs:Int)*vl out=A →
 ∃(u2 out2:List Int),Digs u2∧u2.length=L∧Digs out2∧out2.length=J∧vl u2<(V.natAbs:Int)∧vl u2+(V.natAbs:Int)*vl out2=A ∧
  Loops 7 tP (kZ tP 160 0) (LO a f n2 V L J ((k:Int)-1) u out) (.exit 0,LO a f n2 V L J (-1) u2 out2):=by
 intro k
 induction k with
 | zero=>
  intro u out hk hkl hd hl hdo hlo hz hlt hA
  rw [List.drop_zero] at hlt
  exact ⟨u,out,hd,hl,hdo,hlo,hlt,hA,Loops.fin (LS.of zpv (loX_0 a f n2 V L J (-1) u out) (by(repeat' (first | exact AllC.nil | refine AllC.cons ?_ ?_));all_goals (first | exact CU.h {} | (simp []<;>omega) | assumption | rfl))) (by simp [Ex.toExit])⟩
 | succ k ih=>
  intro u out hk hkl hd hl hdo hlo hz hlt hA
  have hkl':k+1+(digs V.natAbs).length≤L:=by omega
  have hVB:=zhu V
  have ejj:((k+1:Nat):Int)-1=(k:Int):=by omega
  rw [ejj]
  have hnat:0+Int.toNat ((k:Int)+((digs V.natAbs).length:Int))*1=k+(digs V.natAbs).length:=by omega
  have hnat1:0+Int.toNat ((k:Int)+((digs V.natAbs).length:Int)-1)*1=k+(digs V.natAbs).length-1:=by omega
  have hnat2:Int.toNat (((digs V.natAbs).length:Int)-1)=(digs V.natAbs).length-1:=by omega
  have hnat3:0+Int.toNat (k:Int)*1=k:=by omega
  have hnat4:Int.toNat (k:Int)=k:=by omega
  have hx:=GZ hd k
  have hU0:0≤vl (u.drop k):=FZ (zcS hd k)
  have hU1:=zan u k
  have hhz:vl (u.drop (k+(digs V.natAbs).length+1))=0:=by
   have h1:=zio u (k+1) (digs V.natAbs).length (by omega)
   have h2:=FZ (za0 (zcS hd (k+1)) (digs V.natAbs).length)
   have h3:=FZ (zcS hd (k+1+(digs V.natAbs).length))
   have e:k+1+(digs V.natAbs).length=k+(digs V.natAbs).length+1:=by omega
   rw [e] at h1 h3
   rcases Int.lt_or_le 0 (vl (u.drop (k+(digs V.natAbs).length+1))) with h4 | h4
   ·have:=zcy (n:=(digs V.natAbs).length) (show 1≤vl (u.drop (k+(digs V.natAbs).length+1)) by omega)
    omega
   ·omega
  have hp0:=GZ hd (k+(digs V.natAbs).length)
  have hp1:=GZ hd (k+(digs V.natAbs).length-1)
  have hvt:=last_ne (n:=V.natAbs) (by omega)
  have hvt2:=(GZ (oZ V.natAbs) ((digs V.natAbs).length-1)).2
  obtain ⟨X,hX⟩:∃X,X=u.getD (k+(digs V.natAbs).length) 0*100000000+u.getD (k+(digs V.natAbs).length-1) 0:=⟨_,rfl⟩
  obtain ⟨vt,hvtd⟩:∃vt,vt=(digs V.natAbs).getD ((digs V.natAbs).length-1) 0:=⟨_,rfl⟩
  obtain ⟨g,hg⟩:∃g,(if 99999999<Int.tdiv X vt then 99999999 else Int.tdiv X vt)=g:=⟨_,rfl⟩
  have htd:Int.tdiv X vt=X / vt:=Int.tdiv_eq_ediv_of_nonneg (by omega)
  have hX0:0≤X / vt:=Int.ediv_nonneg (by omega) (by omega)
  have hX1:X / vt≤X:=Int.ediv_le_self _ (by omega)
  have hg0:0≤g:=by rw [← hg,htd];split<;>omega
  have hg1:g<100000000:=by rw [← hg,htd];split<;>omega
  have hUX:vl (u.drop k)<100000000 ^ ((digs V.natAbs).length-1)*(X+1):=by
   have h1:=zio u k ((digs V.natAbs).length-1) (by omega)
   have h2:=zfW (za0 (zcS hd k) ((digs V.natAbs).length-1))
   have h3:((u.drop k).take ((digs V.natAbs).length-1)).length=(digs V.natAbs).length-1:=by simp;omega
   rw [h3] at h2
   have e1:k+((digs V.natAbs).length-1)=k+(digs V.natAbs).length-1:=by omega
   have e2:k+(digs V.natAbs).length-1+1=k+(digs V.natAbs).length:=by omega
   rw [e1,zan u (k+(digs V.natAbs).length-1),e2,zan u (k+(digs V.natAbs).length),hhz] at h1
   have e3:u.getD (k+(digs V.natAbs).length-1) 0+100000000*(u.getD (k+(digs V.natAbs).length) 0+100000000*0)=X:=by omega
   rw [e3] at h1
   rw [Int.mul_add,Int.mul_one]
   omega
  have hVvt:100000000 ^ ((digs V.natAbs).length-1)*vt≤(V.natAbs:Int):=by
   have h1:=zcK (digs V.natAbs) ((digs V.natAbs).length-1) (by omega)
   have h2:=FZ (za0 (oZ V.natAbs) ((digs V.natAbs).length-1))
   have e2:(digs V.natAbs).length-1+1=(digs V.natAbs).length:=by omega
   rw [XZ,zan (digs V.natAbs) ((digs V.natAbs).length-1),e2,List.drop_length,← hvtd] at h1
   simp only [vl,Int.mul_zero,Int.add_zero] at h1
   omega
  have hUg:vl (u.drop k)<(g+1)*(V.natAbs:Int):=by
   by_cases hb:99999999<Int.tdiv X vt
   ·rw [if_pos hb] at hg
    subst hg
    omega
   ·rw [if_neg hb,htd] at hg
    have h1:=Int.lt_ediv_add_one_mul_self X (b:=vt) (by omega)
    rw [hg] at h1
    have h2:100000000 ^ ((digs V.natAbs).length-1)*(X+1)≤100000000 ^ ((digs V.natAbs).length-1)*((g+1)*vt):=Int.mul_le_mul_of_nonneg_left (by omega) (zn6 _)
    have h3:(g+1)*(100000000 ^ ((digs V.natAbs).length-1)*vt)≤(g+1)*(V.natAbs:Int):=Int.mul_le_mul_of_nonneg_left hVvt (by omega)
    rw [Int.mul_left_comm] at h2
    omega
  obtain ⟨u2,c2,k1,k2,k3,k4,k5,k6,k7,k8⟩:=subL a f n2 V L J k g out hL (by omega) hg0 hg1 (digs V.natAbs).length 0 u 0 (by omega) hd hl (by omega) (by omega)
  have k8':Loops 7 tP (kZ tP 160 1) (LSb a f n2 V L J k g 0 0 u out) (.exit 2,LSb a f n2 V L J k g c2 ((digs V.natAbs).length:Int) u2 out):=k8
  have ht2:=k6 (k+(digs V.natAbs).length) (Nat.le_refl _)
  have hv:=zgj u2 (k+(digs V.natAbs).length) (u2.getD (k+(digs V.natAbs).length) 0+c2) (by omega)
  obtain ⟨u3,hu3⟩:∃u3,u2.set (k+(digs V.natAbs).length) (u2.getD (k+(digs V.natAbs).length) 0+c2)=u3:=⟨_,rfl⟩
  rw [hu3] at hv
  have hl3:u3.length=L:=by rw [← hu3];simp [k2]
  have hlow3:∀q,q<k→u3.getD q 0=u.getD q 0:=fun q hq=>by
   rw [← hu3,IZ _ _ _ _ (by omega)];exact k7 q hq
  have hhigh3:vl (u3.drop (k+(digs V.natAbs).length+1))=0:=by
   rw [drop_eq (u:=u) (by rw [hl3,hl]) (fun q hq=>by
    rw [← hu3,IZ _ _ _ _ (by omega)];exact k6 q (by omega))]
   exact hhz
  have htop3:u3.getD (k+(digs V.natAbs).length) 0=u.getD (k+(digs V.natAbs).length) 0+c2:=by
   rw [← hu3,zcs _ _ _ (by omega),ht2]
  have hd3:Dg u3 (k+(digs V.natAbs).length):=by rw [← hu3];exact(Dg.of k1 _).top _
  have s1:=zcK u k (by omega)
  have hH3:vl (u3.drop k)=vl (u.drop k)-g*(V.natAbs:Int):=by
   have s3:=zcK u3 k (by omega)
   rw [zna (by rw [hl3,hl]) hlow3] at s3
   have e1:u2.getD (k+(digs V.natAbs).length) 0+c2-u2.getD (k+(digs V.natAbs).length) 0=c2:=by omega
   rw [e1,k5,Nat.add_zero,Int.zero_sub,List.drop_zero,XZ] at hv
   have:(100000000:Int) ^ k*vl (u3.drop k)=100000000 ^ k*(vl (u.drop k)-g*(V.natAbs:Int)):=by rw [Int.mul_sub];rw [Int.mul_neg] at hv;omega
   exact ziQ this
  obtain ⟨g2,u4,m1,m2,m3,m4,m5,m6,m7,m8⟩:=corL a f n2 V L J k out hL (by omega) (vl (u.drop k)) hU0 g.toNat g u3 (by omega) hg0 hg1 hd3 hl3 hhigh3 hH3 hUg (by rw [htop3];omega) (by rw [htop3];omega)
  have hg':=hg
  rw [htd] at hg'
  have h:=LS.of zpv (loM_0 a f n2 V L J k g g2 c2 ((digs V.natAbs).length:Int) u u2 u4 out) (by
   have hn0:(!decide (vt=0))=true:=by simp;omega
   simp only [hnat,hnat1,hnat2,hnat3,hnat4,← hX,← hvtd,htd,hg',hu3]
   rw [← hu3] at m8
   have hbd:X≤9999999999999999:=by omega
   have hXa:u.getD (k+(digs V.natAbs).length) 0*100000000≤9999999900000000:=by omega
   have hXb:0≤u.getD (k+(digs V.natAbs).length) 0*100000000:=by omega
   have hvl:0<(digs V.natAbs).length:=by omega
   rw [hu3] at m8
   exact(by(repeat' (first | exact AllC.nil | refine AllC.cons ?_ ?_));all_goals (first | exact CU.h {} | (simp [hl,k2,hlo,hvl]<;>omega) | assumption | rfl)))
  rw [hnat3] at h
  have hv2:=zgj out k g2 (by omega)
  rw [hz k (by omega),Int.sub_zero] at hv2
  have s4:=zcK u4 k (by omega)
  rw [zna (by rw [m4,hl]) (fun q hq=>(m5 q hq).trans (hlow3 q hq)),m6,Int.mul_sub] at s4
  have hA2:vl u4+(V.natAbs:Int)*vl (out.set k g2)=A:=by
   rw [hv2,Int.mul_add]
   have e:(V.natAbs:Int)*(100000000 ^ k*g2)=100000000 ^ k*(g2*(V.natAbs:Int)):=by rw [Int.mul_left_comm,Int.mul_comm (V.natAbs:Int) g2]
   rw [e]
   omega
  obtain ⟨u5,o5,p1,p2,p3,p4,p5,p6,p7⟩:=ih u4 (out.set k g2) (by omega) (by omega) m3 m4 (zem hdo _ m1 m2) (by simp;omega) (fun q hq=>by
   rw [IZ _ _ _ _ (by omega)];exact hz q (by omega)) m7 hA2
  exact ⟨u5,o5,p1,p2,p3,p4,p5,p6,Loops.go h p7⟩
noncomputable section
theorem twL_0 (c d:Bool) (a b:Int) (n:Nat) (l:List Int):RndI (eZ tP zmt bw [103,143]) 60 (kZ tP 143 0) 4 [] [0] [] (TW c d a b n l) [1,1] [] [1,2,3,4,5,6,2,3,7] (Ex.normal) (⟨sp 21 [(0,.own 3 0 ((n:Int)-1).toNat 1)],[.flat [.lit (.bool c),.wd a] true,.flat [.lit (.bool d),.wd b] true,.flat [aF,aN] true,.ints l true],[]⟩) [decide ((n:Int) > 0)=true,inR .i64 ((n:Int)-1)=true,decide (0≤(n:Int)-1)=true,decide ((n:Int)-1<(n:Int))=true,decide (0+((n:Int)-1).toNat*1<l.length)=true,(l.getD (0+((n:Int)-1).toNat*1) 0==0)=true,decide ((n:Int)-1≤(n:Int))=true]:={}
theorem twL_1 (c d:Bool) (a b:Int) (n:Nat) (l:List Int):RndI (eZ tP zmt bw [103,143]) 60 (kZ tP 143 0) 4 [] [0] [] (TW c d a b n l) [1,0] [] [1,2,3,4,5,6] (Ex.exit 0) (⟨sp 21 [(0,.own 3 0 n 1)],[.flat [.lit (.bool c),.wd a] true,.flat [.lit (.bool d),.wd b] true,.flat [aF,aN] true,.ints l true],[]⟩) [decide ((n:Int) > 0)=true,inR .i64 ((n:Int)-1)=true,decide (0≤(n:Int)-1)=true,decide ((n:Int)-1<(n:Int))=true,decide (0+((n:Int)-1).toNat*1<l.length)=true,(l.getD (0+((n:Int)-1).toNat*1) 0==0)=false]:={}
theorem twL_2 (c d:Bool) (a b:Int) (n:Nat) (l:List Int):RndI (eZ tP zmt bw [103,143]) 60 (kZ tP 143 0) 4 [] [0] [] (TW c d a b n l) [0] [] [1] (Ex.exit 0) (⟨sp 21 [(0,.own 3 0 n 1)],[.flat [.lit (.bool c),.wd a] true,.flat [.lit (.bool d),.wd b] true,.flat [aF,aN] true,.ints l true],[]⟩) [decide ((n:Int) > 0)=false]:={}
abbrev lg_2_s0 (a f V:Int) (b L J:Nat) (l:List Int):St:=⟨sp 182 [(6,aI f),(7,.own 5 0 L 1),(8,.wd V),(9,aI (↑((digs V.natAbs).length):Int)),(10,.own 6 0 J 1),(11,aI ((J:Int)-1))],[.flat [aF,.wd a] true,.flat [aD f,.wd f] true,.flat [.lit (.bool (!(false==decide (f<0)))),.own 3 0 b 1] true,.dead,.ints [0,0] true,.ints (l.take b++[0,0]) true,.ints (List.replicate J 0) true],[2,3,4,5,6]⟩
abbrev lg_2_s1 (a f:Int) (n:Nat):St:=⟨sp 86 [(2,.ref 0 0),(3,.ref 1 0),(4,.ref 2 0),(5,.own 3 0 n 1),(32,.wd a),(33,aI (↑((digs a.natAbs).length):Int)),(34,aI 0)],[.flat [aF,.wd a] true,.flat [aD f,.wd f] true,.flat [aF,aN] true,.ints (List.replicate n 0) true],[3]⟩
theorem lg_2 (a b i f V:Int) (n c L J:Nat) (l d e:List Int):FunI (eZ tP zmt bw [103,143]) 60 160 [.wd a,.wd b] [0,0] [none,some (zdZ tP (kZ tP 103 0) [] [2,3,4,5,32,33,34] [3] (TO false (decide (f<0)) a f 0 n (List.replicate n 0)) (.exit 0,TO false (decide (f<0)) a f i n l)),none,some (zdZ tP (kZ tP 143 0) [] [0] [] (TW false (decide (f<0)) a f n l) (.exit 0,TW false (decide (f<0)) a f c l)),some dmy,some (zdZ tP (kZ tP 160 0) [] [6,7,8,9,10,11] [2,3,4,5,6] (LO a f c V L J ((J:Int)-1) (l.take c++[0,0]) (List.replicate J 0)) (.exit 0,LO a f c V L J (-1) d e)),some dmy,some dmy] [1,2,3,4,5,6,7,8,9,10,11,12,13,14,15,16,17,0,18,19,20,21,0,8,22,0,23,24,25,26,27,28,29,30,31,32,33,34,35,36] (.tup [.sq (trm (e.take J)),.wd (vl (trm (d.take L)) / f)]) [inR .i64 ((↑((digs b.natAbs).length):Int)-1)=true,decide (0≤(↑((digs b.natAbs).length):Int)-1)=true,decide ((↑((digs b.natAbs).length):Int)-1<(↑((digs b.natAbs).length):Int))=true,decide (((↑((digs b.natAbs).length):Int)-1).toNat<(digs b.natAbs).length)=true,inR .i64 ((digs b.natAbs).getD ((↑((digs b.natAbs).length):Int)-1).toNat 0+1)=true,(!decide ((digs b.natAbs).getD ((↑((digs b.natAbs).length):Int)-1).toNat 0+1=0))=true,inR .i64 (Int.tdiv 100000000 ((digs b.natAbs).getD ((↑((digs b.natAbs).length):Int)-1).toNat 0+1))=true,cZ (Int.tdiv 100000000 ((digs b.natAbs).getD ((↑((digs b.natAbs).length):Int)-1).toNat 0+1)),((↑((digs a.natAbs).length):Int)==0)=false,((↑((digs (Int.tdiv 100000000 ((digs b.natAbs).getD ((↑((digs b.natAbs).length):Int)-1).toNat 0+1)).natAbs).length):Int)==0)=false,inR .i64 ((↑((digs a.natAbs).length):Int)+(↑((digs (Int.tdiv 100000000 ((digs b.natAbs).getD ((↑((digs b.natAbs).length):Int)-1).toNat 0+1)).natAbs).length):Int))=true,decide (0≤(↑((digs a.natAbs).length):Int)+(↑((digs (Int.tdiv 100000000 ((digs b.natAbs).getD ((↑((digs b.natAbs).length):Int)-1).toNat 0+1)).natAbs).length):Int))=true,decide ((↑((digs a.natAbs).length):Int)+(↑((digs (Int.tdiv 100000000 ((digs b.natAbs).getD ((↑((digs b.natAbs).length):Int)-1).toNat 0+1)).natAbs).length):Int)≤(↑((digs a.natAbs).length):Int)+(↑((digs (Int.tdiv 100000000 ((digs b.natAbs).getD ((↑((digs b.natAbs).length):Int)-1).toNat 0+1)).natAbs).length):Int))=true,decide (8*((↑((digs a.natAbs).length):Int)+(↑((digs (Int.tdiv 100000000 ((digs b.natAbs).getD ((↑((digs b.natAbs).length):Int)-1).toNat 0+1)).natAbs).length):Int))≤281474976710656)=true,decide ((↑((digs a.natAbs).length):Int)+(↑((digs (Int.tdiv 100000000 ((digs b.natAbs).getD ((↑((digs b.natAbs).length):Int)-1).toNat 0+1)).natAbs).length):Int)≤9223372036854775807)=true,(⟨sp 86 [(2,.ref 0 0),(3,.ref 1 0),(4,.ref 2 0),(5,.own 3 0 ((↑((digs a.natAbs).length):Int)+(↑((digs (Int.tdiv 100000000 ((digs b.natAbs).getD ((↑((digs b.natAbs).length):Int)-1).toNat 0+1)).natAbs).length):Int)).toNat 1),(32,.wd a),(33,aI (↑((digs a.natAbs).length):Int)),(34,aI 0)],[.flat [aF,.wd a] true,.flat [.lit (.bool (decide (Int.tdiv 100000000 ((digs b.natAbs).getD ((↑((digs b.natAbs).length):Int)-1).toNat 0+1)<0))),.wd (Int.tdiv 100000000 ((digs b.natAbs).getD ((↑((digs b.natAbs).length):Int)-1).toNat 0+1))] true,.flat [aF,aN] true,.ints (List.replicate ((↑((digs a.natAbs).length):Int)+(↑((digs (Int.tdiv 100000000 ((digs b.natAbs).getD ((↑((digs b.natAbs).length):Int)-1).toNat 0+1)).natAbs).length):Int)).toNat 0) true],[3]⟩:St)=(lg_2_s1 a f n),Loops 4 tP (kZ tP 103 0) (lg_2_s1 a f n) (Ex.exit 0,⟨sp 86 [(2,.ref 0 0),(3,.ref 1 0),(4,.ref 2 0),(5,.own 3 0 n 1),(32,.wd a),(33,aI (↑((digs a.natAbs).length):Int)),(34,aI i)],[.flat [aF,.wd a] true,.flat [aD f,.wd f] true,.flat [aF,aN] true,.ints l true],[3]⟩),Loops 4 tP (kZ tP 143 0) ⟨sp 21 [(0,.own 3 0 n 1)],[.flat [aF,.wd a] true,.flat [aD f,.wd f] true,.flat [aF,aN] true,.ints l true],[]⟩ (Ex.exit 0,⟨sp 21 [(0,.own 3 0 c 1)],[.flat [aF,.wd a] true,.flat [aD f,.wd f] true,.flat [aF,aN] true,.ints l true],[]⟩),decide ((c+2)*8≤140737488355328)=true,decide (c+2≤4611686018427387904)=true,decide (c≤l.length)=true,false=decide (b<0),pDD b (Int.tdiv 100000000 ((digs b.natAbs).getD ((↑((digs b.natAbs).length):Int)-1).toNat 0+1)),inR .i64 ((↑(c+2):Int)-(↑((digs (b*Int.tdiv 100000000 ((digs b.natAbs).getD ((↑((digs b.natAbs).length):Int)-1).toNat 0+1)).natAbs).length):Int))=true,decide (0≤if(↑(c+2):Int)-(↑((digs (b*Int.tdiv 100000000 ((digs b.natAbs).getD ((↑((digs b.natAbs).length):Int)-1).toNat 0+1)).natAbs).length):Int) > 0 then(↑(c+2):Int)-(↑((digs (b*Int.tdiv 100000000 ((digs b.natAbs).getD ((↑((digs b.natAbs).length):Int)-1).toNat 0+1)).natAbs).length):Int) else 0)=true,decide ((if(↑(c+2):Int)-(↑((digs (b*Int.tdiv 100000000 ((digs b.natAbs).getD ((↑((digs b.natAbs).length):Int)-1).toNat 0+1)).natAbs).length):Int) > 0 then(↑(c+2):Int)-(↑((digs (b*Int.tdiv 100000000 ((digs b.natAbs).getD ((↑((digs b.natAbs).length):Int)-1).toNat 0+1)).natAbs).length):Int) else 0)≤if(↑(c+2):Int)-(↑((digs (b*Int.tdiv 100000000 ((digs b.natAbs).getD ((↑((digs b.natAbs).length):Int)-1).toNat 0+1)).natAbs).length):Int) > 0 then(↑(c+2):Int)-(↑((digs (b*Int.tdiv 100000000 ((digs b.natAbs).getD ((↑((digs b.natAbs).length):Int)-1).toNat 0+1)).natAbs).length):Int) else 0)=true,decide ((8*if(↑(c+2):Int)-(↑((digs (b*Int.tdiv 100000000 ((digs b.natAbs).getD ((↑((digs b.natAbs).length):Int)-1).toNat 0+1)).natAbs).length):Int) > 0 then(↑(c+2):Int)-(↑((digs (b*Int.tdiv 100000000 ((digs b.natAbs).getD ((↑((digs b.natAbs).length):Int)-1).toNat 0+1)).natAbs).length):Int) else 0)≤281474976710656)=true,decide ((if(↑(c+2):Int)-(↑((digs (b*Int.tdiv 100000000 ((digs b.natAbs).getD ((↑((digs b.natAbs).length):Int)-1).toNat 0+1)).natAbs).length):Int) > 0 then(↑(c+2):Int)-(↑((digs (b*Int.tdiv 100000000 ((digs b.natAbs).getD ((↑((digs b.natAbs).length):Int)-1).toNat 0+1)).natAbs).length):Int) else 0)≤9223372036854775807)=true,inR .i64 ((↑((if(↑(c+2):Int)-(↑((digs (b*Int.tdiv 100000000 ((digs b.natAbs).getD ((↑((digs b.natAbs).length):Int)-1).toNat 0+1)).natAbs).length):Int) > 0 then(↑(c+2):Int)-(↑((digs (b*Int.tdiv 100000000 ((digs b.natAbs).getD ((↑((digs b.natAbs).length):Int)-1).toNat 0+1)).natAbs).length):Int) else 0).toNat):Int)-1)=true,(⟨sp 182 [(6,aI (Int.tdiv 100000000 ((digs b.natAbs).getD ((↑((digs b.natAbs).length):Int)-1).toNat 0+1))),(7,.own 5 0 (c+2) 1),(8,.wd (b*Int.tdiv 100000000 ((digs b.natAbs).getD ((↑((digs b.natAbs).length):Int)-1).toNat 0+1))),(9,aI (↑((digs (b*Int.tdiv 100000000 ((digs b.natAbs).getD ((↑((digs b.natAbs).length):Int)-1).toNat 0+1)).natAbs).length):Int)),(10,.own 6 0 (if(↑(c+2):Int)-(↑((digs (b*Int.tdiv 100000000 ((digs b.natAbs).getD ((↑((digs b.natAbs).length):Int)-1).toNat 0+1)).natAbs).length):Int) > 0 then(↑(c+2):Int)-(↑((digs (b*Int.tdiv 100000000 ((digs b.natAbs).getD ((↑((digs b.natAbs).length):Int)-1).toNat 0+1)).natAbs).length):Int) else 0).toNat 1),(11,aI ((↑((if(↑(c+2):Int)-(↑((digs (b*Int.tdiv 100000000 ((digs b.natAbs).getD ((↑((digs b.natAbs).length):Int)-1).toNat 0+1)).natAbs).length):Int) > 0 then(↑(c+2):Int)-(↑((digs (b*Int.tdiv 100000000 ((digs b.natAbs).getD ((↑((digs b.natAbs).length):Int)-1).toNat 0+1)).natAbs).length):Int) else 0).toNat):Int)-1))],[.flat [aF,.wd a] true,.flat [aD f,.wd f] true,.flat [.lit (.bool (!(false==decide (f<0)))),.own 3 0 c 1] true,.dead,.ints [0,0] true,.ints (l.take c++List.take 2 [0,0]) true,.ints (List.replicate (if(↑(c+2):Int)-(↑((digs (b*Int.tdiv 100000000 ((digs b.natAbs).getD ((↑((digs b.natAbs).length):Int)-1).toNat 0+1)).natAbs).length):Int) > 0 then(↑(c+2):Int)-(↑((digs (b*Int.tdiv 100000000 ((digs b.natAbs).getD ((↑((digs b.natAbs).length):Int)-1).toNat 0+1)).natAbs).length):Int) else 0).toNat 0) true],[2,3,4,5,6]⟩:St)=(lg_2_s0 a f V c L J l),Loops 7 tP (kZ tP 160 0) (lg_2_s0 a f V c L J l) (Ex.exit 0,⟨sp 182 [(6,aI f),(7,.own 5 0 L 1),(8,.wd V),(9,aI (↑((digs V.natAbs).length):Int)),(10,.own 6 0 J 1),(11,aI (-1))],[.flat [aF,.wd a] true,.flat [aD f,.wd f] true,.flat [.lit (.bool (!(false==decide (f<0)))),.own 3 0 c 1] true,.dead,.ints [0,0] true,.ints d true,.ints e true],[2,3,4,5,6]⟩),L≤d.length,MZ (d.take L),zgd (trm (d.take L)) f,J≤e.length,MZ (e.take J)]:={}
end
theorem zox:∀l:List Int,l.take (trm l).length=trm l
 | []=>rfl
 | d :: l=>by
  simp only [trm]
  split
  ·rfl
  ·simp [zox l]
theorem trimO (na nb:Bool) (a b:Int) (l:List Int) (hl:l.length≤4611686018427387904):∀(n:Nat),n≤l.length →
 Loops 4 tP (kZ tP 143 0) (TW na nb a b n l) (.exit 0,TW na nb a b (trm (l.take n)).length l)
 | 0,hn=>Loops.fin (LS.of zpv (twL_2 na nb a b 0 l) (by(repeat' (first | exact AllC.nil | refine AllC.cons ?_ ?_));all_goals (first | exact CU.h {} | (simp []<;>omega) | assumption | rfl))) (by simp [Ex.toExit])
 | n + 1,hn=>by
  have hnat:0+Int.toNat (((n+1:Nat):Int)-1)*1=n:=by omega
  have hnat2:Int.toNat (((n+1:Nat):Int)-1)=n:=by omega
  have hlt:n<l.length:=by omega
  have hg:l.getD n 0=l[n]:=by simp [List.getD,hlt]
  rw [List.take_succ_eq_append_getElem hlt,← hg]
  by_cases hd:l.getD n 0=0
  ·have hx:(l.getD n 0==0)=true:=by rw [hd];rfl
   have h:=LS.of zpv (twL_0 na nb a b (n+1) l) (by
    rw [hnat]
    exact(by(repeat' (first | exact AllC.nil | refine AllC.cons ?_ ?_));all_goals (first | exact CU.h {} | (simp [hx]<;>omega) | assumption | rfl)))
   rw [hnat2] at h
   rw [hd,zgP]
   exact Loops.go h (trimO na nb a b l hl n (by omega))
  ·have hx:(l.getD n 0==0)=false:=by simpa using hd
   have h:=LS.of zpv (twL_1 na nb a b (n+1) l) (by
    rw [hnat]
    exact(by(repeat' (first | exact AllC.nil | refine AllC.cons ?_ ?_));all_goals (first | exact CU.h {} | (simp [hx]<;>omega) | assumption | rfl)))
   rw [zcJ _ _ hd]
   have e:(l.take n++[l.getD n 0]).length=n+1:=by simp;omega
   rw [e]
   exact Loops.fin h (by simp [Ex.toExit])
theorem pow_mono {m n:Nat} (h:m≤n):(100000000:Int) ^ m≤100000000 ^ n:=by
 have h2:=Int.ofNat_le.2 (Nat.pow_le_pow_right (show 0<100000000 by decide) h)
 rw [Int.natCast_pow,Int.natCast_pow] at h2
 exact h2
theorem zj3 {V:Int} (h:V≠0):(100000000:Int) ^ ((digs V.natAbs).length-1)≤(V.natAbs:Int):=by
 have hp:=zbJ h
 rcases Nat.lt_or_ge V.natAbs (100000000 ^ ((digs V.natAbs).length-1)) with h1 | h1
 ·have:=zab _ _ h1
  omega
 ·have h2:=Int.ofNat_le.2 h1
  rw [Int.natCast_pow] at h2
  exact h2
theorem znM {m n:Nat} (h:m≤n):(digs m).length≤(digs n).length:=by
 rcases Nat.lt_or_ge (digs n).length (digs m).length with h1 | h1
 ·have:=zb9 h1;omega
 ·exact h1
theorem digs_one {f:Int} (h0:0<f) (h1:f<100000000):(digs f.natAbs).length=1:=by
 have h2:=zab f.natAbs 1 (by omega)
 have h3:=zbJ (show f≠0 by omega)
 omega
theorem long_nn (a b:Int) (ha:0<a) (hb:0<b) (hfa:zag a) (hfb:zag b) (h2:2≤(digs b.natAbs).length):FC tP 160 [.wd a,.wd b] (.tup [.wd (a / b),.wd (a % b)]):=by
 have hfa':=hfa
 have hfb':=hfb
 unfold zag dl at hfa' hfb'
 have hnat2:Int.toNat (((digs b.natAbs).length:Int)-1)=(digs b.natAbs).length-1:=by omega
 obtain ⟨bt,hbt⟩:∃bt,(digs b.natAbs).getD ((digs b.natAbs).length-1) 0=bt:=⟨_,rfl⟩
 have hbt0:=last_ne (n:=b.natAbs) (by omega)
 have hbt1:=(GZ (oZ b.natAbs) ((digs b.natAbs).length-1)).2
 rw [hbt] at hbt0 hbt1
 obtain ⟨f,hfd⟩:∃f,Int.tdiv 100000000 (bt+1)=f:=⟨_,rfl⟩
 have hfe:f=100000000 / (bt+1):=by rw [← hfd];exact Int.tdiv_eq_ediv_of_nonneg (by decide)
 have hf0:1≤f:=by rw [hfe];exact(Int.le_ediv_iff_mul_le (by omega)).2 (by omega)
 have hf1:f≤50000000:=by
  rw [hfe]
  have:100000000 / (bt+1)<50000001:=Int.ediv_lt_of_lt_mul (by omega) (by omega)
  omega
 have hlf:=digs_one (f:=f) (by omega) (by omega)
 have hff:zag f:=by unfold zag dl;omega
 obtain ⟨V,hVd⟩:∃V,b*f=V:=⟨_,rfl⟩
 have hVb:b≤V:=by
  have:=Int.mul_le_mul_of_nonneg_left hf0 (show 0≤b by omega)
  omega
 have hV0:V≠0:=by omega
 have hVn:(V.natAbs:Int)=V:=by omega
 have hnv:(digs b.natAbs).length≤(digs V.natAbs).length:=znM (by omega)
 have hnv2:(digs V.natAbs).length≤(digs b.natAbs).length+1:=by
  refine zab _ _ ?_
  rw [← hVd,Int.natAbs_mul,Nat.pow_succ]
  exact Nat.mul_lt_mul'' (zjD b.natAbs) (by omega)
 obtain ⟨n,hN⟩:∃n,Int.toNat (((digs a.natAbs).length:Int)+((digs f.natAbs).length:Int))=n:=⟨_,rfl⟩
 have hN2:n=(digs a.natAbs).length+(digs f.natAbs).length:=by omega
 have hpa:=zbJ (show a≠0 by omega)
 have hna:=zd8 (show a≠0 by omega)
 have hnf:=zd8 (show f≠0 by omega)
 have hz0:∀m:Nat,Digs (List.replicate m 0):=fun m d hd=>by
  have:=List.eq_of_mem_replicate hd
  omega
 have hvz:∀m:Nat,vl (List.replicate m 0)=0:=by
  intro m
  induction m with
  | zero=>rfl
  | succ m ih=>simp only [List.replicate_succ,vl,ih];rfl
 have hgz:∀m j:Nat,(List.replicate m (0:Int)).getD j 0=0:=fun m j=>by
  simp [List.getD,List.getElem?_replicate];split<;>rfl
 obtain ⟨l,k1,k2,k3,k4⟩:=timesO false (decide (f<0)) a f hfa hff n hN2 (by omega) (digs a.natAbs).length 0 (List.replicate n 0) (by omega) (hz0 n) (by simp) (fun j _=>hgz n j)
 have hvl:vl l=a*f:=by
  rw [k3,hvz,List.drop_zero,XZ,Int.pow_zero,Int.one_mul,Int.zero_add]
  rw [show(a.natAbs:Int)=a by omega,show(f.natAbs:Int)=f by omega]
 have k4o:Loops 4 tP (kZ tP 103 0) (TO false (decide (f<0)) a f 0 n (List.replicate n 0)) (.exit 0,TO false (decide (f<0)) a f ((digs a.natAbs).length:Int) n l):=k4
 have hT:=trimO false (decide (f<0)) a f l (by omega) n (by omega)
 have hln:l.take n=l:=by rw [← k2];exact zar l
 rw [hln] at hT
 obtain ⟨n2,hn2⟩:∃n2,(trm l).length=n2:=⟨_,rfl⟩
 rw [hn2] at hT
 have hn2l:n2≤l.length:=by rw [← hn2];exact zfV l
 have htk:l.take n2=trm l:=by rw [← hn2];exact zox l
 obtain ⟨J,hJ⟩:∃J,Int.toNat (if((n2+2:Nat):Int)-((digs V.natAbs).length:Int) > 0 then((n2+2:Nat):Int)-((digs V.natAbs).length:Int) else 0)=J:=⟨_,rfl⟩
 have hJ2:J=n2+2-(digs V.natAbs).length:=by rw [← hJ];split<;>omega
 have hDu:Digs (l.take n2++[0,0]):=by
  rw [htk]
  intro d hd
  rcases List.mem_append.1 hd with h | h
  ·exact k1.trm d h
  ·simp at h;subst h;omega
 have hvu:vl (l.take n2++[0,0])=a*f:=by
  rw [zaK,htk,vl_trm,hvl];simp [vl]
 have hlu:(l.take n2++[(0:Int),0]).length=n2+2:=by simp;omega
 have hwin:vl ((l.take n2++[(0:Int),0]).drop J)<(V.natAbs:Int):=by
  have hJle:J≤(l.take n2).length:=by simp;omega
  rw [List.drop_append_of_le_length hJle,zaK]
  have h1:=zfW (zcS (za0 k1 n2) J)
  have h2:((l.take n2).drop J).length≤(digs V.natAbs).length-1:=by simp;omega
  have h3:=pow_mono h2
  have h4:=zj3 hV0
  simp only [vl,Int.mul_zero,Int.add_zero]
  omega
 obtain ⟨u2,o2,p1,p2,p3,p4,p5,p6,p7⟩:=mainL a f n2 V (n2+2) J (by omega) hV0 (by omega) (a*f) J (l.take n2++[0,0]) (List.replicate J 0) (Nat.le_refl _) (by omega) hDu hlu (hz0 J) (by simp) (fun q _=>hgz J q) hwin (by rw [hvz,hvu];simp)
 have e1:List.take (n2+2) u2=u2:=by rw [← p2];exact zar u2
 have e2:List.take J o2=o2:=by rw [← p4];exact zar o2
 have hpd:pDD b f:=⟨hfb,hff⟩
 have hps:zgd (trm u2) f:=⟨p1.trm,by have:=zfV u2;omega,by omega,by omega⟩
 have hbn:false=decide (b<0):=by simp;omega
 have hpf:cZ f:=⟨by omega,by omega⟩
 have hb0:(!decide (bt+1=0))=true:=by simp;omega
 have:=lZ zpv (lg_2 a b ((digs a.natAbs).length:Int) f V n n2 (n2+2) J l u2 o2) (by
  simp only [hnat2,hbt,hfd,hVd,hN,hJ,e1,e2]
  have hif:(if((n2+2:Nat):Int)-((digs V.natAbs).length:Int) > 0 then((n2+2:Nat):Int)-((digs V.natAbs).length:Int) else 0)=(J:Int):=by
   rw [← hJ];split<;>omega
  simp only [hif]
  exact(by(repeat' (first | exact AllC.nil | refine AllC.cons ?_ ?_));all_goals (first | exact CU.h {} | (simp [hna,hnf,p2,p4,MZ]<;>omega) | assumption | rfl)))
 rw [e1,e2] at this
 rw [hVn] at p5 p6
 have hu0:=FZ p1
 have hmul:V*vl o2=b*(f*vl o2):=by rw [← hVd,Int.mul_assoc]
 have hdiv:a / b=vl o2:=by
  rw [← Int.mul_ediv_mul_of_pos_left a b (show 0<f by omega),hVd,← p6,Int.add_mul_ediv_left _ _ hV0,Int.ediv_eq_zero_of_lt hu0 p5,Int.zero_add]
 have hmod:f*(a % b)=vl u2:=by
  rw [← Int.mul_emod_mul_of_pos a b (show 0<f by omega),Int.mul_comm f a,Int.mul_comm f b,hVd,← p6,Int.add_mul_emod_self_left,Int.emod_eq_of_lt hu0 p5]
 have ho0:=FZ p3
 refine this.res fun E v hv=>hv.tup2 (fun u hu=>hu.toWd rfl ?_) (fun u hu=>?_)
 ·rw [zas p3,hdiv];congr 1;omega
 ·have:vl (trm u2) / f=a % b:=by rw [vl_trm,← hmod];exact Int.mul_ediv_cancel_left _ (by omega)
  rw [this] at hu
  exact hu
theorem Rd.natAbs {E:Env} {a b:Int} {v:Value} (h:a.natAbs=b.natAbs) (hr:Rd E (.wd a) v):Rd E (.wd b) v:=hr.toWd (l:=digs a.natAbs) rfl (by rw [h])
def zpA (a b:Int):Prop:=a≠0∧zag a∧zag b∧2≤(digs b.natAbs).length
theorem long_fc (a b:Int) (h:zpA a b):FC tP 160 [.wd a,.wd b] (.tup [.wd ((a.natAbs:Int) / (b.natAbs:Int)),.wd ((a.natAbs:Int) % (b.natAbs:Int))]):=by
 obtain ⟨h0,h1,h2,h3⟩:=h
 have hb0:b≠0:=by
  rintro rfl
  simp [QZ] at h3
 have h1':zag (a.natAbs:Int):=by unfold zag dl at *;simpa using h1
 have h2':zag (b.natAbs:Int):=by unfold zag dl at *;simpa using h2
 exact(long_nn (a.natAbs:Int) (b.natAbs:Int) (by omega) (by omega) h1' h2' (by simpa using h3)).arg2 (fun E v h=>Rd.natAbs (by simp) h) (fun E v h=>Rd.natAbs (by simp) h)
def zrU:Ctr:=(160,cDD zpA (fun a b=>.tup [.wd ((a.natAbs:Int) / (b.natAbs:Int)),.wd ((a.natAbs:Int) % (b.natAbs:Int))])) :: zmt
theorem znv:∀p∈zrU,jZ tP p.1 p.2:=CAll.cons (cDD_ok long_fc) znu
theorem ok9:(eZ tP zrU bw).OK:=JZ znv
noncomputable section
theorem ov_0 (c d:Bool) (a b:Int):FunI (eZ tP zrU bw) 60 124 [.agg [.lit (.bool c),.wd a],.agg [.lit (.bool d),.wd b]] [1,1,1,1] [] [1,2,3,4,5,0,0,6,5,0,0,6,0,7,0,8,0,9,0,0,0] (.tup [.agg [.lit (.bool (!(c==d))),.wd 1],.agg [.lit (.bool (decide (b + -a<0))),.wd (b + -a)]]) [pDD a b,decide (zcR (a.natAbs:Int) (b.natAbs:Int)<0)=true,c=true,decide ((↑((digs a.natAbs).length):Int) > 0)=true,cZ 1,pDD 0 1,false=decide (a<0),false=decide (b<0),pDD b (-a)]:={}
theorem ov_2 (c d:Bool) (a b:Int):FunI (eZ tP zrU bw) 60 124 [.agg [.lit (.bool c),.wd a],.agg [.lit (.bool d),.wd b]] [1,0,0] [] [1,2,3,0,0,0] (.tup [.agg [.ff,aN],.agg [aF,.wd a]]) [pDD a b,decide (zcR (a.natAbs:Int) (b.natAbs:Int)<0)=true,c=false]:={}
theorem ov_3 (c d:Bool) (a b:Int):FunI (eZ tP zrU bw) 60 124 [.agg [.lit (.bool c),.wd a],.agg [.lit (.bool d),.wd b]] [0,1,1,1,1] [] [1,2,3,0,4,5,6,7,8,9,10,11,0,12,10,11,0,12,0,0,0,13,0,14,15,0,0] (.tup [.agg [.lit (.bool (!(c==d))),.wd (vl (digs a.natAbs) / (digs b.natAbs).getD 0 0+1)],.agg [.lit (.bool (decide (b + -(vl (digs a.natAbs) % (digs b.natAbs).getD 0 0)<0))),.wd (b + -(vl (digs a.natAbs) % (digs b.natAbs).getD 0 0))]]) [pDD a b,decide (zcR (a.natAbs:Int) (b.natAbs:Int)<0)=false,((↑((digs b.natAbs).length):Int)==1)=true,decide (0<(↑((digs b.natAbs).length):Int))=true,decide (0<(digs b.natAbs).length)=true,zgd (digs a.natAbs) ((digs b.natAbs).getD 0 0),cZ (vl (digs a.natAbs) % (digs b.natAbs).getD 0 0),c=true,decide ((↑((digs (vl (digs a.natAbs) % (digs b.natAbs).getD 0 0).natAbs).length):Int) > 0)=true,cZ 1,false=decide (vl (digs a.natAbs) / (digs b.natAbs).getD 0 0<0),pDD (vl (digs a.natAbs) / (digs b.natAbs).getD 0 0) 1,false=decide (b<0),pDD b (-(vl (digs a.natAbs) % (digs b.natAbs).getD 0 0)),decide ((↑((digs (vl (digs a.natAbs) / (digs b.natAbs).getD 0 0+1).natAbs).length):Int) > 0)=true]:={}
theorem ov_5 (c d:Bool) (a b:Int):FunI (eZ tP zrU bw) 60 124 [.agg [.lit (.bool c),.wd a],.agg [.lit (.bool d),.wd b]] [0,1,1,0,1] [] [1,2,3,0,4,5,6,7,8,9,10,0,0] (.tup [.agg [.lit (.bool (!(c==d))),.wd (vl (digs a.natAbs) / (digs b.natAbs).getD 0 0)],.agg [.lit (.bool (decide (vl (digs a.natAbs) % (digs b.natAbs).getD 0 0<0))),.wd (vl (digs a.natAbs) % (digs b.natAbs).getD 0 0)]]) [pDD a b,decide (zcR (a.natAbs:Int) (b.natAbs:Int)<0)=false,((↑((digs b.natAbs).length):Int)==1)=true,decide (0<(↑((digs b.natAbs).length):Int))=true,decide (0<(digs b.natAbs).length)=true,zgd (digs a.natAbs) ((digs b.natAbs).getD 0 0),cZ (vl (digs a.natAbs) % (digs b.natAbs).getD 0 0),c=true,decide ((↑((digs (vl (digs a.natAbs) % (digs b.natAbs).getD 0 0).natAbs).length):Int) > 0)=false,decide ((↑((digs (vl (digs a.natAbs) / (digs b.natAbs).getD 0 0).natAbs).length):Int) > 0)=true]:={}
theorem ov_7 (c d:Bool) (a b:Int):FunI (eZ tP zrU bw) 60 124 [.agg [.lit (.bool c),.wd a],.agg [.lit (.bool d),.wd b]] [0,1,0,1] [] [1,2,3,0,4,5,6,7,8,9,0,0] (.tup [.agg [.lit (.bool (!(c==d))),.wd (vl (digs a.natAbs) / (digs b.natAbs).getD 0 0)],.agg [.lit (.bool (decide (vl (digs a.natAbs) % (digs b.natAbs).getD 0 0<0))),.wd (vl (digs a.natAbs) % (digs b.natAbs).getD 0 0)]]) [pDD a b,decide (zcR (a.natAbs:Int) (b.natAbs:Int)<0)=false,((↑((digs b.natAbs).length):Int)==1)=true,decide (0<(↑((digs b.natAbs).length):Int))=true,decide (0<(digs b.natAbs).length)=true,zgd (digs a.natAbs) ((digs b.natAbs).getD 0 0),cZ (vl (digs a.natAbs) % (digs b.natAbs).getD 0 0),c=false,decide ((↑((digs (vl (digs a.natAbs) / (digs b.natAbs).getD 0 0).natAbs).length):Int) > 0)=true]:={}
theorem ov_9 (c d:Bool) (a b:Int):FunI (eZ tP zrU bw) 60 124 [.agg [.lit (.bool c),.wd a],.agg [.lit (.bool d),.wd b]] [0,0,1,1,1] [] [1,2,3,4,5,6,7,8,0,9,7,8,0,9,0,10,0,11,0,12,13,0,0] (.tup [.agg [.lit (.bool (!(c==d))),.wd ((a.natAbs:Int) / (b.natAbs:Int)+1)],.agg [.lit (.bool (decide (b + -((a.natAbs:Int) % (b.natAbs:Int))<0))),.wd (b + -((a.natAbs:Int) % (b.natAbs:Int)))]]) [pDD a b,decide (zcR (a.natAbs:Int) (b.natAbs:Int)<0)=false,((↑((digs b.natAbs).length):Int)==1)=false,zpA a b,c=true,decide ((↑((digs ((a.natAbs:Int) % (b.natAbs:Int)).natAbs).length):Int) > 0)=true,cZ 1,false=decide ((a.natAbs:Int) / (b.natAbs:Int)<0),pDD ((a.natAbs:Int) / (b.natAbs:Int)) 1,false=decide ((a.natAbs:Int) % (b.natAbs:Int)<0),false=decide (b<0),pDD b (-((a.natAbs:Int) % (b.natAbs:Int))),decide ((↑((digs ((a.natAbs:Int) / (b.natAbs:Int)+1).natAbs).length):Int) > 0)=true]:={}
theorem ov_11 (c d:Bool) (a b:Int):FunI (eZ tP zrU bw) 60 124 [.agg [.lit (.bool c),.wd a],.agg [.lit (.bool d),.wd b]] [0,0,1,0,1] [] [1,2,3,4,5,6,7,0,0] (.tup [.agg [.lit (.bool (!(c==d))),.wd ((a.natAbs:Int) / (b.natAbs:Int))],.agg [aF,.wd ((a.natAbs:Int) % (b.natAbs:Int))]]) [pDD a b,decide (zcR (a.natAbs:Int) (b.natAbs:Int)<0)=false,((↑((digs b.natAbs).length):Int)==1)=false,zpA a b,c=true,decide ((↑((digs ((a.natAbs:Int) % (b.natAbs:Int)).natAbs).length):Int) > 0)=false,decide ((↑((digs ((a.natAbs:Int) / (b.natAbs:Int)).natAbs).length):Int) > 0)=true]:={}
theorem ov_13 (c d:Bool) (a b:Int):FunI (eZ tP zrU bw) 60 124 [.agg [.lit (.bool c),.wd a],.agg [.lit (.bool d),.wd b]] [0,0,0,1] [] [1,2,3,4,5,6,0,0] (.tup [.agg [.lit (.bool (!(c==d))),.wd ((a.natAbs:Int) / (b.natAbs:Int))],.agg [aF,.wd ((a.natAbs:Int) % (b.natAbs:Int))]]) [pDD a b,decide (zcR (a.natAbs:Int) (b.natAbs:Int)<0)=false,((↑((digs b.natAbs).length):Int)==1)=false,zpA a b,c=false,decide ((↑((digs ((a.natAbs:Int) / (b.natAbs:Int)).natAbs).length):Int) > 0)=true]:={}
theorem cmpW_0 (a b:Int):FunI (eZ tP zrU bw) 60 121 [W a,W b] [] [] [0,0,0,0,1,0,0] (aI (a + -b).sign) [pDD a (-b)]:={}
end
theorem zcr {a b:Int} (h:zag b) (hab:a.natAbs≤b.natAbs):zag a:=by
 unfold zag dl at *
 have:=znM hab
 omega
theorem fits1:zag 1:=by unfold zag dl;decide
theorem Rd_sgW {E:Env} {s:Bool} {m z:Int} {v:Value} (hs:s=decide (z<0)) (hm:m.natAbs=z.natAbs) (h:Rd E (.agg [.lit (.bool s),.wd m]) v):Rd E (W z) v:=
 h.toW (l:=digs m.natAbs) rfl rfl hs (by rw [hm])
theorem over_nn (na nb:Bool) (a b:Int) (ha:0≤a) (hb:0<b) (hna:na=true→0<a) (hfa:zag a) (hfb:zag b) :
 FC tP 124 [.agg [.lit (.bool na),.wd a],.agg [.lit (.bool nb),.wd b]]
  (.tup [W ((if na then -a else a) / (if nb then -b else b)),W ((if na then -a else a) % (if nb then -b else b))]):=by
 have haa:(a.natAbs:Int)=a:=by omega
 have hbb:(b.natAbs:Int)=b:=by omega
 have hQ0:0≤a / b:=Int.ediv_nonneg ha (by omega)
 have hR0:0≤a % b:=Int.emod_nonneg _ (by omega)
 have hR1:a % b<b:=Int.emod_lt_of_pos _ hb
 have hdm:=Int.mul_ediv_add_emod a b
 have hQle:a / b≤a:=Int.ediv_le_self _ ha
 have hfQ:zag (a / b):=zcr hfa (by omega)
 have hfR:zag (a % b):=zcr hfb (by omega)
 have hP:pDD a b:=⟨hfa,hfb⟩
 have hP1:pDD (a / b) 1:=⟨hfQ,fits1⟩
 have hqn:false=decide (a / b<0):=by simp;omega
 have hrn:false=decide (a % b<0):=by simp;omega
 have hbn:false=decide (b<0):=by simp;omega
 have han:false=decide (a<0):=by simp;omega
 have hpf1:cZ 1:=by unfold cZ;decide
 have hvla:vl (digs a.natAbs)=a:=by rw [XZ,haa]
 have hfR2:zag (-(a % b)):=zcr hfb (by omega)
 have hP3:pDD b (-(a % b)):=⟨hfb,hfR2⟩
 have hpos:(a / b=a / b)∧True:=⟨rfl,trivial⟩
 have neg1:0<a % b→(-a) / b = -(a / b+1)∧(-a) % b=b-a % b:=fun h=>
  (Int.ediv_emod_unique hb).2 ⟨by rw [Int.mul_neg,Int.mul_add,Int.mul_one];omega,by omega,by omega⟩
 have neg0:a % b=0→(-a) / b = -(a / b)∧(-a) % b=0:=fun h=>
  (Int.ediv_emod_unique hb).2 ⟨by rw [Int.mul_neg];omega,by omega,by omega⟩
 have fin : ∀(s:Bool) (m r:Int),0≤m→(m=0→s=false)→(if na then -a else a) / b=(if na then -m else m)→(if na then -a else a) % b=r→(s=(!(na==nb))∨m=0) →
  ∀(E:Env) (v:Value) (sr:Bool),sr=decide (r<0)→Rd E (.tup [.agg [.lit (.bool s),.wd m],.agg [.lit (.bool sr),.wd r]]) v →
   Rd E (.tup [W ((if na then -a else a) / (if nb then -b else b)),W ((if na then -a else a) % (if nb then -b else b))]) v:=by
  intro s m r hm hm0 h1 h2 hs E v sr hsr hv
  refine hv.tup2 (fun u hu=>Rd_sgW ?_ ?_ hu) (fun u hu=>Rd_sgW ?_ ?_ hu)
  ·by_cases hmz:m=0
   ·rw [hm0 hmz]
    cases nb
    ·simp only [Bool.false_eq_true,if_false]
     rw [h1,hmz];cases na<;>simp
    ·simp only [if_true]
     rw [Int.ediv_neg,h1,hmz];cases na<;>simp
   ·rcases hs with hs | hs
    ·rw [hs]
     cases nb
     ·simp only [Bool.false_eq_true,if_false]
      rw [h1];cases na<;>simp<;>omega
     ·simp only [if_true]
      rw [Int.ediv_neg,h1];cases na<;>simp<;>omega
    ·exact absurd hs hmz
  ·cases nb
   ·simp only [Bool.false_eq_true,if_false]
    rw [h1];cases na<;>simp
   ·simp only [if_true]
    rw [Int.ediv_neg,h1];cases na<;>simp
  ·cases nb
   ·simp only [Bool.false_eq_true,if_false];rw [h2];exact hsr
   ·simp only [if_true];rw [Int.emod_neg,h2];exact hsr
  ·cases nb
   ·simp only [Bool.false_eq_true,if_false];rw [h2]
   ·simp only [if_true];rw [Int.emod_neg,h2]
 have hsr0:∀r:Int,0≤r→false=decide (r<0):=fun r h=>by simp;omega
 by_cases hab:a<b
 ·-- the dividend is the smaller one
  have hq:a / b=0:=Int.ediv_eq_zero_of_lt ha hab
  have hr:a % b=a:=Int.emod_eq_of_lt ha hab
  have hcmp:zcR a b = -1:=by unfold zcR;rw [if_pos hab]
  cases na with
  | true=>
   have ha0:=hna rfl
   have hp:=zbJ (show a≠0 by omega)
   have hP0:pDD 0 1:=⟨zcr fits1 (by decide),fits1⟩
   have hfa2:zag (-a):=zcr hfa (by omega)
   have hP4:pDD b (-a):=⟨hfb,hfa2⟩
   have:=lZ ok9 (ov_0 true nb a b) (by
    rw [haa,hbb,hcmp]
    exact(by(repeat' (first | exact AllC.nil | refine AllC.cons ?_ ?_));all_goals (first | exact CU.h {} | (simp []<;>omega) | assumption | rfl)))
   have h1:=neg1 (by omega)
   rw [hq,hr] at h1
   refine this.res fun E v hv=>fin _ 1 (b + -a) (by omega) (by omega) (by simpa using h1.1) (by simpa using (by have:=h1.2;omega:(-a) % b=b + -a)) (.inl rfl) E v _ rfl hv
  | false=>
   have:=lZ ok9 (ov_2 false nb a b) (by
    rw [haa,hbb,hcmp]
    exact(by(repeat' (first | exact AllC.nil | refine AllC.cons ?_ ?_));all_goals (first | exact CU.h {} | (simp []<;>omega) | assumption | rfl)))
   refine this.res fun E v hv=>fin false 0 a (by omega) (fun _=>rfl) (by simpa using hq) (by simpa using hr) (.inr rfl) E v false (hsr0 a ha) ?_
   exact hv.tup2 (fun u hu=>hu.agg2 (fun w hw=>by cases hw;exact .lit _) (fun w hw=>hw.toWd (l:=[]) rfl rfl)) (fun u hu=>hu)
 ·have hcmp:decide (zcR a b<0)=false:=by unfold zcR;rw [if_neg hab];split<;>rfl
  have hQ1:1≤a / b:=(Int.le_ediv_iff_mul_le hb).2 (by omega)
  have hQp:=zbJ (show a / b≠0 by omega)
  have hQp1:=zbJ (show a / b+1≠0 by omega)
  by_cases h1:(digs b.natAbs).length=1
  ·-- one digit
   have hd0:(digs b.natAbs).getD 0 0=b:=by
    have hv:=XZ b.natAbs
    match hq:digs b.natAbs,h1 with
    | [d],_=>rw [hq] at hv;simp only [vl] at hv;show d=b;omega
   have hbd:=(GZ (oZ b.natAbs) 0).2
   rw [hd0] at hbd
   have hps:zgd (digs a.natAbs) b:=⟨oZ _,by unfold zag dl at hfa;omega,hb,by omega⟩
   have hpf:cZ (a % b):=⟨by omega,by omega⟩
   cases na with
   | true=>
    by_cases hr:a % b=0
    ·have hrz:(digs (a % b).natAbs).length=0:=by rw [hr];rfl
     have:=lZ ok9 (ov_5 true nb a b) (by
      simp only [haa,hbb,hcmp,hvla,hd0]
      exact(by(repeat' (first | exact AllC.nil | refine AllC.cons ?_ ?_));all_goals (first | exact CU.h {} | (simp [h1]<;>omega) | assumption | rfl)))
     simp only [hvla,hd0] at this
     have h2:=neg0 hr
     refine this.res fun E v hv=>fin _ (a / b) (a % b) hQ0 (by omega) (by simpa using h2.1) (by rw [hr];simpa using h2.2) (.inl rfl) E v _ rfl hv
    ·have hrp:=zbJ hr
     have:=lZ ok9 (ov_3 true nb a b) (by
      simp only [haa,hbb,hcmp,hvla,hd0]
      exact(by(repeat' (first | exact AllC.nil | refine AllC.cons ?_ ?_));all_goals (first | exact CU.h {} | (simp [h1]<;>omega) | assumption | rfl)))
     simp only [hvla,hd0] at this
     have h2:=neg1 (by omega)
     refine this.res fun E v hv=>fin _ (a / b+1) (b + -(a % b)) (by omega) (by omega) (by simpa using h2.1) (by have:=h2.2;simp only [if_true];omega) (.inl rfl) E v _ rfl hv
   | false=>
    have:=lZ ok9 (ov_7 false nb a b) (by
     simp only [haa,hbb,hcmp,hvla,hd0]
     exact(by(repeat' (first | exact AllC.nil | refine AllC.cons ?_ ?_));all_goals (first | exact CU.h {} | (simp [h1]<;>omega) | assumption | rfl)))
    simp only [hvla,hd0] at this
    refine this.res fun E v hv=>fin _ (a / b) (a % b) hQ0 (by omega) (by simp) (by simp) (.inl rfl) E v _ rfl hv
  ·have hpb:=zbJ (show b≠0 by omega)
   have hpl:zpA a b:=⟨by omega,hfa,hfb,by omega⟩
   cases na with
   | true=>
    by_cases hr:a % b=0
    ·have hrz:(digs (a % b).natAbs).length=0:=by rw [hr];rfl
     have:=lZ ok9 (ov_11 true nb a b) (by
      simp only [haa,hbb,hcmp]
      exact(by(repeat' (first | exact AllC.nil | refine AllC.cons ?_ ?_));all_goals (first | exact CU.h {} | (simp [h1]<;>omega) | assumption | rfl)))
     simp only [haa,hbb] at this
     have h2:=neg0 hr
     refine this.res fun E v hv=>fin _ (a / b) (a % b) hQ0 (by omega) (by simpa using h2.1) (by rw [hr];simpa using h2.2) (.inl rfl) E v _ hrn hv
    ·have hrp:=zbJ hr
     have:=lZ ok9 (ov_9 true nb a b) (by
      simp only [haa,hbb,hcmp]
      exact(by(repeat' (first | exact AllC.nil | refine AllC.cons ?_ ?_));all_goals (first | exact CU.h {} | (simp [h1]<;>omega) | assumption | rfl)))
     simp only [haa,hbb] at this
     have h2:=neg1 (by omega)
     refine this.res fun E v hv=>fin _ (a / b+1) (b + -(a % b)) (by omega) (by omega) (by simpa using h2.1) (by have:=h2.2;simp only [if_true];omega) (.inl rfl) E v _ rfl hv
   | false=>
    have:=lZ ok9 (ov_13 false nb a b) (by
     simp only [haa,hbb,hcmp]
     exact(by(repeat' (first | exact AllC.nil | refine AllC.cons ?_ ?_));all_goals (first | exact CU.h {} | (simp [h1]<;>omega) | assumption | rfl)))
    simp only [haa,hbb] at this
    refine this.res fun E v hv=>fin _ (a / b) (a % b) hQ0 (by omega) (by simp) (by simp) (.inl rfl) E v _ hrn hv
end Go.Proofs.YtagbldogmjhdpaaGreatDoor
end
section
open Go Go.Ev
namespace Go.Proofs.YtagbldogmjhdpaaGreatDoor
open Go.Proofs
abbrev GC (a b:Int):St:=⟨sp 20 [(2,.ref 0 0),(3,.ref 1 0),(4,.ref 2 0)],[.flat [.lit (.bool (decide (a<0))),.wd a] true,.flat [.lit (.bool (decide (b<0))),.wd b] true,.flat [.lit (.bool false),.lit (.slice none 0 0)] true],[0,1]⟩
def zfL (a b:Int):Prop:=b≠0∧zag a∧zag b
instance tstOver {a b:Int}:Tst (zfL a b):=inferInstanceAs (Tst (b≠0∧zag a∧zag b))
theorem hpos (x:Int) (h:decide (x<0)=true):0<(x.natAbs:Int):=by
 have:x<0:=by simpa using h
 omega
theorem over_fc (x y:Int) (h:zfL x y):FC tP 124 [W x,W y] (.tup [W (x / y),W (x % y)]):=by
 obtain ⟨hy,hx,hfy⟩:=h
 have:=over_nn (decide (x<0)) (decide (y<0)) (x.natAbs:Int) (y.natAbs:Int) (by omega) (by omega) (fun h=>hpos x h) (zcr hx (by simp)) (zcr hfy (by simp))
 have e1:(if decide (x<0)=true then -(x.natAbs:Int) else(x.natAbs:Int))=x:=by
  by_cases h:x<0
  ·rw [if_pos (by simpa using h)];omega
  ·rw [if_neg (by simpa using h)];omega
 have e2:(if decide (y<0)=true then -(y.natAbs:Int) else(y.natAbs:Int))=y:=by
  by_cases h:y<0
  ·rw [if_pos (by simpa using h)];omega
  ·rw [if_neg (by simpa using h)];omega
 rw [e1,e2] at this
 exact this.arg2 (fun E v h=>h.agg2 (fun _ h=>h) (fun _ h=>Rd.natAbs (by simp) h)) (fun E v h=>h.agg2 (fun _ h=>h) (fun _ h=>Rd.natAbs (by simp) h))
theorem cmpW_fc (a b:Int) (h:pDD a b):FC tP 121 [W a,W b] (lI (a-b).sign):=by
 have hb:pDD a (-b):=⟨h.1,zcr h.2 (by omega)⟩
 have:=lZ ok9 (cmpW_0 a b) (by(repeat' (first | exact AllC.nil | refine AllC.cons ?_ ?_));all_goals (first | exact viaL_ok | exact CU.h {} | (simp []<;>omega) | assumption | rfl))
 rw [show a + -b=a-b by omega] at this
 exact this
def zoU:Ctr:=(124,c2 zfL (fun a b=>.tup [W (a / b),W (a % b)])) :: (121,c2 pDD (fun a b=>lI (a-b).sign)) :: zrU
theorem zkJ:∀p∈zoU,jZ tP p.1 p.2:=CAll.cons (c2_ok over_fc)<|CAll.cons (c2_ok cmpW_fc) znv
theorem ok10:(eZ tP zoU bw).OK:=JZ zkJ
end Go.Proofs.YtagbldogmjhdpaaGreatDoor
end
section
open Go Go.Ev Go.RowKit
namespace Go.Proofs.YtagbldogmjhdpaaGreatDoor
open Go.Proofs
set_option maxRecDepth 100000
set_option maxHeartbeats 1000000
set_option linter.unusedVariables false
set_option linter.unusedSimpArgs false
noncomputable section
theorem gcL_0 (a b:Int):RndI (eZ tP zoU bw) 60 (kZ tP 158 0) 3 [] [2,3,4] [0,1] (GC a b) [1] [] [0,0,1,0,0,2] (Ex.normal) (⟨sp 20 [(2,.ref 0 0),(3,.ref 1 0),(4,.ref 2 0)],[.flat [aD b,.wd b] true,.flat [.lit (.bool (decide (a % b<0))),.wd (a % b)] true,.flat [aF,aN] true],[0,1]⟩) [(b.sign != 0)=true,zfL a b]:={}
theorem gcL_1 (a b:Int):RndI (eZ tP zoU bw) 60 (kZ tP 158 0) 3 [] [2,3,4] [0,1] (GC a b) [0] [] [0,0,1] (Ex.exit 0) (⟨sp 20 [(2,.ref 0 0),(3,.ref 1 0),(4,.ref 2 0)],[.flat [aD a,.wd a] true,.flat [aD b,.wd b] true,.flat [aF,aN] true],[0,1]⟩) [(b.sign != 0)=false]:={}
theorem gcf_0 (a b g:Int):FunI (eZ tP zoU bw) 60 158 [W a,W b] [] [some (zdZ tP (kZ tP 158 0) [] [2,3,4] [0,1] (GC a b) (.exit 0,GC g 0))] [0,1] (.agg [.ff,.wd g]) [Loops 3 tP (kZ tP 158 0) ⟨sp 20 [(2,.ref 0 0),(3,.ref 1 0),(4,.ref 2 0)],[.flat [aD a,.wd a] true,.flat [aD b,.wd b] true,.flat [aF,aN] true],[0,1]⟩ (Ex.exit 0,⟨sp 20 [(2,.ref 0 0),(3,.ref 1 0),(4,.ref 2 0)],[.flat [aD g,.wd g] true,.flat [aF,.wd 0] true,.flat [aF,aN] true],[0,1]⟩)]:={}
end
theorem znL (a b:Int):Int.gcd b (a % b)=Int.gcd a b:=by
 have h:=Int.mul_ediv_add_emod a b
 refine Nat.dvd_antisymm (Int.dvd_gcd ?_ ?_) (Int.dvd_gcd ?_ ?_)
 ·have h1:=Int.gcd_dvd_left b (a % b)
  have h2:=Int.gcd_dvd_right b (a % b)
  have h3:=Int.dvd_add (Int.dvd_mul_of_dvd_left (c:=a / b) h1) h2
  rwa [h] at h3
 ·exact Int.gcd_dvd_left b (a % b)
 ·exact Int.gcd_dvd_right a b
 ·have h1:=Int.gcd_dvd_left a b
  have h2:=Int.gcd_dvd_right a b
  have h3:=Int.dvd_sub h1 (Int.dvd_mul_of_dvd_left (c:=a / b) h2)
  have e:a-b*(a / b)=a % b:=by omega
  rwa [e] at h3
theorem gcdL:∀(m:Nat) (a b:Int),b.natAbs≤m→zag a→zag b →
    ∃g:Int,g.natAbs=Int.gcd a b∧Loops 3 tP (kZ tP 158 0) (GC a b) (.exit 0,GC g 0):=by
  intro m
  induction m with
  | zero=>
    intro a b hb ha hfb
    obtain rfl:b=0:=by omega
    exact ⟨a,(Int.gcd_zero_right a).symm,Loops.fin (LS.of ok10 (gcL_1 a 0) (by(repeat' (first | exact AllC.nil | refine AllC.cons ?_ ?_));all_goals (first | exact CU.h {} | (simp []<;>omega) | assumption | rfl))) (by simp [Ex.toExit])⟩
  | succ m ih=>
    intro a b hb ha hfb
    by_cases h0:b=0
    · subst h0
      exact ⟨a,(Int.gcd_zero_right a).symm,Loops.fin (LS.of ok10 (gcL_1 a 0) (by(repeat' (first | exact AllC.nil | refine AllC.cons ?_ ?_));all_goals (first | exact CU.h {} | (simp []<;>omega) | assumption | rfl))) (by simp [Ex.toExit])⟩
    · have hs:(Int.sign b != 0)=true:=by
        rw [bne_iff_ne];intro h;exact h0 (Int.sign_eq_zero_iff_zero.1 h)
      have hp:zfL a b:=⟨h0,ha,hfb⟩
      have h:=LS.of ok10 (gcL_0 a b) (by(repeat' (first | exact AllC.nil | refine AllC.cons ?_ ?_));all_goals (first | exact CU.h {} | (simp []<;>omega) | assumption | rfl))
      have hr0:=Int.emod_nonneg a h0
      have hr1:a % b<b.natAbs:=Int.emod_lt a h0
      obtain ⟨g,h1,h2⟩:=ih b (a % b) (by omega) hfb (zcr hfb (by omega))
      exact ⟨g,by rw [h1,znL],Loops.go h h2⟩
theorem common_fc (a b:Int) (h:pDD a b):FC tP 158 [W a,W b] (W (Int.gcd a b:Int)):=by
 obtain ⟨g,h1,h2⟩:=gcdL b.natAbs a b (Nat.le_refl _) h.1 h.2
 have:=lZ ok10 (gcf_0 a b g) (.cons h2 .nil)
 exact this.res fun E v hv=>hv.toW (b:=false) (l:=digs g.natAbs) rfl rfl (by simp) (by rw [h1];simp)
def zaL:Ctr:=(158,c2 pDD (fun a b=>W (Int.gcd a b:Int))) :: zoU
theorem zes:∀p∈zaL,jZ tP p.1 p.2:=CAll.cons (c2_ok common_fc) zkJ
theorem zhv:(eZ tP zaL bw).OK:=JZ zes
noncomputable section
theorem sa0_0 (a b:Int):FunI (eZ tP zaL bw) 60 146 [.sl (uZ .W []) 0,W a,W b] [] [] [1,0,0,0] (aI 0) [cZ 1]:={}
theorem sa1_0 (c a b:Int):FunI (eZ tP zaL bw) 60 146 [.sl (uZ .W [c]) 1,W a,W b] [] [] [1,0,0,0,2,0,0,3,0,0,4,0,0,5,0,0] (aI (0*a+c*1).sign) [cZ 1,pDD 0 a,pDD c 1,pDD (0*a) (c*1),pDD 1 b]:={}
theorem sa2_0 (c d a b:Int):FunI (eZ tP zaL bw) 60 146 [.sl (uZ .W [c,d]) 2,W a,W b] [] [] [1,0,0,0,2,0,0,3,0,0,4,0,0,5,0,0,6,0,0,7,0,0,8,0,0,9,0,0] (aI ((0*a+d*1)*a+c*(1*b)).sign) [cZ 1,pDD 0 a,pDD d 1,pDD (0*a) (d*1),pDD 1 b,pDD (0*a+d*1) a,pDD c (1*b),pDD ((0*a+d*1)*a) (c*(1*b)),pDD (1*b) b]:={}
theorem sa3_0 (c d e a b:Int):FunI (eZ tP zaL bw) 60 146 [.sl (uZ .W [c,d,e]) 3,W a,W b] [] [] [1,0,0,0,2,0,0,3,0,0,4,0,0,5,0,0,6,0,0,7,0,0,8,0,0,9,0,0,10,0,0,11,0,0,12,0,0,13,0,0] (aI (((0*a+e*1)*a+d*(1*b))*a+c*(1*b*b)).sign) [cZ 1,pDD 0 a,pDD e 1,pDD (0*a) (e*1),pDD 1 b,pDD (0*a+e*1) a,pDD d (1*b),pDD ((0*a+e*1)*a) (d*(1*b)),pDD (1*b) b,pDD ((0*a+e*1)*a+d*(1*b)) a,pDD c (1*b*b),pDD (((0*a+e*1)*a+d*(1*b))*a) (c*(1*b*b)),pDD (1*b*b) b]:={}
theorem sa4_0 (c d e f a b:Int):FunI (eZ tP zaL bw) 60 146 [.sl (uZ .W [c,d,e,f]) 4,W a,W b] [] [] [1,0,0,0,2,0,0,3,0,0,4,0,0,5,0,0,6,0,0,7,0,0,8,0,0,9,0,0,10,0,0,11,0,0,12,0,0,13,0,0,14,0,0,15,0,0,16,0,0,17,0,0] (aI ((((0*a+f*1)*a+e*(1*b))*a+d*(1*b*b))*a+c*(1*b*b*b)).sign) [cZ 1,pDD 0 a,pDD f 1,pDD (0*a) (f*1),pDD 1 b,pDD (0*a+f*1) a,pDD e (1*b),pDD ((0*a+f*1)*a) (e*(1*b)),pDD (1*b) b,pDD ((0*a+f*1)*a+e*(1*b)) a,pDD d (1*b*b),pDD (((0*a+f*1)*a+e*(1*b))*a) (d*(1*b*b)),pDD (1*b*b) b,pDD (((0*a+f*1)*a+e*(1*b))*a+d*(1*b*b)) a,pDD c (1*b*b*b),pDD ((((0*a+f*1)*a+e*(1*b))*a+d*(1*b*b))*a) (c*(1*b*b*b)),pDD (1*b*b*b) b]:={}
theorem sa5_0 (c d e f g a b:Int):FunI (eZ tP zaL bw) 60 146 [.sl (uZ .W [c,d,e,f,g]) 5,W a,W b] [] [] [1,0,0,0,2,0,0,3,0,0,4,0,0,5,0,0,6,0,0,7,0,0,8,0,0,9,0,0,10,0,0,11,0,0,12,0,0,13,0,0,14,0,0,15,0,0,16,0,0,17,0,0,18,0,0,19,0,0,20,0,0,21,0,0] (aI (((((0*a+g*1)*a+f*(1*b))*a+e*(1*b*b))*a+d*(1*b*b*b))*a+c*(1*b*b*b*b)).sign) [cZ 1,pDD 0 a,pDD g 1,pDD (0*a) (g*1),pDD 1 b,pDD (0*a+g*1) a,pDD f (1*b),pDD ((0*a+g*1)*a) (f*(1*b)),pDD (1*b) b,pDD ((0*a+g*1)*a+f*(1*b)) a,pDD e (1*b*b),pDD (((0*a+g*1)*a+f*(1*b))*a) (e*(1*b*b)),pDD (1*b*b) b,pDD (((0*a+g*1)*a+f*(1*b))*a+e*(1*b*b)) a,pDD d (1*b*b*b),pDD ((((0*a+g*1)*a+f*(1*b))*a+e*(1*b*b))*a) (d*(1*b*b*b)),pDD (1*b*b*b) b,pDD ((((0*a+g*1)*a+f*(1*b))*a+e*(1*b*b))*a+d*(1*b*b*b)) a,pDD c (1*b*b*b*b),pDD (((((0*a+g*1)*a+f*(1*b))*a+e*(1*b*b))*a+d*(1*b*b*b))*a) (c*(1*b*b*b*b)),pDD (1*b*b*b*b) b]:={}
end
theorem mZ {x y:Int} {j k:Nat} [hx:SzC x j] [hy:SzC y k] (hj:j≤1048576) (hk:k≤1048576):pDD x y:=⟨zdx hj,zdx hk⟩
def zlV (a b:Int):List Int→Int × Int
 | []=>(0,1)
 | c :: l=>((zlV a b l).1*a+c*(zlV a b l).2,(zlV a b l).2*b)
def zaf (l:List Int) (a b:Int):Int:=(zlV a b l).1
def zcw (l:List Int) (a b:Int):Prop:=Nat.ble l.length 5=true∧SzL 20000 l∧Sz 20000 a∧Sz 20000 b
instance tstPoly {l:List Int} {a b:Int}:Tst (zcw l a b):=inferInstanceAs (Tst (_∧SzL 20000 l∧Sz 20000 a∧Sz 20000 b))
theorem zh4 (l:List Int) (a b:Int) (h:zcw l a b):FC tP 146 [.zl .W l,W a,W b] (lI (zaf l a b).sign):=by
 obtain ⟨hl,hz,ha,hb⟩:=h
 have ia:SzC a 20000:=⟨ha⟩
 have ib:SzC b 20000:=⟨hb⟩
 match l,hl,hz with
 | [],_,_=>
  exact(lZ zhv (sa0_0  a b) (by(repeat' (first | exact AllC.nil | refine AllC.cons ?_ ?_));all_goals (first | (with_reducible rfl) | exact mZ (by decide) (by decide) | trivial | exact ⟨by decide,by decide⟩))).le (.cons (Le.zl_sl .W []) (LeL.refl _)) (Le.refl _)
 | [c0],_,⟨h0,_⟩=>
  have i0:SzC c0 20000:=⟨h0⟩
  exact(lZ zhv (sa1_0 c0 a b) (by(repeat' (first | exact AllC.nil | refine AllC.cons ?_ ?_));all_goals (first | (with_reducible rfl) | exact mZ (by decide) (by decide) | trivial | exact ⟨by decide,by decide⟩))).le (.cons (Le.zl_sl .W [c0]) (LeL.refl _)) (Le.refl _)
 | [c0,c1],_,⟨h0,h1,_⟩=>
  have i0:SzC c0 20000:=⟨h0⟩
  have i1:SzC c1 20000:=⟨h1⟩
  exact(lZ zhv (sa2_0 c0 c1 a b) (by(repeat' (first | exact AllC.nil | refine AllC.cons ?_ ?_));all_goals (first | (with_reducible rfl) | exact mZ (by decide) (by decide) | trivial | exact ⟨by decide,by decide⟩))).le (.cons (Le.zl_sl .W [c0,c1]) (LeL.refl _)) (Le.refl _)
 | [c0,c1,c2],_,⟨h0,h1,h2,_⟩=>
  have i0:SzC c0 20000:=⟨h0⟩
  have i1:SzC c1 20000:=⟨h1⟩
  have i2:SzC c2 20000:=⟨h2⟩
  exact(lZ zhv (sa3_0 c0 c1 c2 a b) (by(repeat' (first | exact AllC.nil | refine AllC.cons ?_ ?_));all_goals (first | (with_reducible rfl) | exact mZ (by decide) (by decide) | trivial | exact ⟨by decide,by decide⟩))).le (.cons (Le.zl_sl .W [c0,c1,c2]) (LeL.refl _)) (Le.refl _)
 | [c0,c1,c2,c3],_,⟨h0,h1,h2,h3,_⟩=>
  have i0:SzC c0 20000:=⟨h0⟩
  have i1:SzC c1 20000:=⟨h1⟩
  have i2:SzC c2 20000:=⟨h2⟩
  have i3:SzC c3 20000:=⟨h3⟩
  exact(lZ zhv (sa4_0 c0 c1 c2 c3 a b) (by(repeat' (first | exact AllC.nil | refine AllC.cons ?_ ?_));all_goals (first | (with_reducible rfl) | exact mZ (by decide) (by decide) | trivial | exact ⟨by decide,by decide⟩))).le (.cons (Le.zl_sl .W [c0,c1,c2,c3]) (LeL.refl _)) (Le.refl _)
 | [c0,c1,c2,c3,c4],_,⟨h0,h1,h2,h3,h4,_⟩=>
  have i0:SzC c0 20000:=⟨h0⟩
  have i1:SzC c1 20000:=⟨h1⟩
  have i2:SzC c2 20000:=⟨h2⟩
  have i3:SzC c3 20000:=⟨h3⟩
  have i4:SzC c4 20000:=⟨h4⟩
  exact(lZ zhv (sa5_0 c0 c1 c2 c3 c4 a b) (by(repeat' (first | exact AllC.nil | refine AllC.cons ?_ ?_));all_goals (first | (with_reducible rfl) | exact mZ (by decide) (by decide) | trivial | exact ⟨by decide,by decide⟩))).le (.cons (Le.zl_sl .W [c0,c1,c2,c3,c4]) (LeL.refl _)) (Le.refl _)
 | _ :: _ :: _ :: _ :: _ :: _ :: _,hl,_=>simp [Nat.ble_eq] at hl
def ctr12:Ctr:=(146,cPWW zcw (fun l a b=>lI (zaf l a b).sign)) :: zaL
theorem zg2:∀p∈ctr12,jZ tP p.1 p.2:=CAll.cons (cPWW_ok zh4) zes
theorem ok12:(eZ tP ctr12 bw).OK:=JZ zg2
noncomputable section
theorem lw_0 (a b c e d:Int):FunI (eZ tP ctr12 bw) 60 122 [nuA a b c e d] [1,1,1,1,0,1,1,1,1,0] [] [0,0,0,0,0,1,0,0,0,0,0,0,2,0,0,0,0,0,0,3,0,0,0,0,0,0,4,0,0,0,0,0,0,0,5,0,0,0,0,0,0,0,0,6,0,0,0,0,0,0,0,0,7,0,0,0,0,0,0,0,0,8,0,0,0,0,0,0,9] (.agg [.lit (.bool (decide (a / (↑(Int.gcd (↑(Int.gcd (↑(Int.gcd (↑(Int.gcd d a):Int) b):Int) c):Int) e):Int)<0))),.wd (a / (↑(Int.gcd (↑(Int.gcd (↑(Int.gcd (↑(Int.gcd d a):Int) b):Int) c):Int) e):Int)),.lit (.bool (decide (b / (↑(Int.gcd (↑(Int.gcd (↑(Int.gcd (↑(Int.gcd d a):Int) b):Int) c):Int) e):Int)<0))),.wd (b / (↑(Int.gcd (↑(Int.gcd (↑(Int.gcd (↑(Int.gcd d a):Int) b):Int) c):Int) e):Int)),.lit (.bool (decide (c / (↑(Int.gcd (↑(Int.gcd (↑(Int.gcd (↑(Int.gcd d a):Int) b):Int) c):Int) e):Int)<0))),.wd (c / (↑(Int.gcd (↑(Int.gcd (↑(Int.gcd (↑(Int.gcd d a):Int) b):Int) c):Int) e):Int)),.lit (.bool (decide (e / (↑(Int.gcd (↑(Int.gcd (↑(Int.gcd (↑(Int.gcd d a):Int) b):Int) c):Int) e):Int)<0))),.wd (e / (↑(Int.gcd (↑(Int.gcd (↑(Int.gcd (↑(Int.gcd d a):Int) b):Int) c):Int) e):Int)),.lit (.bool (decide (d / (↑(Int.gcd (↑(Int.gcd (↑(Int.gcd (↑(Int.gcd d a):Int) b):Int) c):Int) e):Int)<0))),.wd (d / (↑(Int.gcd (↑(Int.gcd (↑(Int.gcd (↑(Int.gcd d a):Int) b):Int) c):Int) e):Int))]) [pDD d a,pDD (↑(Int.gcd d a):Int) b,pDD (↑(Int.gcd (↑(Int.gcd d a):Int) b):Int) c,pDD (↑(Int.gcd (↑(Int.gcd (↑(Int.gcd d a):Int) b):Int) c):Int) e,zfL a (↑(Int.gcd (↑(Int.gcd (↑(Int.gcd (↑(Int.gcd d a):Int) b):Int) c):Int) e):Int),zfL b (↑(Int.gcd (↑(Int.gcd (↑(Int.gcd (↑(Int.gcd d a):Int) b):Int) c):Int) e):Int),zfL c (↑(Int.gcd (↑(Int.gcd (↑(Int.gcd (↑(Int.gcd d a):Int) b):Int) c):Int) e):Int),zfL e (↑(Int.gcd (↑(Int.gcd (↑(Int.gcd (↑(Int.gcd d a):Int) b):Int) c):Int) e):Int),zfL d (↑(Int.gcd (↑(Int.gcd (↑(Int.gcd (↑(Int.gcd d a):Int) b):Int) c):Int) e):Int)]:={}
end
def gc5 (a b c e d:Int):Int:=(Int.gcd (Int.gcd (Int.gcd (Int.gcd d a:Int) b:Int) c:Int) e:Int)
theorem zru {k:Nat} {x y:Int} (hx:Sz k x) (h0:x≠0):Sz k (Int.gcd x y:Int):=by
 refine hx.le ?_
 have h1:Int.gcd x y∣x.natAbs:=Int.natAbs_dvd_natAbs.2 (Int.gcd_dvd_left x y)
 exact Nat.le_of_dvd (by omega) h1
theorem zi3 {x y:Int} (h0:x≠0):(Int.gcd x y:Int)≠0:=by
 intro h
 have h1:=Int.gcd_dvd_left x y
 rw [h] at h1
 exact h0 (Int.zero_dvd.1 h1)
def pNu (a b c e d:Int):Prop:=d≠0∧Sz 50000 a∧Sz 50000 b∧Sz 50000 c∧Sz 50000 e∧Sz 50000 d
instance tstNu {a b c e d:Int}:Tst (pNu a b c e d):=inferInstanceAs (Tst (d≠0∧Sz 50000 a∧Sz 50000 b∧Sz 50000 c∧Sz 50000 e∧Sz 50000 d))
def loA (a b c e d:Int):AV:=nuA (a / gc5 a b c e d) (b / gc5 a b c e d) (c / gc5 a b c e d) (e / gc5 a b c e d) (d / gc5 a b c e d)
theorem pDD_of {x y:Int} (h:zag x) (k:zag y):pDD x y:=⟨h,k⟩
theorem pOver_of {x y:Int} (h0:y≠0) (h:zag x) (k:zag y):zfL x y:=⟨h0,h,k⟩
theorem zll (a b c e d:Int) (h:pNu a b c e d):FC tP 122 [nuA a b c e d] (loA a b c e d):=by
 obtain ⟨h0,ha,hb,hc,he,hd⟩:=h
 have n1:=zi3 (y:=a) h0
 have n2:=zi3 (y:=b) n1
 have n3:=zi3 (y:=c) n2
 have n4:=zi3 (y:=e) n3
 have s1:=zru (y:=a) hd h0
 have s2:=zru (y:=b) s1 n1
 have s3:=zru (y:=c) s2 n2
 have s4:=zru (y:=e) s3 n3
 have f:∀ {z:Int},Sz 50000 z→zag z:=fun h=>rZ h (by decide)
 exact lZ ok12 (lw_0 a b c e d) (by(repeat' (first | exact AllC.nil | refine AllC.cons ?_ ?_));all_goals (first | (with_reducible rfl) | (with_reducible exact pDD_of (f (by assumption)) (f (by assumption))) | (with_reducible exact pOver_of n4 (f (by assumption)) (f (by assumption))) | rfl | trivial))
def cNu (p:Int→Int→Int→Int→Int→Prop) [∀a b c e d,Tst (p a b c e d)] (r:Int→Int→Int→Int→Int→AV) (args:List AV):M AV:=match args with
 | [x]=>do
  let q ← zrS x
  match q with
  | (a,b,c,e,d)=>do
   tellD (p a b c e d) (Tst.b (p a b c e d))
   gives (r a b c e d)
 | _=>fail 260
theorem cNu_ok {P:Program} {f:FuncId} {p:Int→Int→Int→Int→Int→Prop} [∀a b c e d,Tst (p a b c e d)] {r:Int→Int→Int→Int→Int→AV} (h:∀a b c e d,p a b c e d→FC P f [nuA a b c e d] (r a b c e d)):jZ P f (cNu p r):=by
 intro args _
 unfold cNu
 split
 ·exact Spec.bind (asNu_spec.mono fun q hq=>Spec.bind (Spec.tellD Tst.ok fun hp=>Spec.gives ((h _ _ _ _ _ hp).le (.cons hq .nil) (Le.refl _))))
 ·exact Spec.fail
def ctrL:Ctr:=(122,cNu pNu loA) :: ctr12
theorem znA:∀p∈ctrL,jZ tP p.1 p.2:=CAll.cons (cNu_ok zll) zg2
theorem okL:(eZ tP ctrL bw).OK:=JZ znA
end Go.Proofs.YtagbldogmjhdpaaGreatDoor
end
section
namespace Go.Kf
set_option linter.unusedVariables false
class CR (R:Type) where
 add:R→R→R
 mul:R→R→R
 neg:R→R
 zero:R
 one:R
 add_assoc:∀a b c,add (add a b) c=add a (add b c)
 add_comm:∀a b,add a b=add b a
 zero_add:∀a,add zero a=a
 neg_add:∀a,add (neg a) a=zero
 mul_assoc:∀a b c,mul (mul a b) c=mul a (mul b c)
 mul_comm:∀a b,mul a b=mul b a
 one_mul:∀a,mul one a=a
 mul_add:∀a b c,mul a (add b c)=add (mul a b) (mul a c)
namespace CR
variable {R:Type} [CR R]
theorem add_zero (a:R):add a zero=a:=by rw [add_comm,zero_add]
theorem add_neg (a:R):add a (neg a)=zero:=by rw [add_comm,neg_add]
theorem add_mul (a b c:R):mul (add a b) c=add (mul a c) (mul b c):=by rw [mul_comm,mul_add,mul_comm c a,mul_comm c b]
theorem ziM {a b c:R} (h:add a b=add a c):b=c:=by
 have:=congrArg (add (neg a)) h
 rwa [← add_assoc,← add_assoc,neg_add,zero_add,zero_add] at this
theorem mul_zero (a:R):mul a zero=zero:=by
 refine ziM (a:=mul a zero) ?_
 rw [← mul_add,zero_add,add_zero]
theorem zero_mul (a:R):mul zero a=zero:=by rw [mul_comm,mul_zero]
theorem mul_one (a:R):mul a one=a:=by rw [mul_comm,one_mul]
theorem zfI {a b:R} (h:add a b=zero):b=neg a:=by
 refine ziM (a:=a) ?_
 rw [h,add_neg]
theorem mul_neg (a b:R):mul a (neg b)=neg (mul a b):=zfI (by rw [← mul_add,add_neg,mul_zero])
theorem neg_neg (a:R):neg (neg a)=a:=(zfI (neg_add a)).symm
theorem neg_zero:neg (zero:R)=zero:=(zfI (add_zero zero)).symm
end CR
section
variable {R:Type} [CR R]
end
section
variable {R:Type} [CR R]
open CR
variable (e:Nat→R)
end
end Go.Kf
end
section
namespace Go.Kf
set_option linter.unusedVariables false
set_option linter.unusedSimpArgs false
abbrev V:=Nat→Rat
namespace V
def add (x y:V):V:=fun i=>x i+y i
def sm (r:Rat) (x:V):V:=fun i=>r*x i
def zero:V:=fun _=>0
def e0:V:=fun i=>if i=0 then 1 else 0
end V
open V
def Sup (n:Nat) (x:V):Prop:=∀i,n≤i→x i=0
def T (n:Nat) (p:V) (x:V):V:=fun i=>if i<n then(if i=0 then 0 else x (i-1))-x (n-1)*p i else 0
section
variable {n:Nat} {p:V}
theorem sup_T (x:V):Sup n (T n p x):=fun i h=>if_neg (by omega)
theorem zm8 {x y:V} (hx:Sup n x) (hy:Sup n y):Sup n (add x y):=fun i h=>by
 show x i+y i=0
 rw [hx i h,hy i h];exact Rat.add_zero 0
theorem zdm {r:Rat} {x:V} (hx:Sup n x):Sup n (sm r x):=fun i h=>by
 show r*x i=0
 rw [hx i h];exact Rat.mul_zero r
theorem zow:Sup n zero:=fun _ _=>rfl
theorem zcQ (h:1≤n):Sup n e0:=fun i hi=>if_neg (by omega)
theorem zkB (x y:V):T n p (add x y)=add (T n p x) (T n p y):=by
 funext i
 simp only [T,add]
 grind
theorem T_sm (r:Rat) (x:V):T n p (sm r x)=sm r (T n p x):=by
 funext i
 simp only [T,sm]
 grind
theorem T_zero:T n p zero=zero:=by
 funext i
 simp only [T,zero]
 grind
end
section
variable (n:Nat) (p:V)
def zaa:List Rat→V→V
 | [],_=>zero
 | c :: l,y=>add (sm c y) (T n p (zaa l y))
def crd (x:V):List Rat:=(List.range n).map x
def mul (x y:V):V:=zaa n p (crd n x) y
end
theorem zgR (x y:V):add x y=add y x:=funext fun i=>Rat.add_comm _ _
theorem zal (x y z:V):add (add x y) z=add x (add y z):=funext fun i=>Rat.add_assoc _ _ _
theorem LZ (x:V):add zero x=x:=funext fun i=>Rat.zero_add _
theorem za1 (x:V):add x zero=x:=funext fun i=>Rat.add_zero _
theorem zh5 (r:Rat) (x y:V):sm r (add x y)=add (sm r x) (sm r y):=funext fun i=>Rat.mul_add _ _ _
theorem zb3 (r s:Rat) (x:V):sm r (sm s x)=sm (r*s) x:=funext fun i=>(Rat.mul_assoc _ _ _).symm
theorem zb4 (r:Rat):sm r zero=zero:=funext fun i=>Rat.mul_zero _
theorem zak (x:V):sm 0 x=zero:=funext fun i=>Rat.zero_mul _
theorem zf8 (x:V):sm 1 x=x:=funext fun i=>Rat.one_mul _
theorem zgS (r s:Rat) (x:V):sm (r+s) x=add (sm r x) (sm s x):=funext fun i=>Rat.add_mul _ _ _
theorem sm_comm (r s:Rat) (x:V):sm r (sm s x)=sm s (sm r x):=by rw [zb3,zb3,Rat.mul_comm]
theorem add4 (a b c d:V):add (add a b) (add c d)=add (add a c) (add b d):=by
 rw [zal,← zal b,zgR b c,zal c,← zal]
section
variable {n:Nat} {p:V}
theorem znP (l:List Rat) (x y:V):zaa n p l (add x y)=add (zaa n p l x) (zaa n p l y):=by
 induction l with
 | nil=>exact(LZ _).symm
 | cons c l ih=>show add (sm c (add x y)) (T n p (zaa n p l (add x y)))=_;rw [ih,zkB,zh5,add4];rfl
theorem zjT (l:List Rat) (r:Rat) (x:V):zaa n p l (sm r x)=sm r (zaa n p l x):=by
 induction l with
 | nil=>exact(zb4 _).symm
 | cons c l ih=>show add (sm c (sm r x)) (T n p (zaa n p l (sm r x)))=_;rw [ih,T_sm,sm_comm,← zh5];rfl
theorem mulL_T (l:List Rat) (x:V):zaa n p l (T n p x)=T n p (zaa n p l x):=by
 induction l with
 | nil=>exact T_zero.symm
 | cons c l ih=>show add (sm c (T n p x)) (T n p (zaa n p l (T n p x)))=T n p (add (sm c x) (T n p (zaa n p l x)));rw [ih,zkB,T_sm]
theorem zlr (l m:List Rat) (x:V):zaa n p l (zaa n p m x)=zaa n p m (zaa n p l x):=by
 induction l with
 | nil=>
  show zero=zaa n p m zero
  have:=zjT (n:=n) (p:=p) m 0 zero
  rw [zak,zak] at this
  exact this.symm
 | cons c l ih=>
  show add (sm c (zaa n p m x)) (T n p (zaa n p l (zaa n p m x)))=zaa n p m (add (sm c x) (T n p (zaa n p l x)))
  rw [znP,zjT,mulL_T,ih]
theorem zov (l:List Rat) {x:V} (hx:Sup n x):Sup n (zaa n p l x):=by
 cases l with
 | nil=>exact zow
 | cons c l=>exact zm8 (zdm hx) (sup_T _)
def ei (k:Nat):V:=fun i=>if i=k then 1 else 0
theorem T_ei {k:Nat} (h:k+1<n):T n p (ei k)=ei (k+1):=by
 funext i
 have h1:ei k (n-1)=0:=if_neg (by omega)
 simp only [T,h1]
 by_cases hi:i<n
 ·rw [if_pos hi]
  by_cases h0:i=0
  ·rw [if_pos h0]
   have:ei (k+1) i=0:=if_neg (by omega)
   rw [this];grind
  ·rw [if_neg h0]
   by_cases hk:i=k+1
   ·have h2:ei k (i-1)=1:=if_pos (by omega)
    have h3:ei (k+1) i=1:=if_pos hk
    rw [h2,h3];grind
   ·have h2:ei k (i-1)=0:=if_neg (by omega)
    have h3:ei (k+1) i=0:=if_neg hk
    rw [h2,h3];grind
 ·rw [if_neg hi]
  have:ei (k+1) i=0:=if_neg (by omega)
  exact this.symm
def ofL:Nat→List Rat→V
 | _,[]=>zero
 | k,c :: l=>add (sm c (ei k)) (ofL (k+1) l)
theorem zmQ:∀(l:List Rat) (k:Nat),k+l.length≤n→zaa n p l (ei k)=ofL k l
 | [],_,_=>rfl
 | [c],k,_=>by show add (sm c (ei k)) (T n p zero)=add (sm c (ei k)) zero;rw [T_zero]
 | c :: d :: l,k,h=>by
  simp only [List.length_cons] at h
  show add (sm c (ei k)) (T n p (zaa n p (d :: l) (ei k)))=add (sm c (ei k)) (ofL (k+1) (d :: l))
  rw [← mulL_T,T_ei (by omega),zmQ (d :: l) (k+1) (by simp;omega)]
theorem zmS:∀(l:List Rat) (k i:Nat),ofL k l i=if k≤i then l.getD (i-k) 0 else 0
 | [],k,i=>by simp [ofL,zero]
 | c :: l,k,i=>by
  show c*ei k i+ofL (k+1) l i=_
  rw [zmS l (k+1) i]
  by_cases h:i=k
  ·subst h
   rw [show ei i i=1 from if_pos rfl,if_neg (by omega),if_pos (by omega)]
   simp;grind
  ·rw [show ei k i=0 from if_neg h]
   grind
theorem e0_ei:e0=ei 0:=rfl
theorem ziT (x:V):(crd n x).length=n:=by simp [crd]
theorem zms (x:V) (i:Nat) (h:i<n):(crd n x).getD i 0=x i:=by
 simp [crd,List.getD_eq_getElem?_getD,List.getElem?_map,List.getElem?_range h]
theorem zjR {x:V} (hx:Sup n x):zaa n p (crd n x) e0=x:=by
 rw [e0_ei,zmQ _ 0 (by rw [ziT];omega)]
 funext i
 rw [zmS,if_pos (Nat.zero_le _)]
 by_cases h:i<n
 ·exact zms x i h
 ·rw [hx i (by omega)]
  simp [List.getD_eq_getElem?_getD,crd]
  simp_all
def ev (n:Nat) (p:V) (l:List Rat):V:=zaa n p l e0
theorem zfo (h:1≤n) (l:List Rat):Sup n (ev n p l):=zov l (zcQ h)
theorem zjS {y:V} (hy:Sup n y) (l:List Rat):zaa n p l y=zaa n p (crd n y) (ev n p l):=by
 show _=zaa n p (crd n y) (zaa n p l e0)
 rw [zlr,zjR hy]
theorem zpe {y:V} (hy:Sup n y) {l m:List Rat} (h:ev n p l=ev n p m):zaa n p l y=zaa n p m y:=by
 rw [zjS hy,zjS hy,h]
theorem ev_crd {x:V} (hx:Sup n x):ev n p (crd n x)=x:=zjR hx
theorem zhq (h1:1≤n) {y:V} (hy:Sup n y) (l:List Rat):zaa n p l y=mul n p (ev n p l) y:=
 zpe hy (by rw [ev_crd (zfo h1 l)])
theorem RZ {x y:V} (hx:Sup n x) (hy:Sup n y):mul n p x y=mul n p y x:=by
 show zaa n p (crd n x) y=zaa n p (crd n y) x
 rw [zjS hy,ev_crd hx]
theorem mul_add' (x y z:V):mul n p x (add y z)=add (mul n p x y) (mul n p x z):=znP _ _ _
theorem zi6 (r:Rat) (x y:V):mul n p x (sm r y)=sm r (mul n p x y):=zjT _ _ _
theorem mul_T (x y:V):mul n p x (T n p y)=T n p (mul n p x y):=mulL_T _ _
theorem mul_left' (x y z:V):mul n p x (mul n p y z)=mul n p y (mul n p x z):=zlr _ _ _
theorem zh9 {x y:V} (hy:Sup n y):Sup n (mul n p x y):=zov _ hy
theorem zi5 {x y z:V} (hx:Sup n x) (hy:Sup n y) (hz:Sup n z):mul n p (mul n p x y) z=mul n p x (mul n p y z):=by
 rw [RZ (zh9 hy) hz,RZ hy hz,mul_left']
theorem ziX (h:1≤n) {x:V} (hx:Sup n x):mul n p e0 x=x:=by
 rw [RZ (zcQ h) hx];exact zjR hx
end
class Fact' (q:Prop):Prop where
 ok:q
def F (n:Nat) (_p:V):Type:={ x:V // Sup n x }
instance instF {n:Nat} {p:V} [h:Fact' (1≤n)]:CR (F n p) where
 add x y:=⟨add x.1 y.1,zm8 x.2 y.2⟩
 mul x y:=⟨mul n p x.1 y.1,zh9 y.2⟩
 neg x:=⟨sm (-1) x.1,zdm x.2⟩
 zero:=⟨zero,zow⟩
 one:=⟨e0,zcQ h.ok⟩
 add_assoc _ _ _:=Subtype.ext (zal _ _ _)
 add_comm _ _:=Subtype.ext (zgR _ _)
 zero_add _:=Subtype.ext (LZ _)
 neg_add x:=Subtype.ext (by
  show add (sm (-1) x.1) x.1=zero
  conv=>lhs;arg 2;rw [← zf8 x.1]
  rw [← zgS,show(-1+1:Rat)=0 by grind]
  exact zak _)
 mul_assoc x y z:=Subtype.ext (zi5 x.2 y.2 z.2)
 mul_comm x y:=Subtype.ext (RZ x.2 y.2)
 one_mul x:=Subtype.ext (ziX h.ok x.2)
 mul_add _ _ _:=Subtype.ext (mul_add' _ _ _)
end Go.Kf
end
section
namespace Go.Kf
set_option linter.unusedVariables false
set_option linter.unusedSimpArgs false
def gL (g:Nat):List Int→Nat
 | []=>g
 | x :: l=>gL (Int.gcd g x) l
theorem gL_dvd:∀(l:List Int) (g:Nat),gL g l∣g∧∀x∈l,(gL g l:Int)∣x
 | [],g=>⟨Nat.dvd_refl g,fun _ h=>by cases h⟩
 | x :: l,g=>by
  obtain ⟨h1,h2⟩:=gL_dvd l (Int.gcd g x)
  have a:Int.gcd (g:Int) x∣g:=by have:=Int.gcd_dvd_natAbs_left (g:Int) x;simpa using this
  have b:((Int.gcd (g:Int) x:Nat):Int)∣x:=Int.gcd_dvd_right ..
  refine ⟨Nat.dvd_trans h1 a,fun y hy=>?_⟩
  rcases List.mem_cons.1 hy with rfl | hy
  ·exact Int.dvd_trans (Int.natCast_dvd_natCast.2 h1) b
  ·exact h2 y hy
theorem dvd_gL:∀(l:List Int) (g k:Nat),k∣g→(∀x∈l,(k:Int)∣x)→k∣gL g l
 | [],g,k,h,_=>h
 | x :: l,g,k,h,hl=>dvd_gL l _ k (Int.dvd_gcd (Int.natCast_dvd_natCast.2 h) (hl x (by simp))) fun y hy=>hl y (by simp [hy])
theorem gL_pos {g:Nat} (h:0<g) (l:List Int):0<gL g l:=Nat.pos_of_dvd_of_pos (gL_dvd l g).1 h
def dvs (c:List Int) (d:Int):Int:=if d<0 then -(gL d.natAbs c:Int) else(gL d.natAbs c:Int)
def loC (c:List Int) (d:Int) (i:Nat):Int:=c.getD i 0 / dvs c d
def loD (c:List Int) (d:Int):Int:=d / dvs c d
theorem zhe {c:List Int} {d:Int} (h:d≠0):dvs c d≠0:=by
 have:=gL_pos (g:=d.natAbs) (by omega) c
 unfold dvs;split<;>omega
theorem zea (c:List Int) (d:Int):dvs c d∣d∧∀i,dvs c d∣c.getD i 0:=by
 obtain ⟨h1,h2⟩:=gL_dvd c d.natAbs
 have h1':(gL d.natAbs c:Int)∣d:=Int.dvd_natAbs.1 (Int.natCast_dvd_natCast.2 h1)
 have h2':∀i,(gL d.natAbs c:Int)∣c.getD i 0:=fun i=>by
  by_cases h:i<c.length
  ·simp_all
  simp_all
 unfold dvs
 split
 ·simp_all
 ·exact ⟨h1',h2'⟩
theorem zhm {c : List Int} {d:Int} (h:d≠0):0<loD c d:=by
 obtain ⟨k,hk⟩:=(zea c d).1
 have h0:=zhe (c:=c) h
 have : loD c d = k := by unfold loD;conv=>lhs;arg 1;rw [hk]
                          exact Int.mul_ediv_cancel_left k h0
 rw [this]
 have hp:=gL_pos (g:=d.natAbs) (by omega) c
 unfold dvs at hk
 split at hk
 ·rename_i hd
  rcases Int.lt_trichotomy k 0 with h1 | h1 | h1
  ·exfalso
   have:0 < -(gL d.natAbs c:Int)*k:=Int.mul_pos_of_neg_of_neg (by omega) h1
   omega
  ·subst h1;simp at hk;omega
  ·exact h1
 ·rename_i hd
  rcases Int.lt_trichotomy k 0 with h1 | h1 | h1
  ·exfalso
   have:(gL d.natAbs c:Int)*k<0:=Int.mul_neg_of_pos_of_neg (by omega) h1
   omega
  ·subst h1;simp at hk;omega
  ·exact h1
theorem zbb (c:List Int) (d:Int):loD c d*dvs c d=d:=Int.ediv_mul_cancel (zea c d).1
theorem zba (c:List Int) (d:Int) (i:Nat):loC c d i*dvs c d=c.getD i 0:=Int.ediv_mul_cancel ((zea c d).2 i)
theorem znN {c:List Int} {d:Int} (h:d≠0) {k:Nat} (h1:(k:Int)∣loD c d) (h2:∀i,(k:Int)∣loC c d i):k=1:=by
 have hg:=gL_pos (g:=d.natAbs) (by omega) c
 have ha:(dvs c d).natAbs=gL d.natAbs c:=by unfold dvs;split<;>omega
 have hd:d.natAbs=k*gL d.natAbs c*(loD c d / k).natAbs:=by
  obtain ⟨m,hm⟩:=h1
  have hk:(k:Int)≠0:=fun hk=>by
   have:=zbb c d
   simp_all
  have e1:loD c d / k=m:=by simp_all
  have e2:=congrArg Int.natAbs (zbb c d)
  rw [Int.natAbs_mul,ha] at e2
  have e3:=congrArg Int.natAbs hm
  rw [Int.natAbs_mul,Int.natAbs_natCast] at e3
  grind
 have h3:k*gL d.natAbs c∣gL d.natAbs c:=by
  refine dvd_gL _ _ _ ⟨_,hd⟩ fun x hx=>?_
  obtain ⟨i,hi,rfl⟩:=List.getElem_of_mem hx
  obtain ⟨m,hm⟩:=h2 i
  have:=zba c d i
  rw [hm,List.getD_eq_getElem?_getD,List.getElem?_eq_getElem hi] at this
  simp only [Option.getD_some] at this
  have e4:((k*gL d.natAbs c:Nat):Int)∣(k:Int)*m*dvs c d:=by
   rw [← ha,Int.natCast_mul]
   rcases Int.natAbs_eq (dvs c d) with e | e
   ·rw [← e];exact ⟨m,by grind⟩
   ·exact ⟨-m,by grind⟩
  rw [this] at e4
  exact e4
 have h4:=Nat.le_of_dvd hg h3
 rcases Nat.lt_or_ge k 2 with h5 | h5
 ·grind
 ·have:2*gL d.natAbs c≤k*gL d.natAbs c:=Nat.mul_le_mul_right _ h5
  omega
theorem lo_eq {c c':List Int} {d d':Int} (h:d≠0) (h':d'≠0) (hc:∀i,c.getD i 0*d'=c'.getD i 0*d):loD c d=loD c' d'∧∀i,loC c d i=loC c' d' i:=by
 have g0:=zhe (c:=c) h
 have g0':=zhe (c:=c') h'
 have e:∀i,loC c d i*loD c' d'=loC c' d' i*loD c d:=fun i=>by
  have:=hc i
  rw [← zba c d i,← zba c' d' i,← zbb c d,← zbb c' d'] at this
  rw [zbb,zbb,zba,zba] at *
  have h2:(loC c d i*loD c' d'-loC c' d' i*loD c d)*(dvs c d*dvs c' d')=0:=by
   have a1:=zba c d i;have a2:=zba c' d' i;have a3:=zbb c d;have a4:=zbb c' d'
   grind
  rcases Int.mul_eq_zero.1 h2 with h3 | h3
  ·omega
  ·rcases Int.mul_eq_zero.1 h3 with h4 | h4<;>contradiction
 have p:=zhm (c:=c) h
 have p':=zhm (c:=c') h'
 have key:∀ {c c':List Int} {d d':Int},d≠0→0<loD c d→0<loD c' d'→(∀i,loC c d i*loD c' d'=loC c' d' i*loD c d)→loD c d∣loD c' d':=by
  intro c c' d d' h p p' e
  have hg:Int.gcd (loD c d) (loD c' d')≠0:=by
   intro h0;simp_all
  obtain ⟨a,ha⟩:=Int.gcd_dvd_left (loD c d) (loD c' d')
  obtain ⟨b,hb⟩:=Int.gcd_dvd_right (loD c d) (loD c' d')
  have cop:Int.gcd a b=1:=by
   have:=Int.gcd_mul_left (Int.gcd (loD c d) (loD c' d'):Int) a b
   rw [← ha,← hb] at this
   simp at this
   have h1:Int.gcd (loD c d) (loD c' d')*Int.gcd a b=Int.gcd (loD c d) (loD c' d')*1:=by omega
   exact Nat.eq_of_mul_eq_mul_left (by omega) h1
  have hdiv:∀i,a∣loC c d i:=fun i=>by
   have:=e i
   rw [ha,hb] at this
   have h3:loC c d i*b=loC c' d' i*a:=by
    have:(loC c d i*b-loC c' d' i*a)*(Int.gcd (loD c d) (loD c' d'):Int)=0:=by grind
    rcases Int.mul_eq_zero.1 this with h4 | h4<;>omega
   have h4:a.natAbs∣(loC c d i).natAbs*b.natAbs:=by
    rw [← Int.natAbs_mul,h3,Int.natAbs_mul];exact Nat.dvd_mul_left ..
   exact Int.natAbs_dvd_natAbs.1 (Nat.Coprime.dvd_of_dvd_mul_right (show Nat.gcd a.natAbs b.natAbs=1 from cop) h4)
  have h1:a.natAbs=1:=znN (k:=a.natAbs) h (by rw [Int.natAbs_dvd];exact ⟨_,by rw [Int.mul_comm];exact ha⟩) fun i=>Int.natAbs_dvd.2 (hdiv i)
  have h2:(Int.gcd (loD c d) (loD c' d'):Int)=loD c d:=by
   grind
  exact ⟨b,by rw [← h2];exact hb⟩
 have d1:=key h p p' e
 have d2:=key h' p' p fun i=>(e i).symm
 have eD:loD c d=loD c' d':=Int.dvd_antisymm (by omega) (by omega) d1 d2
 refine ⟨eD,fun i=>?_⟩
 have:=e i
 rw [eD] at this
 exact Int.eq_of_mul_eq_mul_right (by omega) this
end Go.Kf
end
section
namespace Go.Kf
set_option linter.unusedVariables false
set_option linter.unusedSimpArgs false
open V
def qL (c:List Int):List Rat:=c.map fun z:Int=>(z:Rat)
def pV (p:List Int):V:=fun i=>((p.getD i 0:Int):Rat)
theorem qL_cons (x:Int) (l:List Int):qL (x :: l)=(x:Rat) :: qL l:=rfl
theorem zbA (l:List Int):(qL l).length=l.length:=by simp [qL]
theorem zbz (l:List Int) (i:Nat):(qL l).getD i 0=((l.getD i 0:Int):Rat):=by
 simp only [qL,List.getD_eq_getElem?_getD,List.getElem?_map]
 cases l[i]? <;> simp
section
variable {n:Nat} {p:V}
theorem zdw {l:List Rat} (h:l.length≤n):ev n p l=fun i=>l.getD i 0:=by
 unfold ev
 rw [e0_ei,zmQ l 0 (by omega)]
 funext i
 rw [zmS,if_pos (Nat.zero_le _)];rfl
def Tn (n:Nat) (p:V):Nat→V→V
 | 0,x=>x
 | k+1,x=>T n p (Tn n p k x)
theorem Tn_add (k:Nat) (x y:V):Tn n p k (add x y)=add (Tn n p k x) (Tn n p k y):=by
 induction k with
 | zero=>rfl
 | succ k ih=>show T n p (Tn n p k (add x y))=_;rw [ih,zkB];rfl
theorem Tn_sm (k:Nat) (r:Rat) (x:V):Tn n p k (sm r x)=sm r (Tn n p k x):=by
 induction k with
 | zero=>rfl
 | succ k ih=>show T n p (Tn n p k (sm r x))=_;rw [ih,T_sm];rfl
theorem Tn_Tn (j k:Nat) (x:V):Tn n p j (Tn n p k x)=Tn n p (j+k) x:=by
 induction j with
 | zero=>rw [Nat.zero_add];rfl
 | succ j ih=>show T n p (Tn n p j (Tn n p k x))=_;rw [ih,Nat.succ_add];rfl
theorem Tn_ei:∀(k:Nat),k<n→Tn n p k e0=ei k
 | 0,_=>rfl
 | k+1,h=>by show T n p (Tn n p k e0)=_;rw [Tn_ei k (by omega),T_ei h]
theorem ev_snoc (l:List Rat) (t:Rat):ev n p (l++[t])=add (ev n p l) (sm t (Tn n p l.length e0)):=by
 unfold ev
 induction l with
 | nil=>show add (sm t e0) (T n p zero)=add zero (sm t e0);rw [T_zero,za1,LZ]
 | cons x l ih=>
  show add (sm x e0) (T n p (zaa n p (l++[t]) e0))=add (add (sm x e0) (T n p (zaa n p l e0))) (sm t (T n p (Tn n p l.length e0)))
  rw [ih,zkB,T_sm,zal]
end
def zipS:List Int→Int→List Int→List Int
 | _,_,[]=>[]
 | [],_,x :: l=>x :: l
 | q :: p,t,x :: l=>(x + -(t*q)) :: zipS p t l
def red1 (p:List Int) (t:Int):Nat→List Int→List Int
 | 0,l=>zipS p t l
 | _+1,[]=>[]
 | k+1,x :: l=>x :: red1 p t k l
theorem ziu:∀(p:List Int) (t:Int) (l:List Int),(zipS p t l).length=l.length
 | _,_,[]=>by unfold zipS;rfl
 | [],_,x :: l=>rfl
 | q :: p,t,x :: l=>by simp [zipS,ziu p t l]
theorem zhJ (p:List Int) (t:Int):∀(k:Nat) (l:List Int),(red1 p t k l).length=l.length
 | 0,l=>ziu p t l
 | _+1,[]=>rfl
 | k+1,x :: l=>by simp [red1,zhJ p t k l]
theorem zrm (t q:Int):((-(t*q):Int):Rat) = -(t:Rat)*(q:Rat):=by
 grind
section
variable {n:Nat} {p:V}
theorem ev_zipS:∀(q:List Int) (t:Int) (l:List Int),l.length=q.length→ev n p (qL (zipS q t l))=add (ev n p (qL l)) (sm (-(t:Rat)) (ev n p (qL q)))
 | [],t,[],_=>by show zero=add zero (sm _ zero);rw [zb4,za1]
 | [],_,_ :: _,h=>by simp at h
 | _ :: _,_,[],h=>by simp at h
 | q :: qs,t,x :: l,h=>by
  have ih:=ev_zipS qs t l (by simpa using h)
  unfold ev at *
  show add (sm ((x + -(t*q):Int):Rat) e0) (T n p (zaa n p (qL (zipS qs t l)) e0))=add (add (sm (x:Rat) e0) (T n p (zaa n p (qL l) e0))) (sm (-(t:Rat)) (add (sm (q:Rat) e0) (T n p (zaa n p (qL qs) e0))))
  rw [ih,zkB,T_sm,zh5,zb3,add4,Rat.intCast_add,zrm,zgS]
theorem ev_red1:∀(q:List Int) (t:Int) (k:Nat) (l:List Int),l.length=k+q.length→ev n p (qL (red1 q t k l))=add (ev n p (qL l)) (sm (-(t:Rat)) (Tn n p k (ev n p (qL q))))
 | q,t,0,l,h=>ev_zipS q t l (by omega)
 | q,t,k+1,[],h=>by simp at h;omega
 | q,t,k+1,x :: l,h=>by
  have ih:=ev_red1 q t k l (by simp at h;omega)
  unfold ev at *
  show add (sm (x:Rat) e0) (T n p (zaa n p (qL (red1 q t k l)) e0))=add (add (sm (x:Rat) e0) (T n p (zaa n p (qL l) e0))) (sm (-(t:Rat)) (T n p (Tn n p k (zaa n p (qL q) e0))))
  rw [ih,zkB,T_sm,zal]
end
theorem Tn_top {q:List Int} (h:1≤q.length):Tn q.length (pV q) q.length e0=sm (-1) (ev q.length (pV q) (qL q)):=by
 obtain ⟨m,hm⟩:∃m,q.length=m+1:=⟨q.length-1,by omega⟩
 rw [zdw (by rw [zbA];exact Nat.le_refl _)]
 conv=>lhs;rw [hm]
 show T (m+1) (pV q) (Tn (m+1) (pV q) m e0)=_
 rw [Tn_ei m (by omega)]
 funext i
 have h1:ei m (m+1-1)=1:=if_pos rfl
 show(if i<m+1 then(if i=0 then 0 else ei m (i-1))-ei m (m+1-1)*pV q i else 0) = -1*(qL q).getD i 0
 rw [h1,zbz]
 by_cases hi:i<m+1
 ·rw [if_pos hi]
  have h2:(if i=0 then(0:Rat) else ei m (i-1))=0:=by
   split
   ·rfl
   ·exact if_neg (by omega)
  rw [h2];unfold pV;grind
 ·rw [if_neg hi,List.getD_eq_getElem?_getD,List.getElem?_eq_none (by omega)]
  simp
theorem ev_step {q:List Int} (hq:1≤q.length) {k:Nat} {c:List Int} (hc:c.length=q.length+k+1):ev q.length (pV q) (qL (red1 q (c.getLastD 0) k c.dropLast))=ev q.length (pV q) (qL c):=by
 have hne:c≠[]:=by grind
 have e1:c=c.dropLast++[c.getLastD 0]:=by
  rw [List.getLastD_eq_getLast?,List.getLast?_eq_some_getLast hne];exact(List.dropLast_concat_getLast hne).symm
 have hl:c.dropLast.length=k+q.length:=by grind
 rw [ev_red1 _ _ _ _ hl]
 conv=>rhs;rw [e1]
 have e2:qL (c.dropLast++[c.getLastD 0])=qL c.dropLast++[((c.getLastD 0:Int):Rat)]:=by simp [qL]
 rw [e2,ev_snoc,zbA,hl,← Tn_Tn,Tn_top hq,Tn_sm,zb3]
 congr 2
 grind
def val (q:List Int) (c:List Int) (d:Int):V:=sm ((d:Rat)⁻¹) (ev q.length (pV q) (qL c))
theorem za8 {d:Int} (h:d≠0):(d:Rat)≠0:=fun e=>h (by exact_mod_cast e)
def zl8:List Int→List Int→List Int
 | [],y=>y
 | a :: x,[]=>a :: x
 | a :: x,b :: y=>(a+b) :: zl8 x y
def smZ (k:Int) (x:List Int):List Int:=x.map fun a=>k*a
def cvZ:List Int→List Int→List Int
 | [],_=>[]
 | a :: x,y=>zl8 (smZ a y) (0 :: cvZ x y)
section
variable {n:Nat} {p:V}
theorem zmF (c:Rat) (l:List Rat):ev n p (c :: l)=add (sm c e0) (T n p (ev n p l)):=rfl
theorem zmE:∀x y:List Int,ev n p (qL (zl8 x y))=add (ev n p (qL x)) (ev n p (qL y))
 | [],y=>(LZ _).symm
 | a :: x,[]=>(za1 _).symm
 | a :: x,b :: y=>by
  show add (sm ((a+b:Int):Rat) e0) (T n p (ev n p (qL (zl8 x y))))=add (add (sm (a:Rat) e0) (T n p (ev n p (qL x)))) (add (sm (b:Rat) e0) (T n p (ev n p (qL y))))
  rw [zmE x y,zkB,Rat.intCast_add,zgS,add4]
theorem zi2 (k:Int):∀x:List Int,ev n p (qL (smZ k x))=sm (k:Rat) (ev n p (qL x))
 | []=>(zb4 _).symm
 | a :: x=>by
  show add (sm ((k*a:Int):Rat) e0) (T n p (ev n p (qL (smZ k x))))=sm (k:Rat) (add (sm (a:Rat) e0) (T n p (ev n p (qL x))))
  rw [zi2 k x,zh5,zb3,T_sm,Rat.intCast_mul]
theorem ev_cvZ:∀x y:List Int,ev n p (qL (cvZ x y))=zaa n p (qL x) (ev n p (qL y))
 | [],y=>rfl
 | a :: x,y=>by
  show ev n p (qL (zl8 (smZ a y) (0 :: cvZ x y)))=add (sm (a:Rat) (ev n p (qL y))) (T n p (zaa n p (qL x) (ev n p (qL y))))
  rw [zmE,zi2,← ev_cvZ x y]
  congr 1
  show add (sm ((0:Int):Rat) e0) (T n p (ev n p (qL (cvZ x y))))=_
  rw [show((0:Int):Rat)=0 from rfl,zak,LZ]
theorem zgv:∀l:List Rat,(∀c∈l,c=0)→ev n p l=zero
 | [],_=>rfl
 | c :: l,h=>by
  rw [zmF,zgv l fun d hd=>h d (by simp [hd]),h c (by simp),zak,T_zero,LZ]
theorem zlb:∀(l m:List Rat),(∀c∈m,c=0)→ev n p (l++m)=ev n p l
 | [],m,h=>zgv m h
 | c :: l,m,h=>by
  show add (sm c e0) (T n p (ev n p (l++m)))=_
  rw [zlb l m h];rfl
theorem znH {l:List Rat} (h:∀i,n≤i→l.getD i 0=0):ev n p l=fun i=>l.getD i 0:=by
 have e:l=l.take n++l.drop n:=(List.take_append_drop n l).symm
 have hz:∀c∈l.drop n,c=0:=fun c hc=>by
  obtain ⟨i,hi,rfl⟩:=List.getElem_of_mem hc
  have:=h (n+i) (by omega)
  grind
 have e1:ev n p l=ev n p (l.take n):=by
  conv=>lhs;rw [e]
  exact zlb _ _ hz
 rw [e1,zdw (by rw [List.length_take];omega)]
 grind
end
theorem sm_mul {n:Nat} {p:V} (r:Rat) {x y:V} (hx:Sup n x) (hy:Sup n y):mul n p (sm r x) y=sm r (mul n p x y):=by
 rw [RZ (zdm hx) hy,zi6,RZ hy hx]
def zmg (q c:List Int):Prop:=∀i,q.length≤i→c.getD i 0=0
theorem zm6 {q c:List Int} (h:c.length≤q.length):zmg q c:=fun i hi=>by
 grind
section
variable {q:List Int}
abbrev vAdd (x y:V):V:=V.add x y
theorem val_add {c c':List Int} {d d':Int} (hd:d≠0) (hd':d'≠0):val q (zl8 (smZ d' c) (smZ d c')) (d*d')=add (val q c d) (val q c' d'):=by
 unfold val
 rw [zmE,zi2,zi2,zh5,zb3,zb3,Rat.intCast_mul]
 have a:=za8 hd
 have b:=za8 hd'
 congr 2<;>grind
theorem val_mul (hq:1≤q.length) {c c':List Int} {d d':Int} (hd:d≠0) (hd':d'≠0):val q (cvZ c c') (d*d')=mul q.length (pV q) (val q c d) (val q c' d'):=by
 unfold val
 have s1:=zfo (p:=pV q) hq (qL c)
 have s2:=zfo (p:=pV q) hq (qL c')
 rw [ev_cvZ,zhq hq s2,zi6,sm_mul _ s1 s2,zb3,Rat.intCast_mul]
 grind
theorem val_neg {c:List Int} {d:Int}:val q (smZ (-1) c) d=sm (-1) (val q c d):=by
 unfold val
 rw [zi2,sm_comm];rfl
theorem val_scale {c:List Int} {d k:Int} (hd:d≠0) (hk:k≠0):val q (smZ k c) (k*d)=val q c d:=by
 unfold val
 rw [zi2,zb3,Rat.intCast_mul]
 have a:=za8 hd
 have b:=za8 hk
 congr 1;grind
theorem zks (hq:1≤q.length) (c:List Int) (d:Int):Sup q.length (val q c d):=zdm (zfo hq _)
theorem val_inj2 {c c':List Int} {d d':Int} (hd:d≠0) (hd':d'≠0) (hc:zmg q c) (hc':zmg q c') (h:val q c d=val q c' d') (i:Nat):c.getD i 0*d'=c'.getD i 0*d:=by
 have h1:=congrFun h i
 unfold val at h1
 rw [znH (n:=q.length) (l:=qL c) (fun i hi=>by rw [zbz,hc i hi];rfl),znH (n:=q.length) (l:=qL c') (fun i hi=>by rw [zbz,hc' i hi];rfl)] at h1
 have h2:(d:Rat)⁻¹*((c.getD i 0:Int):Rat)=(d':Rat)⁻¹*((c'.getD i 0:Int):Rat):=by
  have:=h1
  simp only [sm] at this
  rwa [zbz,zbz] at this
 have a:=za8 hd
 have b:=za8 hd'
 have h3:((c.getD i 0:Int):Rat)*(d':Rat)=((c'.getD i 0:Int):Rat)*(d:Rat):=by grind
 exact_mod_cast h3
theorem lo_val2 {c c':List Int} {d d':Int} (hd:d≠0) (hd':d'≠0) (hc:zmg q c) (hc':zmg q c') (h:val q c d=val q c' d'):loD c d=loD c' d'∧∀i,loC c d i=loC c' d' i:=
 lo_eq hd hd' (val_inj2 hd hd' hc hc' h)
def WZ:List Int→List Int
 | []=>[]
 | x :: l=>match WZ l with
  | []=>if x=0 then [] else [x]
  | y :: m=>x :: y :: m
theorem zam:∀(l:List Int) (i:Nat),(WZ l).getD i 0=l.getD i 0
 | [],i=>rfl
 | x :: l,i=>by
  have ih:=zam l
  unfold WZ
  split
  ·rename_i h
   rw [h] at ih
   split
   ·rename_i hx
    subst hx
    cases i with
    | zero=>rfl
    | succ i=>simpa using ih i
   ·cases i with
    | zero=>rfl
    | succ i=>simpa using ih i
  ·rename_i y m h
   rw [h] at ih
   cases i with
   | zero=>rfl
   | succ i=>simpa using ih i
theorem zcg:∀l:List Int,WZ l=[]∨(WZ l).getLastD 0≠0
 | []=>.inl rfl
 | x :: l=>by
  have ih:=zcg l
  unfold WZ
  grind
theorem zoC {a b:List Int} (ha:a=[]∨a.getLastD 0≠0) (hb:b=[]∨b.getLastD 0≠0) (h:∀i,a.getD i 0=b.getD i 0):a=b:=by
 have key:∀ {a b:List Int},(a=[]∨a.getLastD 0≠0)→(∀i,a.getD i 0=b.getD i 0)→a.length≤b.length:=by
  intro a b ha h
  rcases ha with rfl | ha
  ·simp
  ·by_cases hl:a.length≤b.length
   ·exact hl
   ·exfalso
    apply ha
    have hne:a≠[]:=by grind
    have:=h (a.length-1)
    grind
 have l1:=key ha h
 have l2:=key hb fun i=>(h i).symm
 apply List.ext_getElem (by omega)
 intro i h1 h2
 have:=h i
 simp_all
end
end Go.Kf
end
