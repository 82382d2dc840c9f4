/- Part of a proof about a given program: see the last module of the claim. -/
import Derived.Test.YtagbldogmjhdpaaGreatDoorC
section
open Go Go.Ev Go.RowKit
namespace Go.Proofs.YtagbldogmjhdpaaGreatDoor
open Go.Proofs
set_option maxRecDepth 100000
set_option maxHeartbeats 1000000
set_option linter.unusedVariables false
set_option linter.unusedSimpArgs false
noncomputable section
theorem tiL_0 (e f:Bool) (a b i d c k:Int) (n:Nat) (l:List Int):RndI (eZ tP ctr5 bw) 60 (kZ tP 103 1) 4 [] [2,3,4,5,6,7,8,32,33,34,40,41,42] [3] (TN e f a b i d c k n l) [1] [] [1,2,1,3,4,5,6,7,8,9,10,4,0,0,11,5,6,7,12] (Ex.normal) (⟨sp 86 [(2,.ref 0 0),(3,.ref 1 0),(4,.ref 2 0),(5,.own 3 0 n 1),(6,aI i),(7,aI d),(8,aI (Int.tdiv (l.getD (0+(i+k).toNat*1) 0+d*(digs b.natAbs).getD k.toNat 0+c) 100000000)),(32,.wd a),(33,aI (↑((digs a.natAbs).length):Int)),(34,aI i),(40,.wd b),(41,aI (↑((digs b.natAbs).length):Int)),(42,aI (k+1))],[.flat [.lit (.bool e),.wd a] true,.flat [.lit (.bool f),.wd b] true,.flat [aF,aN] true,.ints (l.set (0+(i+k).toNat*1) (Int.tmod (l.getD (0+(i+k).toNat*1) 0+d*(digs b.natAbs).getD k.toNat 0+c) 100000000)) true],[3]⟩) [decide (k<(↑((digs b.natAbs).length):Int))=true,decide (0≤k)=true,decide (k.toNat<(digs b.natAbs).length)=true,inR .i64 (i+k)=true,decide (0≤i+k)=true,decide (i+k<(n:Int))=true,decide (0+(i+k).toNat*1<l.length)=true,inR .i64 (d*(digs b.natAbs).getD k.toNat 0)=true,inR .i64 (l.getD (0+(i+k).toNat*1) 0+d*(digs b.natAbs).getD k.toNat 0)=true,inR .i64 (l.getD (0+(i+k).toNat*1) 0+d*(digs b.natAbs).getD k.toNat 0+c)=true,inR .i64 (Int.tdiv (l.getD (0+(i+k).toNat*1) 0+d*(digs b.natAbs).getD k.toNat 0+c) 100000000)=true,inR .i64 (k+1)=true]:={}
theorem tiL_1 (e f:Bool) (a b i d c k:Int) (n:Nat) (l:List Int):RndI (eZ tP ctr5 bw) 60 (kZ tP 103 1) 4 [] [2,3,4,5,6,7,8,32,33,34,40,41,42] [3] (TN e f a b i d c k n l) [0] [] [1] (Ex.exit 2) (⟨sp 86 [(2,.ref 0 0),(3,.ref 1 0),(4,.ref 2 0),(5,.own 3 0 n 1),(6,aI i),(7,aI d),(8,aI c),(32,.wd a),(33,aI (↑((digs a.natAbs).length):Int)),(34,aI i),(40,.wd b),(41,aI (↑((digs b.natAbs).length):Int)),(42,aI k)],[.flat [.lit (.bool e),.wd a] true,.flat [.lit (.bool f),.wd b] true,.flat [aF,aN] true,.ints l true],[3]⟩) [decide (k<(↑((digs b.natAbs).length):Int))=false]:={}
theorem toL_0 (d e:Bool) (a b i c k:Int) (n:Nat) (l f:List Int):RndI (eZ tP ctr5 bw) 60 (kZ tP 103 0) 4 [] [2,3,4,5,32,33,34] [3] (TO d e a b i n l) [1] [some (zdZ tP (kZ tP 103 1) [] [2,3,4,5,6,7,8,32,33,34,40,41,42] [3] (TN d e a b i ((digs a.natAbs).getD i.toNat 0) 0 0 n l) (.exit 2,TN d e a b i ((digs a.natAbs).getD i.toNat 0) c k n f))] [1,2,1,3,0,4,5,6,7,8,9] (Ex.normal) (⟨sp 86 [(2,.ref 0 0),(3,.ref 1 0),(4,.ref 2 0),(5,.own 3 0 n 1),(32,.wd a),(33,aI (↑((digs a.natAbs).length):Int)),(34,aI (i+1))],[.flat [.lit (.bool d),.wd a] true,.flat [.lit (.bool e),.wd b] true,.flat [aF,aN] true,.ints (f.set (0+(i+(↑((digs b.natAbs).length):Int)).toNat*1) c) true],[3]⟩) [decide (i<(↑((digs a.natAbs).length):Int))=true,decide (0≤i)=true,decide (i.toNat<(digs a.natAbs).length)=true,Loops 4 tP (kZ tP 103 1) ⟨sp 86 [(2,.ref 0 0),(3,.ref 1 0),(4,.ref 2 0),(5,.own 3 0 n 1),(6,aI i),(7,aI ((digs a.natAbs).getD i.toNat 0)),(8,aI 0),(32,.wd a),(33,aI (↑((digs a.natAbs).length):Int)),(34,aI i),(40,.wd b),(41,aI (↑((digs b.natAbs).length):Int)),(42,aI 0)],[.flat [.lit (.bool d),.wd a] true,.flat [.lit (.bool e),.wd b] true,.flat [aF,aN] true,.ints l true],[3]⟩ (Ex.exit 2,⟨sp 86 [(2,.ref 0 0),(3,.ref 1 0),(4,.ref 2 0),(5,.own 3 0 n 1),(6,aI i),(7,aI ((digs a.natAbs).getD i.toNat 0)),(8,aI c),(32,.wd a),(33,aI (↑((digs a.natAbs).length):Int)),(34,aI i),(40,.wd b),(41,aI (↑((digs b.natAbs).length):Int)),(42,aI k)],[.flat [.lit (.bool d),.wd a] true,.flat [.lit (.bool e),.wd b] true,.flat [aF,aN] true,.ints f true],[3]⟩),inR .i64 (i+(↑((digs b.natAbs).length):Int))=true,decide (0≤i+(↑((digs b.natAbs).length):Int))=true,decide (i+(↑((digs b.natAbs).length):Int)<(n:Int))=true,decide (0+(i+(↑((digs b.natAbs).length):Int)).toNat*1<f.length)=true,inR .i64 (i+1)=true]:={}
theorem toE_0 (c d:Bool) (a b i:Int) (n:Nat) (l:List Int):RndI (eZ tP ctr5 bw) 60 (kZ tP 103 0) 4 [] [2,3,4,5,32,33,34] [3] (TO c d a b i n l) [0] [] [1] (Ex.exit 0) (⟨sp 86 [(2,.ref 0 0),(3,.ref 1 0),(4,.ref 2 0),(5,.own 3 0 n 1),(32,.wd a),(33,aI (↑((digs a.natAbs).length):Int)),(34,aI i)],[.flat [.lit (.bool c),.wd a] true,.flat [.lit (.bool d),.wd b] true,.flat [aF,aN] true,.ints l true],[3]⟩) [decide (i<(↑((digs a.natAbs).length):Int))=false]:={}
abbrev zoy (c d:Bool) (a b:Int) (n:Nat):St:=⟨sp 86 [(2,.ref 0 0),(3,.ref 1 0),(4,.ref 2 0),(5,.own 3 0 n 1),(32,.wd a),(33,aI (↑((digs a.natAbs).length):Int)),(34,aI 0)],[.flat [.lit (.bool c),.wd a] true,.flat [.lit (.bool d),.wd b] true,.flat [aF,aN] true,.ints (List.replicate n 0) true],[3]⟩
theorem tim_2 (c d:Bool) (a b i:Int) (n:Nat) (l:List Int):FunI (eZ tP ctr5 bw) 60 103 [.agg [.lit (.bool c),.wd a],.agg [.lit (.bool d),.wd b]] [0,0] [some (zdZ tP (kZ tP 103 0) [] [2,3,4,5,32,33,34] [3] (TO c d a b 0 n (List.replicate n 0)) (.exit 0,TO c d a b i n l))] [1,2,3,4,5,6,7,8,9,10,11] (.agg [.lit (.bool (!(c==d))),.sq (trm (l.take n))]) [((↑((digs a.natAbs).length):Int)==0)=false,((↑((digs b.natAbs).length):Int)==0)=false,inR .i64 ((↑((digs a.natAbs).length):Int)+(↑((digs b.natAbs).length):Int))=true,decide (0≤(↑((digs a.natAbs).length):Int)+(↑((digs b.natAbs).length):Int))=true,decide ((↑((digs a.natAbs).length):Int)+(↑((digs b.natAbs).length):Int)≤(↑((digs a.natAbs).length):Int)+(↑((digs b.natAbs).length):Int))=true,decide (8*((↑((digs a.natAbs).length):Int)+(↑((digs b.natAbs).length):Int))≤281474976710656)=true,decide ((↑((digs a.natAbs).length):Int)+(↑((digs b.natAbs).length):Int)≤9223372036854775807)=true,(⟨sp 86 [(2,.ref 0 0),(3,.ref 1 0),(4,.ref 2 0),(5,.own 3 0 ((↑((digs a.natAbs).length):Int)+(↑((digs b.natAbs).length):Int)).toNat 1),(32,.wd a),(33,aI (↑((digs a.natAbs).length):Int)),(34,aI 0)],[.flat [.lit (.bool c),.wd a] true,.flat [.lit (.bool d),.wd b] true,.flat [aF,aN] true,.ints (List.replicate ((↑((digs a.natAbs).length):Int)+(↑((digs b.natAbs).length):Int)).toNat 0) true],[3]⟩:St)=(zoy c d a b n),Loops 4 tP (kZ tP 103 0) (zoy c d a b n) (Ex.exit 0,⟨sp 86 [(2,.ref 0 0),(3,.ref 1 0),(4,.ref 2 0),(5,.own 3 0 n 1),(32,.wd a),(33,aI (↑((digs a.natAbs).length):Int)),(34,aI i)],[.flat [.lit (.bool c),.wd a] true,.flat [.lit (.bool d),.wd b] true,.flat [aF,aN] true,.ints l true],[3]⟩),n≤l.length,MZ (l.take n)]:={}
theorem timZ_0 (c d:Bool) (a b:Int):FunI (eZ tP ctr5 bw) 60 103 [.agg [.lit (.bool c),.wd a],.agg [.lit (.bool d),.wd b]] [1] [] [1] (.agg [aF,aN]) [((↑((digs a.natAbs).length):Int)==0)=true]:={}
theorem timZ_1 (c d:Bool) (a b:Int):FunI (eZ tP ctr5 bw) 60 103 [.agg [.lit (.bool c),.wd a],.agg [.lit (.bool d),.wd b]] [0,1] [] [1,2] (.agg [aF,aN]) [((↑((digs a.natAbs).length):Int)==0)=false,((↑((digs b.natAbs).length):Int)==0)=true]:={}
end
theorem zgj:∀(l:List Int) (j:Nat) (v:Int),j<l.length→vl (l.set j v)=vl l+100000000 ^ j*(v-l.getD j 0)
 | [],j,v,h=>by simp at h
 | d :: l,0,v,h=>by simp [vl];omega
 | d :: l,j+1,v,h=>by
  have:=zgj l j v (by simpa using h)
  simp only [List.set_cons_succ,vl,this,List.getD_cons_succ,Int.pow_succ]
  rw [Int.mul_add,← Int.mul_assoc,Int.mul_comm 100000000 (100000000 ^ j)]
  omega
theorem IZ (l:List Int) (i j:Nat) (v:Int) (h:i≠j):(l.set j v).getD i 0=l.getD i 0:=by
 simp [List.getD,List.getElem?_set_ne (Ne.symm h)]
theorem zem {l:List Int} (h:Digs l) (j:Nat) {v:Int} (h0:0≤v) (h1:v<100000000):Digs (l.set j v):=by
 intro d hd
 rcases List.mem_or_eq_of_mem_set hd with hd | rfl
 ·exact h d hd
 ·exact ⟨h0,h1⟩
theorem mul_dig {d y:Int} (h0:0≤d) (h1:d<100000000) (h2:0≤y) (h3:y<100000000):0≤d*y∧d*y≤9999999800000001:=by
 refine ⟨Int.mul_nonneg h0 h2,?_⟩
 have:=Int.mul_le_mul (show d≤99999999 by omega) (show y≤99999999 by omega) h2 (by decide)
 omega
theorem timesI (na nb:Bool) (a b d:Int) (hd0:0≤d) (hd1:d<100000000) (i n:Nat) (hn:n≤2097152) (hin:i+(digs b.natAbs).length<n):∀(r k:Nat) (l:List Int) (c:Int),k+r=(digs b.natAbs).length→Digs l→0≤c→c<100000000→l.length=n →
 ∃(l2:List Int) (c2:Int),Digs l2∧l2.length=n∧0≤c2∧c2<100000000∧vl l2+100000000 ^ (i+(digs b.natAbs).length)*c2=vl l+100000000 ^ (i+k)*(c+d*vl ((digs b.natAbs).drop k)) ∧
  (∀j,i+(digs b.natAbs).length≤j→l2.getD j 0=l.getD j 0) ∧
  Loops 4 tP (kZ tP 103 1) (TN na nb a b i d c k n l) (.exit 2,TN na nb a b i d c2 ((digs b.natAbs).length:Int) n l2)
 | 0,k,l,c,hk,hl,hc0,hc1,hln=>by
  obtain rfl:k=(digs b.natAbs).length:=by omega
  refine ⟨l,c,hl,hln,hc0,hc1,?_,fun _ _=>rfl,Loops.fin (LS.of ok5 (tiL_1 na nb a b i d c ((digs b.natAbs).length:Int) n l) (by(repeat' (first | exact AllC.nil | refine AllC.cons ?_ ?_));all_goals (first | exact CU.h {} | (simp []<;>omega) | assumption | rfl))) (by simp [Ex.toExit])⟩
  rw [List.drop_length];simp [vl]
 | r + 1,k,l,c,hk,hl,hc0,hc1,hln=>by
  have hnat:0+Int.toNat ((i:Int)+(k:Int))*1=i+k:=by omega
  have hkn:Int.toNat (k:Int)=k:=by omega
  have hkb:k<(digs b.natAbs).length:=by omega
  obtain ⟨hy0,hy1⟩:=GZ (oZ b.natAbs) k
  obtain ⟨hx0,hx1⟩:=GZ hl (i+k)
  obtain ⟨hm0,hm1⟩:=mul_dig hd0 hd1 hy0 hy1
  obtain ⟨t1,t2⟩:=tdm (t:=l.getD (i+k) 0+d*(digs b.natAbs).getD k 0+c) (by omega)
  have h:=LS.of ok5 (tiL_0 na nb a b i d c k n l) (by
   rw [hnat,hkn,t1]
   generalize d*(digs b.natAbs).getD k 0=m at *
   exact(by(repeat' (first | exact AllC.nil | refine AllC.cons ?_ ?_));all_goals (first | exact CU.h {} | (simp [hkb,hln]<;>omega) | assumption | rfl)))
  rw [hnat,hkn,t1,t2] at h
  have hv:=zgj l (i+k) ((l.getD (i+k) 0+d*(digs b.natAbs).getD k 0+c) % 100000000) (by omega)
  have hdr:=zan (digs b.natAbs) k
  have hD:Digs (l.set (i+k) ((l.getD (i+k) 0+d*(digs b.natAbs).getD k 0+c) % 100000000)):=zem hl _ (by omega) (by omega)
  obtain ⟨l2,c2,k1,k2,k3,k4,k5,k6,k7⟩:=timesI na nb a b d hd0 hd1 i n hn hin r (k+1) (l.set (i+k) ((l.getD (i+k) 0+d*(digs b.natAbs).getD k 0+c) % 100000000)) ((l.getD (i+k) 0+d*(digs b.natAbs).getD k 0+c) / 100000000)
   (by omega) hD (by omega) (by omega) (by simp;omega)
  have e:((k+1:Nat):Int)=(k:Int)+1:=by omega
  rw [e] at k7
  refine ⟨l2,c2,k1,k2,k3,k4,?_,fun j hj=>(k6 j hj).trans (IZ _ _ _ _ (by omega)),Loops.go h k7⟩
  rw [k5,hv,hdr,← Nat.add_assoc,Int.pow_succ]
  generalize hT:l.getD (i+k) 0+d*(digs b.natAbs).getD k 0+c=t
  have e2:c+d*((digs b.natAbs).getD k 0+100000000*vl ((digs b.natAbs).drop (k+1)))=(t % 100000000-l.getD (i+k) 0)+100000000*(t / 100000000+d*vl ((digs b.natAbs).drop (k+1))):=by
   rw [Int.mul_add d,Int.mul_left_comm d 100000000]
   generalize d*(digs b.natAbs).getD k 0=m at *
   omega
  rw [e2,alg1,Int.add_assoc]
theorem timesO (na nb:Bool) (a b:Int) (ha:zag a) (hb:zag b) (n:Nat) (hn:n=(digs a.natAbs).length+(digs b.natAbs).length) (hb0:0<(digs b.natAbs).length):∀(r i:Nat) (l:List Int),i+r=(digs a.natAbs).length→Digs l→l.length=n →
 (∀j,i+(digs b.natAbs).length≤j→l.getD j 0=0) →
 ∃l2:List Int,Digs l2∧l2.length=n∧vl l2=vl l+100000000 ^ i*(vl ((digs a.natAbs).drop i)*(b.natAbs:Int)) ∧
  Loops 4 tP (kZ tP 103 0) (TO na nb a b i n l) (.exit 0,TO na nb a b ((digs a.natAbs).length:Int) n l2)
 | 0,i,l,hi,hl,hln,hz=>by
  obtain rfl:i=(digs a.natAbs).length:=by omega
  refine ⟨l,hl,hln,?_,Loops.fin (LS.of ok5 (toE_0 na nb a b ((digs a.natAbs).length:Int) n l) (by(repeat' (first | exact AllC.nil | refine AllC.cons ?_ ?_));all_goals (first | exact CU.h {} | (simp []<;>omega) | assumption | rfl))) (by simp [Ex.toExit])⟩
  rw [List.drop_length];simp [vl]
 | r + 1,i,l,hi,hl,hln,hz=>by
  have ha':=ha
  have hb':=hb
  unfold zag dl at ha' hb'
  have hin:Int.toNat (i:Int)=i:=by omega
  have hnat:0+Int.toNat ((i:Int)+((digs b.natAbs).length:Int))*1=i+(digs b.natAbs).length:=by omega
  have hia:i<(digs a.natAbs).length:=by omega
  obtain ⟨hd0,hd1⟩:=GZ (oZ a.natAbs) i
  obtain ⟨l2,c2,k1,k2,k3,k4,k5,k6,k7⟩:=timesI na nb a b ((digs a.natAbs).getD i 0) hd0 hd1 i n (by omega) (by omega) (digs b.natAbs).length 0 l 0 (by omega) hl (by omega) (by omega) hln
  have k7':Loops 4 tP (kZ tP 103 1) (TN na nb a b i ((digs a.natAbs).getD i 0) 0 0 n l) (.exit 2,TN na nb a b i ((digs a.natAbs).getD i 0) c2 ((digs b.natAbs).length:Int) n l2):=k7
  have h:=LS.of ok5 (toL_0 na nb a b i c2 ((digs b.natAbs).length:Int) n l l2) (by
   rw [hnat,hin]
   exact(by(repeat' (first | exact AllC.nil | refine AllC.cons ?_ ?_));all_goals (first | exact CU.h {} | (simp [hia,k2]<;>omega) | assumption | rfl)))
  rw [hnat] at h
  have hv:=zgj l2 (i+(digs b.natAbs).length) c2 (by omega)
  have h0:l2.getD (i+(digs b.natAbs).length) 0=0:=by rw [k6 _ (Nat.le_refl _)];exact hz _ (Nat.le_refl _)
  rw [h0,Int.sub_zero,k5] at hv
  obtain ⟨l4,m1,m2,m3,m4⟩:=timesO na nb a b ha hb n hn hb0 r (i+1) (l2.set (i+(digs b.natAbs).length) c2) (by omega) (zem k1 _ k3 k4) (by simp;omega) (fun j hj=>by
   rw [IZ _ _ _ _ (by omega),k6 j (by omega)];exact hz j (by omega))
  have e:((i+1:Nat):Int)=(i:Int)+1:=by omega
  rw [e] at m4
  refine ⟨l4,m1,m2,?_,Loops.go h m4⟩
  rw [m3,hv,zan (digs a.natAbs) i,List.drop_zero,XZ,Int.zero_add,Nat.add_zero,Int.pow_succ,Int.add_mul,Int.mul_assoc 100000000,alg1,Int.add_assoc]
theorem times_fc (a b:Int) (h:pDD a b):FC tP 103 [W a,W b] (W (a*b)):=by
 obtain ⟨ha,hb⟩:=h
 have ha':=ha
 have hb':=hb
 unfold zag dl at ha' hb'
 by_cases ha0:a=0
 ·subst ha0
  have:=lZ ok5 (timZ_0 (decide ((0:Int)<0)) (decide (b<0)) 0 b) (.cons (by simp [QZ]) .nil)
  exact this.res fun E v h=>h.toW (b:=false) (l:=[]) rfl rfl (by simp) (by simp [QZ])
 ·have hna:=zd8 ha0
  by_cases hb0:b=0
  ·subst hb0
   have:=lZ ok5 (timZ_1 (decide (a<0)) (decide ((0:Int)<0)) a 0) (.cons (by simp [hna]) (.cons (by simp [QZ]) .nil))
   exact this.res fun E v h=>h.toW (b:=false) (l:=[]) rfl rfl (by simp) (by simp [QZ])
  ·have hnb:=zd8 hb0
   have hpa:=zbJ ha0
   have hpb:=zbJ hb0
   obtain ⟨N,hN⟩:∃N,N=Int.toNat (((digs a.natAbs).length:Int)+((digs b.natAbs).length:Int)):=⟨_,rfl⟩
   have hN2:N=(digs a.natAbs).length+(digs b.natAbs).length:=by omega
   have hz0:Digs (List.replicate N 0):=fun d hd=>by
    have:=List.eq_of_mem_replicate hd
    omega
   have hvz:∀m:Nat,vl (List.replicate m 0)=0:=by
    intro m
    induction m with
    | zero=>rfl
    | succ m ih=>simp only [List.replicate_succ,vl,ih];rfl
   obtain ⟨l2,k1,k2,k3,k4⟩:=timesO (decide (a<0)) (decide (b<0)) a b ha hb N hN2 hpb (digs a.natAbs).length 0 (List.replicate N 0) (by omega) hz0 (by simp) (fun j hj=>by simp [List.getD,List.getElem?_replicate];split<;>rfl)
   have k4':Loops 4 tP (kZ tP 103 0) (TO (decide (a<0)) (decide (b<0)) a b 0 N (List.replicate N 0)) (.exit 0,TO (decide (a<0)) (decide (b<0)) a b ((digs a.natAbs).length:Int) N l2):=k4
   have hst:List.take N l2=l2:=by rw [← k2,zar]
   have:=lZ ok5 (tim_2 (decide (a<0)) (decide (b<0)) a b ((digs a.natAbs).length:Int) N l2) (by
    rw [hst,← hN]
    exact(by(repeat' (first | exact AllC.nil | refine AllC.cons ?_ ?_));all_goals (first | exact CU.h {} | (simp [hna,hnb,k2,MZ]<;>omega) | assumption | rfl)))
   rw [hst] at this
   have hprod:vl l2=((a.natAbs*b.natAbs:Nat):Int):=by
    rw [k3,hvz,List.drop_zero,XZ,Int.pow_zero,Int.one_mul,Int.zero_add];simp
   refine this.res fun E v h=>h.toW (b:=(!(decide (a<0)==decide (b<0)))) rfl rfl ?_ ?_
   ·rcases Int.lt_or_gt_of_ne ha0 with h1 | h1<;>rcases Int.lt_or_gt_of_ne hb0 with h2 | h2
    ·have:=Int.mul_pos_of_neg_of_neg h1 h2
     simp [h1,h2];omega
    ·have:=Int.mul_neg_of_neg_of_pos h1 h2
     have h3:¬b<0:=by omega
     simp [h1,h3,this]
    ·have:=Int.mul_neg_of_pos_of_neg h1 h2
     have h3:¬a<0:=by omega
     simp [h2,h3,this]
    ·have:=Int.mul_pos h1 h2
     have h3:¬a<0:=by omega
     have h4:¬b<0:=by omega
     simp [h3,h4];omega
   ·rw [zas k1,hprod,Int.toNat_natCast,Int.natAbs_mul]
def ctr6:Ctr:=(103,c2 pDD (fun a b=>W (a*b))) :: ctr5
theorem znt:∀p∈ctr6,jZ tP p.1 p.2:=CAll.cons (c2_ok times_fc) zns
theorem ok6:(eZ tP ctr6 bw).OK:=JZ znt
end Go.Proofs.YtagbldogmjhdpaaGreatDoor
end
section
open Go Go.Ev
namespace Go.Proofs.YtagbldogmjhdpaaGreatDoor
open Go.Proofs
def cLI (p:List Int→Int→Prop) (r:List Int→Int→AV) (args:List AV):M AV:=match args with
 | [x,.lit (.int .i64 n)]=>do
  let l ← ofOpt 217 (ints? x)
  tell (p l n)
  M.pure (r l n)
 | _=>fail 218
theorem cLI_ok {P:Program} {f:FuncId} {p:List Int→Int→Prop} {r:List Int→Int→AV} (h:∀l n,p l n→FC P f [.sq l,lI n] (r l n)):jZ P f (cLI p r):=by
 intro args _
 unfold cLI
 split
 ·exact Spec.bind (Spec.ofOpt fun l hl=>Spec.bind (Spec.tell fun hp=>Spec.pure' ((h l _ hp).arg2 (fun E v hv=>hv.toSq hl) (fun E v hv=>hv))))
 ·exact Spec.fail
abbrev SH (l:List Int) (n r i:Int) (m:Nat) (a:List Int):St:=⟨sp 38 [(0,.sq l),(1,lI n),(6,.own 0 0 m 1),(7,lI r),(8,lI i)],[.ints a true],[0]⟩
end Go.Proofs.YtagbldogmjhdpaaGreatDoor
end
section
open Go Go.Ev Go.RowKit
namespace Go.Proofs.YtagbldogmjhdpaaGreatDoor
open Go.Proofs
set_option maxRecDepth 100000
set_option maxHeartbeats 1000000
set_option linter.unusedVariables false
set_option linter.unusedSimpArgs false
noncomputable section
theorem shL_0 (l:List Int) (n r i:Int) (m:Nat) (a:List Int):RndI (eZ tP ctr6 bw) 60 (kZ tP 159 0) 1 [] [0,1,6,7,8] [0] (SH l n r i m a) [1] [] [1,2,3,4,5,6,7,8,7,3,9,10,11] (Ex.normal) (⟨sp 38 [(0,.sq l),(1,aI n),(6,.own 0 0 m 1),(7,aI (Int.tmod (r*100000000+l.getD i.toNat 0) n)),(8,aI (i-1))],[.ints (a.set (0+i.toNat*1) (Int.tdiv (r*100000000+l.getD i.toNat 0) n)) true],[0]⟩) [decide (i≥0)=true,inR .i64 (r*100000000)=true,decide (0≤i)=true,decide (i<(l.length:Int))=true,decide (i.toNat<l.length)=true,inR .i64 (r*100000000+l.getD i.toNat 0)=true,(!decide (n=0))=true,inR .i64 (Int.tdiv (r*100000000+l.getD i.toNat 0) n)=true,decide (i<(m:Int))=true,decide (0+i.toNat*1<a.length)=true,inR .i64 (i-1)=true]:={}
theorem shL_1 (l:List Int) (n r i:Int) (m:Nat) (a:List Int):RndI (eZ tP ctr6 bw) 60 (kZ tP 159 0) 1 [] [0,1,6,7,8] [0] (SH l n r i m a) [0] [] [1] (Ex.exit 0) (⟨sp 38 [(0,.sq l),(1,aI n),(6,.own 0 0 m 1),(7,aI r),(8,aI i)],[.ints a true],[0]⟩) [decide (i≥0)=false]:={}
theorem sh_0 (l:List Int) (n r i:Int) (m:Nat) (a:List Int):FunI (eZ tP ctr6 bw) 60 159 [.sq l,lI n] [] [some (zdZ tP (kZ tP 159 0) [] [0,1,6,7,8] [0] (SH l n 0 ((l.length:Int)-1) m (List.replicate m 0)) (.exit 0,SH l n r i m a))] [0,1,2,3,4,5,6,7,8] (.tup [.sq (trm (a.take m)),aI r]) [decide ((l.length:Int)≤(l.length:Int))=true,decide (8*(l.length:Int)≤281474976710656)=true,decide ((l.length:Int)≤9223372036854775807)=true,inR .i64 ((l.length:Int)-1)=true,(⟨sp 38 [(0,.sq l),(1,aI n),(6,.own 0 0 (l.length:Int).toNat 1),(7,aI 0),(8,aI ((l.length:Int)-1))],[.ints (List.replicate (l.length:Int).toNat 0) true],[0]⟩:St)=⟨sp 38 [(0,.sq l),(1,aI n),(6,.own 0 0 m 1),(7,aI 0),(8,aI ((l.length:Int)-1))],[.ints (List.replicate m 0) true],[0]⟩,Loops 1 tP (kZ tP 159 0) ⟨sp 38 [(0,.sq l),(1,aI n),(6,.own 0 0 m 1),(7,aI 0),(8,aI ((l.length:Int)-1))],[.ints (List.replicate m 0) true],[0]⟩ (Ex.exit 0,⟨sp 38 [(0,.sq l),(1,aI n),(6,.own 0 0 m 1),(7,aI r),(8,aI i)],[.ints a true],[0]⟩),m≤a.length,MZ (a.take m)]:={}
end
theorem tdn {t n:Int} (h:0≤t) (hn:0<n):Int.tdiv t n=t / n∧Int.tmod t n=t % n:=
 ⟨Int.tdiv_eq_ediv_of_nonneg h,Int.tmod_eq_emod_of_nonneg h⟩
theorem zjF (l:List Int) (k:Nat) (v:Int):(l.set k v).drop (k+1)=l.drop (k+1):=by
 apply List.ext_getElem?
 intro i
 rw [List.getElem?_drop,List.getElem?_drop,List.getElem?_set_ne (by omega)]
theorem zcs (l:List Int) (k:Nat) (v:Int) (h:k<l.length):(l.set k v).getD k 0=v:=by simp [List.getD,h]
theorem shortL (l:List Int) (n:Int) (hn:0<n) (hnB:n≤100000000) (hl:Digs l) (hll:l.length≤4194304):∀(k:Nat) (r:Int) (out:List Int),k≤l.length→out.length=l.length→0≤r→r<n→Digs out→vl (out.drop k)*n+r=vl (l.drop k) →
 ∃(r2:Int) (out2:List Int),out2.length=l.length∧0≤r2∧r2<n∧Digs out2∧vl out2*n+r2=vl l ∧
  Loops 1 tP (kZ tP 159 0) (SH l n r ((k:Int)-1) l.length out) (.exit 0,SH l n r2 (-1) l.length out2)
 | 0,r,out,hk,ho,h0,h1,hd,hv=>by
  rw [List.drop_zero,List.drop_zero] at hv
  exact ⟨r,out,ho,h0,h1,hd,hv,Loops.fin (LS.of ok6 (shL_1 l n r (-1) l.length out) (by(repeat' (first | exact AllC.nil | refine AllC.cons ?_ ?_));all_goals (first | exact CU.h {} | (simp []<;>omega) | assumption | rfl))) (by simp [Ex.toExit])⟩
 | k + 1,r,out,hk,ho,h0,h1,hd,hv=>by
  have hnat:0+Int.toNat (((k+1:Nat):Int)-1)*1=k:=by omega
  have hnat2:Int.toNat (((k+1:Nat):Int)-1)=k:=by omega
  have hx:=GZ hl k
  have hkl:k<l.length:=by omega
  obtain ⟨t1,t2⟩:=tdn (t:=r*100000000+l.getD k 0) (n:=n) (by omega) hn
  have hq0:0≤(r*100000000+l.getD k 0) / n:=Int.ediv_nonneg (by omega) (by omega)
  have hq1:(r*100000000+l.getD k 0) / n<100000000:=Int.ediv_lt_of_lt_mul hn (by omega)
  have hr0:0≤(r*100000000+l.getD k 0) % n:=Int.emod_nonneg _ (by omega)
  have hr1:(r*100000000+l.getD k 0) % n<n:=Int.emod_lt_of_pos _ hn
  have hdm:=Int.mul_ediv_add_emod (r*100000000+l.getD k 0) n
  have hn0:(!decide (n=0))=true:=by simp;omega
  have h:=LS.of ok6 (shL_0 l n r (((k+1:Nat):Int)-1) l.length out) (by
   rw [hnat,hnat2,t1]
   exact(by(repeat' (first | exact AllC.nil | refine AllC.cons ?_ ?_));all_goals (first | exact CU.h {} | (simp [ho]<;>omega) | assumption | rfl)))
  rw [hnat,hnat2,t1,t2] at h
  have e:((k+1:Nat):Int)-1-1=(k:Int)-1:=by omega
  rw [e] at h
  have hv2:vl ((out.set k ((r*100000000+l.getD k 0) / n)).drop k)*n+(r*100000000+l.getD k 0) % n=vl (l.drop k):=by
   rw [zan (out.set k _) k,zjF,zcs _ _ _ (by omega),zan l k,← hv,Int.add_mul,Int.mul_assoc]
   rw [Int.mul_comm n] at hdm
   omega
  obtain ⟨r2,out2,k1,k2,k3,k4,k5,k6⟩:=shortL l n hn hnB hl hll k _ _ (by omega) (by simp;omega) hr0 hr1 (zem hd _ hq0 hq1) hv2
  exact ⟨r2,out2,k1,k2,k3,k4,k5,Loops.go h k6⟩
theorem Rd_lit_eq {E:Env} {a b:Value} {v:Value} (h:a=b) (hr:Rd E (.lit a) v):Rd E (.lit b) v:=h▸hr
def zgd (l:List Int) (n:Int):Prop:=Digs l∧l.length≤4194304∧0<n∧n≤100000000
theorem short_fc (l:List Int) (n:Int) (h:zgd l n):FC tP 159 [.sq l,lI n] (.tup [.wd (vl l / n),lI (vl l % n)]):=by
 obtain ⟨hl,hll,hn,hnB⟩:=h
 have hz0:Digs (List.replicate l.length 0):=fun d hd=>by
  have:=List.eq_of_mem_replicate hd
  omega
 obtain ⟨r2,out2,k1,k2,k3,k4,k5,k6⟩:=shortL l n hn hnB hl hll l.length 0 (List.replicate l.length 0) (Nat.le_refl _) (by simp) (Int.le_refl _) hn hz0 (by
  rw [List.drop_length,List.drop_eq_nil_of_le (by simp)];simp [vl])
 have e:List.take l.length out2=out2:=by rw [← k1,zar]
 have:=lZ ok6 (sh_0 l n r2 (-1) l.length out2) (by
  rw [e]
  simp only [Int.toNat_natCast]
  exact(by(repeat' (first | exact AllC.nil | refine AllC.cons ?_ ?_));all_goals (first | exact CU.h {} | (simp [k1,MZ]<;>omega) | assumption | rfl)))
 rw [e] at this
 have hq:vl l / n=vl out2:=by
  rw [← k5,Int.mul_comm,Int.add_comm,Int.add_mul_ediv_left _ _ (by omega),Int.ediv_eq_zero_of_lt k2 k3,Int.zero_add]
 have hr:vl l % n=r2:=by
  rw [← k5,Int.mul_comm,Int.add_comm,Int.add_mul_emod_self_left,Int.emod_eq_of_lt k2 k3]
 have hv0:=FZ k4
 refine this.res fun E v hv=>hv.tup2 (fun u hu=>hu.toWd rfl ?_) (fun u hu=>Rd_lit_eq (by rw [hr]) hu)
 rw [zas k4,hq]
 congr 1
 omega
def zmt:Ctr:=(159,cLI zgd (fun l n=>.tup [.wd (vl l / n),lI (vl l % n)])) :: ctr6
theorem znu:∀p∈zmt,jZ tP p.1 p.2:=CAll.cons (cLI_ok short_fc) znt
end Go.Proofs.YtagbldogmjhdpaaGreatDoor
end
section
open Go Go.Ev
namespace Go.Proofs.YtagbldogmjhdpaaGreatDoor
open Go.Proofs
def dmy:zay:=none
abbrev TW (c d:Bool) (a b:Int) (n:Nat) (l:List Int):St:=⟨sp 21 [(0,.own 3 0 n 1)],[.flat [.lit (.bool c),.wd a] true,.flat [.lit (.bool d),.wd b] true,.flat [.lit (.bool false),.lit (.slice none 0 0)] true,.ints l true],[]⟩
abbrev rwL (a f:Int) (n2:Nat) (u out:List Int):List Row:=[.flat [.lit (.bool false),.wd a] true,.flat [.lit (.bool (decide (f<0))),.wd f] true,.flat [.lit (.bool (!(false==decide (f<0)))),.own 3 0 n2 1] true,.dead,.ints [0,0] true,.ints u true,.ints out true]
abbrev LO (a f:Int) (b:Nat) (V:Int) (L J:Nat) (j:Int) (u c:List Int):St:=⟨sp 182 [(6,lI f),(7,.own 5 0 L 1),(8,.wd V),(9,lI ((digs V.natAbs).length:Int)),(10,.own 6 0 J 1),(11,lI j)],rwL a f b u c,[2,3,4,5,6]⟩
abbrev LSb (a f:Int) (b:Nat) (V:Int) (L J:Nat) (j g c i:Int) (u d:List Int):St:=⟨sp 182 [(6,lI f),(7,.own 5 0 L 1),(8,.wd V),(9,lI ((digs V.natAbs).length:Int)),(10,.own 6 0 J 1),(11,lI j),(12,lI g),(13,lI c),(81,lI ((digs V.natAbs).length:Int)),(82,lI i)],rwL a f b u d,[2,3,4,5,6]⟩
abbrev LC (a f:Int) (b:Nat) (V:Int) (L J:Nat) (j g:Int) (u c:List Int):St:=⟨sp 182 [(6,lI f),(7,.own 5 0 L 1),(8,.wd V),(9,lI ((digs V.natAbs).length:Int)),(10,.own 6 0 J 1),(11,lI j),(12,lI g)],rwL a f b u c,[2,3,4,5,6]⟩
abbrev LA (a f:Int) (b:Nat) (V:Int) (L J:Nat) (j g c i:Int) (u d:List Int):St:=⟨sp 182 [(6,lI f),(7,.own 5 0 L 1),(8,.wd V),(9,lI ((digs V.natAbs).length:Int)),(10,.own 6 0 J 1),(11,lI j),(12,lI g),(13,lI c),(130,lI ((digs V.natAbs).length:Int)),(131,lI i)],rwL a f b u d,[2,3,4,5,6]⟩
end Go.Proofs.YtagbldogmjhdpaaGreatDoor
end
section
open Go Go.Ev Go.RowKit
namespace Go.Proofs.YtagbldogmjhdpaaGreatDoor
open Go.Proofs
set_option maxRecDepth 100000
set_option maxHeartbeats 1000000
set_option linter.unusedVariables false
set_option linter.unusedSimpArgs false
noncomputable section
theorem loS_0 (a f:Int) (b:Nat) (V:Int) (L J:Nat) (j g c i:Int) (u d:List Int):RndI (eZ tP zmt bw [103,143]) 60 (kZ tP 160 1) 7 [] [6,7,8,9,10,11,12,13,81,82] [2,3,4,5,6] (LSb a f b V L J j g c i u d) [1] [] [1,2,3,4,5,6,1,7,8,9,10,11,2,3,4,5,12] (Ex.normal) (⟨sp 182 [(6,aI f),(7,.own 5 0 L 1),(8,.wd V),(9,aI (↑((digs V.natAbs).length):Int)),(10,.own 6 0 J 1),(11,aI j),(12,aI g),(13,aI ((u.getD (0+(i+j).toNat*1) 0-g*(digs V.natAbs).getD i.toNat 0+c) / 100000000)),(81,aI (↑((digs V.natAbs).length):Int)),(82,aI (i+1))],[.flat [aF,.wd a] true,.flat [aD f,.wd f] true,.flat [.lit (.bool (!(false==decide (f<0)))),.own 3 0 b 1] true,.dead,.ints [0,0] true,.ints (u.set (0+(i+j).toNat*1) ((u.getD (0+(i+j).toNat*1) 0-g*(digs V.natAbs).getD i.toNat 0+c) % 100000000)) true,.ints d true],[2,3,4,5,6]⟩) [decide (i<(↑((digs V.natAbs).length):Int))=true,inR .i64 (i+j)=true,decide (0≤i+j)=true,decide (i+j<(L:Int))=true,decide (0+(i+j).toNat*1<u.length)=true,decide (0≤i)=true,decide (i.toNat<(digs V.natAbs).length)=true,inR .i64 (g*(digs V.natAbs).getD i.toNat 0)=true,inR .i64 (u.getD (0+(i+j).toNat*1) 0-g*(digs V.natAbs).getD i.toNat 0)=true,inR .i64 (u.getD (0+(i+j).toNat*1) 0-g*(digs V.natAbs).getD i.toNat 0+c)=true,cZ (u.getD (0+(i+j).toNat*1) 0-g*(digs V.natAbs).getD i.toNat 0+c),inR .i64 (i+1)=true]:={}
theorem loS_1 (a f:Int) (b:Nat) (V:Int) (L J:Nat) (j g c i:Int) (u d:List Int):RndI (eZ tP zmt bw [103,143]) 60 (kZ tP 160 1) 7 [] [6,7,8,9,10,11,12,13,81,82] [2,3,4,5,6] (LSb a f b V L J j g c i u d) [0] [] [1] (Ex.exit 2) (⟨sp 182 [(6,aI f),(7,.own 5 0 L 1),(8,.wd V),(9,aI (↑((digs V.natAbs).length):Int)),(10,.own 6 0 J 1),(11,aI j),(12,aI g),(13,aI c),(81,aI (↑((digs V.natAbs).length):Int)),(82,aI i)],[.flat [aF,.wd a] true,.flat [aD f,.wd f] true,.flat [.lit (.bool (!(false==decide (f<0)))),.own 3 0 b 1] true,.dead,.ints [0,0] true,.ints u true,.ints d true],[2,3,4,5,6]⟩) [decide (i<(↑((digs V.natAbs).length):Int))=false]:={}
theorem loA_0 (a f:Int) (b:Nat) (V:Int) (L J:Nat) (j g c i:Int) (u d:List Int):RndI (eZ tP zmt bw [103,143]) 60 (kZ tP 160 3) 7 [] [6,7,8,9,10,11,12,13,130,131] [2,3,4,5,6] (LA a f b V L J j g c i u d) [1] [] [1,2,3,4,5,6,1,7,8,9,10,2,3,4,5,11] (Ex.normal) (⟨sp 182 [(6,aI f),(7,.own 5 0 L 1),(8,.wd V),(9,aI (↑((digs V.natAbs).length):Int)),(10,.own 6 0 J 1),(11,aI j),(12,aI g),(13,aI ((u.getD (0+(i+j).toNat*1) 0+(digs V.natAbs).getD i.toNat 0+c) / 100000000)),(130,aI (↑((digs V.natAbs).length):Int)),(131,aI (i+1))],[.flat [aF,.wd a] true,.flat [aD f,.wd f] true,.flat [.lit (.bool (!(false==decide (f<0)))),.own 3 0 b 1] true,.dead,.ints [0,0] true,.ints (u.set (0+(i+j).toNat*1) ((u.getD (0+(i+j).toNat*1) 0+(digs V.natAbs).getD i.toNat 0+c) % 100000000)) true,.ints d true],[2,3,4,5,6]⟩) [decide (i<(↑((digs V.natAbs).length):Int))=true,inR .i64 (i+j)=true,decide (0≤i+j)=true,decide (i+j<(L:Int))=true,decide (0+(i+j).toNat*1<u.length)=true,decide (0≤i)=true,decide (i.toNat<(digs V.natAbs).length)=true,inR .i64 (u.getD (0+(i+j).toNat*1) 0+(digs V.natAbs).getD i.toNat 0)=true,inR .i64 (u.getD (0+(i+j).toNat*1) 0+(digs V.natAbs).getD i.toNat 0+c)=true,cZ (u.getD (0+(i+j).toNat*1) 0+(digs V.natAbs).getD i.toNat 0+c),inR .i64 (i+1)=true]:={}
theorem loA_1 (a f:Int) (b:Nat) (V:Int) (L J:Nat) (j g c i:Int) (u d:List Int):RndI (eZ tP zmt bw [103,143]) 60 (kZ tP 160 3) 7 [] [6,7,8,9,10,11,12,13,130,131] [2,3,4,5,6] (LA a f b V L J j g c i u d) [0] [] [1] (Ex.exit 6) (⟨sp 182 [(6,aI f),(7,.own 5 0 L 1),(8,.wd V),(9,aI (↑((digs V.natAbs).length):Int)),(10,.own 6 0 J 1),(11,aI j),(12,aI g),(13,aI c),(130,aI (↑((digs V.natAbs).length):Int)),(131,aI i)],[.flat [aF,.wd a] true,.flat [aD f,.wd f] true,.flat [.lit (.bool (!(false==decide (f<0)))),.own 3 0 b 1] true,.dead,.ints [0,0] true,.ints u true,.ints d true],[2,3,4,5,6]⟩) [decide (i<(↑((digs V.natAbs).length):Int))=false]:={}
theorem loC_0 (a f:Int) (b:Nat) (V:Int) (L J:Nat) (j g c i:Int) (u d e:List Int):RndI (eZ tP zmt bw [103,143]) 60 (kZ tP 160 2) 7 [] [6,7,8,9,10,11,12] [2,3,4,5,6] (LC a f b V L J j g u e) [1] [some (zdZ tP (kZ tP 160 3) [] [6,7,8,9,10,11,12,13,130,131] [2,3,4,5,6] (LA a f b V L J j (g-1) 0 0 u e) (.exit 6,LA a f b V L J j (g-1) c i d e))] [1,2,3,4,5,6,0,7,1,2,3,8,9,2,3,8] (Ex.normal) (⟨sp 182 [(6,aI f),(7,.own 5 0 L 1),(8,.wd V),(9,aI (↑((digs V.natAbs).length):Int)),(10,.own 6 0 J 1),(11,aI j),(12,aI (g-1))],[.flat [aF,.wd a] true,.flat [aD f,.wd f] true,.flat [.lit (.bool (!(false==decide (f<0)))),.own 3 0 b 1] true,.dead,.ints [0,0] true,.ints (d.set (0+(j+(↑((digs V.natAbs).length):Int)).toNat*1) (d.getD (0+(j+(↑((digs V.natAbs).length):Int)).toNat*1) 0+c)) true,.ints e true],[2,3,4,5,6]⟩) [inR .i64 (j+(↑((digs V.natAbs).length):Int))=true,decide (0≤j+(↑((digs V.natAbs).length):Int))=true,decide (j+(↑((digs V.natAbs).length):Int)<(L:Int))=true,decide (0+(j+(↑((digs V.natAbs).length):Int)).toNat*1<u.length)=true,decide (u.getD (0+(j+(↑((digs V.natAbs).length):Int)).toNat*1) 0<0)=true,inR .i64 (g-1)=true,Loops 7 tP (kZ tP 160 3) ⟨sp 182 [(6,aI f),(7,.own 5 0 L 1),(8,.wd V),(9,aI (↑((digs V.natAbs).length):Int)),(10,.own 6 0 J 1),(11,aI j),(12,aI (g-1)),(13,aI 0),(130,aI (↑((digs V.natAbs).length):Int)),(131,aI 0)],[.flat [aF,.wd a] true,.flat [aD f,.wd f] true,.flat [.lit (.bool (!(false==decide (f<0)))),.own 3 0 b 1] true,.dead,.ints [0,0] true,.ints u true,.ints e true],[2,3,4,5,6]⟩ (Ex.exit 6,⟨sp 182 [(6,aI f),(7,.own 5 0 L 1),(8,.wd V),(9,aI (↑((digs V.natAbs).length):Int)),(10,.own 6 0 J 1),(11,aI j),(12,aI (g-1)),(13,aI c),(130,aI (↑((digs V.natAbs).length):Int)),(131,aI i)],[.flat [aF,.wd a] true,.flat [aD f,.wd f] true,.flat [.lit (.bool (!(false==decide (f<0)))),.own 3 0 b 1] true,.dead,.ints [0,0] true,.ints d true,.ints e true],[2,3,4,5,6]⟩),decide (0+(j+(↑((digs V.natAbs).length):Int)).toNat*1<d.length)=true,inR .i64 (d.getD (0+(j+(↑((digs V.natAbs).length):Int)).toNat*1) 0+c)=true]:={}
theorem loD_0 (a f:Int) (b:Nat) (V:Int) (L J:Nat) (j g:Int) (u c:List Int):RndI (eZ tP zmt bw [103,143]) 60 (kZ tP 160 2) 7 [] [6,7,8,9,10,11,12] [2,3,4,5,6] (LC a f b V L J j g u c) [0] [] [1,2,3,4,5] (Ex.exit 4) (⟨sp 182 [(6,aI f),(7,.own 5 0 L 1),(8,.wd V),(9,aI (↑((digs V.natAbs).length):Int)),(10,.own 6 0 J 1),(11,aI j),(12,aI g)],[.flat [aF,.wd a] true,.flat [aD f,.wd f] true,.flat [.lit (.bool (!(false==decide (f<0)))),.own 3 0 b 1] true,.dead,.ints [0,0] true,.ints u true,.ints c true],[2,3,4,5,6]⟩) [inR .i64 (j+(↑((digs V.natAbs).length):Int))=true,decide (0≤j+(↑((digs V.natAbs).length):Int))=true,decide (j+(↑((digs V.natAbs).length):Int)<(L:Int))=true,decide (0+(j+(↑((digs V.natAbs).length):Int)).toNat*1<u.length)=true,decide (u.getD (0+(j+(↑((digs V.natAbs).length):Int)).toNat*1) 0<0)=false]:={}
theorem loM_0 (a f:Int) (b:Nat) (V:Int) (L J:Nat) (j g d c i:Int) (u e l m:List Int):RndI (eZ tP zmt bw [103,143]) 60 (kZ tP 160 0) 7 [] [6,7,8,9,10,11] [2,3,4,5,6] (LO a f b V L J j u m) [1] [some (zdZ tP (kZ tP 160 1) [] [6,7,8,9,10,11,12,13,81,82] [2,3,4,5,6] (LSb a f b V L J j g 0 0 u m) (.exit 2,LSb a f b V L J j g c i e m)),some (zdZ tP (kZ tP 160 2) [] [6,7,8,9,10,11,12] [2,3,4,5,6] (LC a f b V L J j g (e.set (j.toNat+(digs V.natAbs).length) (e.getD (j.toNat+(digs V.natAbs).length) 0+c)) m) (.exit 4,LC a f b V L J j d l m))] [1,2,3,4,5,6,2,7,8,9,10,11,12,13,14,15,16,17,18,19,2,3,4,20,21,3,4,20,22,23,24,25,26,27] (Ex.normal) (⟨sp 182 [(6,aI f),(7,.own 5 0 L 1),(8,.wd V),(9,aI (↑((digs V.natAbs).length):Int)),(10,.own 6 0 J 1),(11,aI (j-1))],[.flat [aF,.wd a] true,.flat [aD f,.wd f] true,.flat [.lit (.bool (!(false==decide (f<0)))),.own 3 0 b 1] true,.dead,.ints [0,0] true,.ints l true,.ints (m.set (0+j.toNat*1) d) true],[2,3,4,5,6]⟩) [decide (j≥0)=true,inR .i64 (j+(↑((digs V.natAbs).length):Int))=true,decide (0≤j+(↑((digs V.natAbs).length):Int))=true,decide (j+(↑((digs V.natAbs).length):Int)<(L:Int))=true,decide (0+(j+(↑((digs V.natAbs).length):Int)).toNat*1<u.length)=true,inR .i64 (u.getD (0+(j+(↑((digs V.natAbs).length):Int)).toNat*1) 0*100000000)=true,inR .i64 (j+(↑((digs V.natAbs).length):Int)-1)=true,decide (0≤j+(↑((digs V.natAbs).length):Int)-1)=true,decide (j+(↑((digs V.natAbs).length):Int)-1<(L:Int))=true,decide (0+(j+(↑((digs V.natAbs).length):Int)-1).toNat*1<u.length)=true,inR .i64 (u.getD (0+(j+(↑((digs V.natAbs).length):Int)).toNat*1) 0*100000000+u.getD (0+(j+(↑((digs V.natAbs).length):Int)-1).toNat*1) 0)=true,inR .i64 ((↑((digs V.natAbs).length):Int)-1)=true,decide (0≤(↑((digs V.natAbs).length):Int)-1)=true,decide ((↑((digs V.natAbs).length):Int)-1<(↑((digs V.natAbs).length):Int))=true,decide (((↑((digs V.natAbs).length):Int)-1).toNat<(digs V.natAbs).length)=true,(!decide ((digs V.natAbs).getD ((↑((digs V.natAbs).length):Int)-1).toNat 0=0))=true,inR .i64 (Int.tdiv (u.getD (0+(j+(↑((digs V.natAbs).length):Int)).toNat*1) 0*100000000+u.getD (0+(j+(↑((digs V.natAbs).length):Int)-1).toNat*1) 0) ((digs V.natAbs).getD ((↑((digs V.natAbs).length):Int)-1).toNat 0))=true,(⟨sp 182 [(6,aI f),(7,.own 5 0 L 1),(8,.wd V),(9,aI (↑((digs V.natAbs).length):Int)),(10,.own 6 0 J 1),(11,aI j),(12,aI (if 99999999<Int.tdiv (u.getD (0+(j+(↑((digs V.natAbs).length):Int)).toNat*1) 0*100000000+u.getD (0+(j+(↑((digs V.natAbs).length):Int)-1).toNat*1) 0) ((digs V.natAbs).getD ((↑((digs V.natAbs).length):Int)-1).toNat 0) then 99999999 else Int.tdiv (u.getD (0+(j+(↑((digs V.natAbs).length):Int)).toNat*1) 0*100000000+u.getD (0+(j+(↑((digs V.natAbs).length):Int)-1).toNat*1) 0) ((digs V.natAbs).getD ((↑((digs V.natAbs).length):Int)-1).toNat 0))),(13,aI 0),(81,aI (↑((digs V.natAbs).length):Int)),(82,aI 0)],[.flat [aF,.wd a] true,.flat [aD f,.wd f] true,.flat [.lit (.bool (!(false==decide (f<0)))),.own 3 0 b 1] true,.dead,.ints [0,0] true,.ints u true,.ints m true],[2,3,4,5,6]⟩:St)=⟨sp 182 [(6,aI f),(7,.own 5 0 L 1),(8,.wd V),(9,aI (↑((digs V.natAbs).length):Int)),(10,.own 6 0 J 1),(11,aI j),(12,aI g),(13,aI 0),(81,aI (↑((digs V.natAbs).length):Int)),(82,aI 0)],[.flat [aF,.wd a] true,.flat [aD f,.wd f] true,.flat [.lit (.bool (!(false==decide (f<0)))),.own 3 0 b 1] true,.dead,.ints [0,0] true,.ints u true,.ints m true],[2,3,4,5,6]⟩,Loops 7 tP (kZ tP 160 1) ⟨sp 182 [(6,aI f),(7,.own 5 0 L 1),(8,.wd V),(9,aI (↑((digs V.natAbs).length):Int)),(10,.own 6 0 J 1),(11,aI j),(12,aI g),(13,aI 0),(81,aI (↑((digs V.natAbs).length):Int)),(82,aI 0)],[.flat [aF,.wd a] true,.flat [aD f,.wd f] true,.flat [.lit (.bool (!(false==decide (f<0)))),.own 3 0 b 1] true,.dead,.ints [0,0] true,.ints u true,.ints m true],[2,3,4,5,6]⟩ (Ex.exit 2,⟨sp 182 [(6,aI f),(7,.own 5 0 L 1),(8,.wd V),(9,aI (↑((digs V.natAbs).length):Int)),(10,.own 6 0 J 1),(11,aI j),(12,aI g),(13,aI c),(81,aI (↑((digs V.natAbs).length):Int)),(82,aI i)],[.flat [aF,.wd a] true,.flat [aD f,.wd f] true,.flat [.lit (.bool (!(false==decide (f<0)))),.own 3 0 b 1] true,.dead,.ints [0,0] true,.ints e true,.ints m true],[2,3,4,5,6]⟩),decide (0+(j+(↑((digs V.natAbs).length):Int)).toNat*1<e.length)=true,inR .i64 (e.getD (0+(j+(↑((digs V.natAbs).length):Int)).toNat*1) 0+c)=true,(⟨sp 182 [(6,aI f),(7,.own 5 0 L 1),(8,.wd V),(9,aI (↑((digs V.natAbs).length):Int)),(10,.own 6 0 J 1),(11,aI j),(12,aI g)],[.flat [aF,.wd a] true,.flat [aD f,.wd f] true,.flat [.lit (.bool (!(false==decide (f<0)))),.own 3 0 b 1] true,.dead,.ints [0,0] true,.ints (e.set (0+(j+(↑((digs V.natAbs).length):Int)).toNat*1) (e.getD (0+(j+(↑((digs V.natAbs).length):Int)).toNat*1) 0+c)) true,.ints m true],[2,3,4,5,6]⟩:St)=⟨sp 182 [(6,aI f),(7,.own 5 0 L 1),(8,.wd V),(9,aI (↑((digs V.natAbs).length):Int)),(10,.own 6 0 J 1),(11,aI j),(12,aI g)],[.flat [aF,.wd a] true,.flat [aD f,.wd f] true,.flat [.lit (.bool (!(false==decide (f<0)))),.own 3 0 b 1] true,.dead,.ints [0,0] true,.ints (e.set (j.toNat+(digs V.natAbs).length) (e.getD (j.toNat+(digs V.natAbs).length) 0+c)) true,.ints m true],[2,3,4,5,6]⟩,Loops 7 tP (kZ tP 160 2) ⟨sp 182 [(6,aI f),(7,.own 5 0 L 1),(8,.wd V),(9,aI (↑((digs V.natAbs).length):Int)),(10,.own 6 0 J 1),(11,aI j),(12,aI g)],[.flat [aF,.wd a] true,.flat [aD f,.wd f] true,.flat [.lit (.bool (!(false==decide (f<0)))),.own 3 0 b 1] true,.dead,.ints [0,0] true,.ints (e.set (j.toNat+(digs V.natAbs).length) (e.getD (j.toNat+(digs V.natAbs).length) 0+c)) true,.ints m true],[2,3,4,5,6]⟩ (Ex.exit 4,⟨sp 182 [(6,aI f),(7,.own 5 0 L 1),(8,.wd V),(9,aI (↑((digs V.natAbs).length):Int)),(10,.own 6 0 J 1),(11,aI j),(12,aI d)],[.flat [aF,.wd a] true,.flat [aD f,.wd f] true,.flat [.lit (.bool (!(false==decide (f<0)))),.own 3 0 b 1] true,.dead,.ints [0,0] true,.ints l true,.ints m true],[2,3,4,5,6]⟩),decide (0≤j)=true,decide (j<(J:Int))=true,decide (0+j.toNat*1<m.length)=true,inR .i64 (j-1)=true]:={}
theorem loX_0 (a f:Int) (b:Nat) (V:Int) (L J:Nat) (j:Int) (u c:List Int):RndI (eZ tP zmt bw [103,143]) 60 (kZ tP 160 0) 7 [] [6,7,8,9,10,11] [2,3,4,5,6] (LO a f b V L J j u c) [0] [] [1] (Ex.exit 0) (⟨sp 182 [(6,aI f),(7,.own 5 0 L 1),(8,.wd V),(9,aI (↑((digs V.natAbs).length):Int)),(10,.own 6 0 J 1),(11,aI j)],[.flat [aF,.wd a] true,.flat [aD f,.wd f] true,.flat [.lit (.bool (!(false==decide (f<0)))),.own 3 0 b 1] true,.dead,.ints [0,0] true,.ints u true,.ints c true],[2,3,4,5,6]⟩) [decide (j≥0)=false]:={}
end
theorem pFl {n:Int} (h1:-9223372036854775808≤n) (h2:n≤9223372036854775807):cZ n:=⟨h1,h2⟩
theorem zpv:(eZ tP zmt bw [103,143]).OK:=JZ znu
def Dg (u:List Int) (p:Nat):Prop:=∀q,q≠p→0≤u.getD q 0∧u.getD q 0<100000000
theorem Dg.of {u:List Int} (h:Digs u) (p:Nat):Dg u p:=fun q _=>GZ h q
theorem Dg.digs {u:List Int} {p:Nat} (h:Dg u p) (h0:0≤u.getD p 0) (h1:u.getD p 0<100000000):Digs u:=by
 intro d hd
 obtain ⟨q,hq,rfl⟩:=List.getElem_of_mem hd
 have e:u.getD q 0=u[q]:=by simp [List.getD,hq]
 by_cases hp:q=p
 ·simp_all
 ·rw [← e];exact h q hp
theorem getD_set (u:List Int) (i q:Nat) (v:Int) (h:i<u.length):(u.set i v).getD q 0=if q=i then v else u.getD q 0:=by
 grind
theorem Dg.set {u:List Int} {p:Nat} (h:Dg u p) (i:Nat) {v:Int} (hi:i<u.length) (h0:0≤v) (h1:v<100000000):Dg (u.set i v) p:=by
 intro q hq
 rw [getD_set _ _ _ _ hi]
 split
 ·exact ⟨h0,h1⟩
 ·exact h q hq
theorem Dg.top {u:List Int} {p:Nat} (h:Dg u p) (v:Int):Dg (u.set p v) p:=by
 intro q hq
 rw [IZ _ _ _ _ hq]
 exact h q hq
theorem zna {u u':List Int} {j:Nat} (hl:u'.length=u.length) (h:∀p,p<j→u'.getD p 0=u.getD p 0):u'.take j=u.take j:=by
 apply List.ext_getElem
 ·simp [hl]
 ·intro i h1 h2
  simp only [List.length_take] at h1
  have:=h i (by omega)
  grind
theorem drop_eq {u u':List Int} {j:Nat} (hl:u'.length=u.length) (h:∀p,j≤p→u'.getD p 0=u.getD p 0):u'.drop j=u.drop j:=by
 apply List.ext_getElem
 ·simp [hl]
 ·intro i h1 h2
  simp only [List.length_drop] at h1
  have:=h (j+i) (by omega)
  grind
theorem zcK (u:List Int) (j:Nat) (h:j≤u.length):vl u=vl (u.take j)+100000000 ^ j*vl (u.drop j):=by
 have:=zaK (u.take j) (u.drop j)
 simp_all
theorem zio (u:List Int) (j n:Nat) (h:j+n≤u.length):vl (u.drop j)=vl ((u.drop j).take n)+100000000 ^ n*vl (u.drop (j+n)):=by
 have:=zcK (u.drop j) n (by simp;omega)
 simp_all
theorem ziQ {j:Nat} {a b:Int} (h:100000000 ^ j*a=100000000 ^ j*b):a=b:=
 Int.eq_of_mul_eq_mul_left (Int.ne_of_gt (pow_pos j)) h
theorem subL (a f:Int) (n2:Nat) (V:Int) (L J j:Nat) (g:Int) (out:List Int) (hL:L≤4194304) (hj:j+(digs V.natAbs).length<L) (hg0:0≤g) (hg1:g<100000000) :
 ∀(r i:Nat) (u:List Int) (c:Int),i+r=(digs V.natAbs).length→Digs u→u.length=L→-100000000≤c→c≤0 →
 ∃(u2:List Int) (c2:Int),Digs u2∧u2.length=L∧-100000000≤c2∧c2≤0∧vl u2+100000000 ^ (j+(digs V.natAbs).length)*c2=vl u+100000000 ^ (j+i)*(c-g*vl ((digs V.natAbs).drop i)) ∧
  (∀p,j+(digs V.natAbs).length≤p→u2.getD p 0=u.getD p 0)∧(∀p,p<j→u2.getD p 0=u.getD p 0) ∧
  Loops 7 tP (kZ tP 160 1) (LSb a f n2 V L J j g c i u out) (.exit 2,LSb a f n2 V L J j g c2 ((digs V.natAbs).length:Int) u2 out)
 | 0,i,u,c,hi,hd,hl,hc0,hc1=>by
  obtain rfl:i=(digs V.natAbs).length:=by omega
  refine ⟨u,c,hd,hl,hc0,hc1,?_,fun _ _=>rfl,fun _ _=>rfl,Loops.fin (LS.of zpv (loS_1 a f n2 V L J j g c ((digs V.natAbs).length:Int) u out) (by(repeat' (first | exact AllC.nil | refine AllC.cons ?_ ?_));all_goals (first | exact CU.h {} | (simp []<;>omega) | assumption | rfl))) (by simp [Ex.toExit])⟩
  rw [List.drop_length];simp [vl]
 | r + 1,i,u,c,hi,hd,hl,hc0,hc1=>by
  have hnat:0+Int.toNat ((i:Int)+(j:Int))*1=j+i:=by omega
  have hin:Int.toNat (i:Int)=i:=by omega
  have hib:i<(digs V.natAbs).length:=by omega
  obtain ⟨hy0,hy1⟩:=GZ (oZ V.natAbs) i
  obtain ⟨hx0,hx1⟩:=GZ hd (j+i)
  obtain ⟨hm0,hm1⟩:=mul_dig hg0 hg1 hy0 hy1
  have hdr:=zan (digs V.natAbs) i
  have e2:∀t,t=u.getD (j+i) 0-g*(digs V.natAbs).getD i 0+c →
   c-g*((digs V.natAbs).getD i 0+100000000*vl ((digs V.natAbs).drop (i+1)))=(t % 100000000-u.getD (j+i) 0)+100000000*(t / 100000000-g*vl ((digs V.natAbs).drop (i+1))):=by
   intro t ht
   rw [Int.mul_add g,Int.mul_left_comm g 100000000]
   generalize g*(digs V.natAbs).getD i 0=m at *
   omega
  generalize hm:g*(digs V.natAbs).getD i 0=m at *
  have h:=LS.of zpv (loS_0 a f n2 V L J j g c i u out) (by
   rw [hnat,hin,hm]
   exact(by(repeat' (first | exact AllC.nil | refine AllC.cons ?_ ?_));all_goals (first | exact CU.h {} | (simp [hib,hl,cZ]<;>omega) | assumption | rfl)))
  rw [hnat,hin,hm] at h
  have hv:=zgj u (j+i) ((u.getD (j+i) 0-m+c) % 100000000) (by omega)
  have hD:Digs (u.set (j+i) ((u.getD (j+i) 0-m+c) % 100000000)):=zem hd _ (by omega) (by omega)
  obtain ⟨u2,c2,k1,k2,k3,k4,k5,k6,k7,k8⟩:=subL a f n2 V L J j g out hL hj hg0 hg1 r (i+1) (u.set (j+i) ((u.getD (j+i) 0-m+c) % 100000000)) ((u.getD (j+i) 0-m+c) / 100000000)
   (by omega) hD (by simp;omega) (by omega) (by omega)
  have e:((i+1:Nat):Int)=(i:Int)+1:=by omega
  rw [e] at k8
  refine ⟨u2,c2,k1,k2,k3,k4,?_,fun p hp=>(k6 p hp).trans (IZ _ _ _ _ (by omega)),fun p hp=>(k7 p hp).trans (IZ _ _ _ _ (by omega)),Loops.go h k8⟩
  rw [k5,hv,hdr,← Nat.add_assoc,Int.pow_succ,e2 _ rfl,alg1,Int.add_assoc]
theorem addL (a f:Int) (n2:Nat) (V:Int) (L J j:Nat) (g:Int) (out:List Int) (hL:L≤4194304) (hj:j+(digs V.natAbs).length<L) :
 ∀(r i:Nat) (u:List Int) (c:Int),i+r=(digs V.natAbs).length→Dg u (j+(digs V.natAbs).length)→u.length=L→(c=0∨c=1) →
 ∃(u2:List Int) (c2:Int),Dg u2 (j+(digs V.natAbs).length)∧u2.length=L∧(c2=0∨c2=1)∧vl u2+100000000 ^ (j+(digs V.natAbs).length)*c2=vl u+100000000 ^ (j+i)*(c+vl ((digs V.natAbs).drop i)) ∧
  (∀p,j+(digs V.natAbs).length≤p→u2.getD p 0=u.getD p 0)∧(∀p,p<j→u2.getD p 0=u.getD p 0) ∧
  Loops 7 tP (kZ tP 160 3) (LA a f n2 V L J j g c i u out) (.exit 6,LA a f n2 V L J j g c2 ((digs V.natAbs).length:Int) u2 out)
 | 0,i,u,c,hi,hd,hl,hc=>by
  obtain rfl:i=(digs V.natAbs).length:=by omega
  refine ⟨u,c,hd,hl,hc,?_,fun _ _=>rfl,fun _ _=>rfl,Loops.fin (LS.of zpv (loA_1 a f n2 V L J j g c ((digs V.natAbs).length:Int) u out) (by(repeat' (first | exact AllC.nil | refine AllC.cons ?_ ?_));all_goals (first | exact CU.h {} | (simp []<;>omega) | assumption | rfl))) (by simp [Ex.toExit])⟩
  rw [List.drop_length];simp [vl]
 | r + 1,i,u,c,hi,hd,hl,hc=>by
  have hnat:0+Int.toNat ((i:Int)+(j:Int))*1=j+i:=by omega
  have hin:Int.toNat (i:Int)=i:=by omega
  have hib:i<(digs V.natAbs).length:=by omega
  obtain ⟨hy0,hy1⟩:=GZ (oZ V.natAbs) i
  obtain ⟨hx0,hx1⟩:=hd (j+i) (by omega)
  have hdr:=zan (digs V.natAbs) i
  have h:=LS.of zpv (loA_0 a f n2 V L J j g c i u out) (by
   rw [hnat,hin]
   exact(by(repeat' (first | exact AllC.nil | refine AllC.cons ?_ ?_));all_goals (first | exact CU.h {} | (simp [hib,hl,cZ]<;>omega) | assumption | rfl)))
  rw [hnat,hin] at h
  have hv:=zgj u (j+i) ((u.getD (j+i) 0+(digs V.natAbs).getD i 0+c) % 100000000) (by omega)
  have hD:Dg (u.set (j+i) ((u.getD (j+i) 0+(digs V.natAbs).getD i 0+c) % 100000000)) (j+(digs V.natAbs).length):=hd.set _ (by omega) (by omega) (by omega)
  obtain ⟨u2,c2,k1,k2,k3,k5,k6,k7,k8⟩:=addL a f n2 V L J j g out hL hj r (i+1) (u.set (j+i) ((u.getD (j+i) 0+(digs V.natAbs).getD i 0+c) % 100000000)) ((u.getD (j+i) 0+(digs V.natAbs).getD i 0+c) / 100000000)
   (by omega) hD (by simp;omega) (by omega)
  have e:((i+1:Nat):Int)=(i:Int)+1:=by omega
  rw [e] at k8
  refine ⟨u2,c2,k1,k2,k3,?_,fun p hp=>(k6 p hp).trans (IZ _ _ _ _ (by omega)),fun p hp=>(k7 p hp).trans (IZ _ _ _ _ (by omega)),Loops.go h k8⟩
  rw [k5,hv,hdr,← Nat.add_assoc,Int.pow_succ]
  have e2:c+((digs V.natAbs).getD i 0+100000000*vl ((digs V.natAbs).drop (i+1)))=((u.getD (j+i) 0+(digs V.natAbs).getD i 0+c) % 100000000-u.getD (j+i) 0)+100000000*((u.getD (j+i) 0+(digs V.natAbs).getD i 0+c) / 100000000+vl ((digs V.natAbs).drop (i+1))):=by omega
  rw [e2,alg1,Int.add_assoc]
theorem zcy {n:Nat} {t:Int} (h:1≤t):(100000000:Int) ^ n≤100000000 ^ n*t:=by
 have:=Int.mul_le_mul_of_nonneg_left h (zn6 n)
 rwa [Int.mul_one] at this
theorem zeI {n:Nat} {t:Int} (h:t≤-1):(100000000:Int) ^ n*t≤- 100000000 ^ n:=by
 have:=Int.mul_le_mul_of_nonneg_left h (zn6 n)
 omega
theorem zhu (V:Int):(V.natAbs:Int)<100000000 ^ (digs V.natAbs).length:=by
 have:=zfW (oZ V.natAbs)
 rwa [XZ] at this
theorem window {u:List Int} {j n:Nat} (h:j+n<u.length) (hd:Dg u (j+n)) (hz:vl (u.drop (j+n+1))=0) :
 ∃low,0≤low∧low<100000000 ^ n∧vl (u.drop j)=low+100000000 ^ n*u.getD (j+n) 0:=by
 have hD:Digs ((u.drop j).take n):=by
  intro d hd'
  obtain ⟨q,hq,rfl⟩:=List.getElem_of_mem hd'
  simp only [List.length_take,List.length_drop] at hq
  have hq2:j+q<u.length:=by omega
  rw [List.getElem_take,List.getElem_drop]
  have:=hd (j+q) (by omega)
  simp_all
 refine ⟨vl ((u.drop j).take n),FZ hD,?_,?_⟩
 ·have:=zfW hD
  grind
 ·rw [zio u j n (by omega),zan u (j+n),hz,Int.mul_zero,Int.add_zero]
theorem corL (a f:Int) (n2:Nat) (V:Int) (L J j:Nat) (out:List Int) (hL:L≤4194304) (hj:j+(digs V.natAbs).length<L) (U:Int) (hU:0≤U) :
    ∀(k:Nat) (g:Int) (u:List Int),g≤k→0≤g→g<100000000→Dg u (j+(digs V.natAbs).length)→u.length=L→vl (u.drop (j+(digs V.natAbs).length+1))=0 →
      vl (u.drop j)=U-g*(V.natAbs:Int)→U<(g+1)*(V.natAbs:Int)→-100000000≤u.getD (j+(digs V.natAbs).length) 0→u.getD (j+(digs V.natAbs).length) 0≤100000000 →
    ∃(g2:Int) (u2:List Int),0≤g2∧g2<100000000∧Digs u2∧u2.length=L∧(∀q,q<j→u2.getD q 0=u.getD q 0)∧vl (u2.drop j)=U-g2*(V.natAbs:Int)∧vl (u2.drop j)<(V.natAbs:Int) ∧
      Loops 7 tP (kZ tP 160 2) (LC a f n2 V L J j g u out) (.exit 4,LC a f n2 V L J j g2 u2 out):=by
  intro k
  induction k with
  | zero =>
    intro g u hgk hg0 hg1 hd hl hz hH hUg hb1 hb2
    obtain rfl:g=0:=by omega
    obtain ⟨low,hl0,hl1,hw⟩:=window (by omega) hd hz
    have hnat:0+Int.toNat ((j:Int)+((digs V.natAbs).length:Int))*1=j+(digs V.natAbs).length:=by omega
    have hVB:=zhu V
    rw [Int.zero_mul,Int.sub_zero] at hH
    have htop:u.getD (j+(digs V.natAbs).length) 0=0:=by
      rcases Int.lt_or_le (u.getD (j+(digs V.natAbs).length) 0) 0 with h | h
      · have:=zeI (n:=(digs V.natAbs).length) (show u.getD (j+(digs V.natAbs).length) 0≤-1 by omega)
        omega
      · rcases Int.lt_or_le 0 (u.getD (j+(digs V.natAbs).length) 0) with h2 | h2
        · have:=zcy (n:=(digs V.natAbs).length) (show 1≤u.getD (j+(digs V.natAbs).length) 0 by omega)
          omega
        · omega
    have h:=LS.of zpv (loD_0 a f n2 V L J j 0 u out) (by
      rw [hnat]
      exact(by(repeat' (first | exact AllC.nil | refine AllC.cons ?_ ?_));all_goals (first | exact CU.h {} | (simp [hl]<;>omega) | assumption | rfl)))
    refine ⟨0,u,by omega,by omega,hd.digs (by omega) (by omega),hl,fun _ _=>rfl,by rw [hH];omega,by omega,Loops.fin h (by simp [Ex.toExit])⟩
  | succ k ih=>
    intro g u hgk hg0 hg1 hd hl hz hH hUg hb1 hb2
    obtain ⟨low,hl0,hl1,hw⟩:=window (by omega) hd hz
    have hnat:0+Int.toNat ((j:Int)+((digs V.natAbs).length:Int))*1=j+(digs V.natAbs).length:=by omega
    have hVB:=zhu V
    have hexp:(g+1)*(V.natAbs:Int)=g*(V.natAbs:Int)+(V.natAbs:Int):=by rw [Int.add_mul,Int.one_mul]
    have hgV:0≤g*(V.natAbs:Int):=Int.mul_nonneg hg0 (by omega)
    rcases Int.lt_or_le (u.getD (j+(digs V.natAbs).length) 0) 0 with hneg | hpos
    · have hn:=zeI (n:=(digs V.natAbs).length) (show u.getD (j+(digs V.natAbs).length) 0≤-1 by omega)
      have hg1':1≤g:=by
        rcases Int.lt_or_le g 1 with h | h
        · have:g=0:=by omega
          subst this
          rw [Int.zero_mul] at hH
          omega
        · exact h
      obtain ⟨u2,c2,k1,k2,k3,k5,k6,k7,k8⟩:=addL a f n2 V L J j (g-1) out hL hj (digs V.natAbs).length 0 u 0 (by omega) hd hl (.inl rfl)
      have k8':Loops 7 tP (kZ tP 160 3) (LA a f n2 V L J j (g-1) 0 0 u out) (.exit 6,LA a f n2 V L J j (g-1) c2 ((digs V.natAbs).length:Int) u2 out):=k8
      have ht2:=k6 (j+(digs V.natAbs).length) (Nat.le_refl _)
      have h:=LS.of zpv (loC_0 a f n2 V L J j g c2 ((digs V.natAbs).length:Int) u u2 out) (by
        rw [hnat]
        exact(by(repeat' (first | exact AllC.nil | refine AllC.cons ?_ ?_));all_goals (first | exact CU.h {} | (simp [hl,k2]<;>omega) | assumption | rfl)))
      rw [hnat] at h
      have hv:=zgj u2 (j+(digs V.natAbs).length) (u2.getD (j+(digs V.natAbs).length) 0+c2) (by omega)
      generalize hu3:u2.set (j+(digs V.natAbs).length) (u2.getD (j+(digs V.natAbs).length) 0+c2)=u3 at *
      have hl3:u3.length=L:=by rw [← hu3];simp [k2]
      have hlow3:∀q,q<j→u3.getD q 0=u.getD q 0:=fun q hq=>by
        rw [← hu3,IZ _ _ _ _ (by omega)];exact k7 q hq
      have hhigh3:vl (u3.drop (j+(digs V.natAbs).length+1))=0:=by
        rw [drop_eq (u:=u) (by rw [hl3,hl]) (fun q hq=>by
          rw [← hu3,IZ _ _ _ _ (by omega)];exact k6 q (by omega))]
        exact hz
      have htop3:u3.getD (j+(digs V.natAbs).length) 0=u.getD (j+(digs V.natAbs).length) 0+c2:=by
        rw [← hu3,zcs _ _ _ (by omega),ht2]
      have hd3:Dg u3 (j+(digs V.natAbs).length):=by rw [← hu3];exact k1.top _
      have hH3:vl (u3.drop j)=U-(g-1)*(V.natAbs:Int):=by
        have s1:=zcK u j (by omega)
        have s3:=zcK u3 j (by omega)
        rw [zna (by rw [hl3,hl]) hlow3] at s3
        have e1:u2.getD (j+(digs V.natAbs).length) 0+c2-u2.getD (j+(digs V.natAbs).length) 0=c2:=by omega
        rw [e1,k5,Nat.add_zero,Int.zero_add,List.drop_zero,XZ] at hv
        have:(100000000:Int) ^ j*vl (u3.drop j)=100000000 ^ j*(vl (u.drop j)+(V.natAbs:Int)):=by rw [Int.mul_add];omega
        rw [ziQ this,hH,Int.sub_mul,Int.one_mul];omega
      obtain ⟨g2,u4,m1,m2,m3,m4,m5,m6,m7,m8⟩:=ih (g-1) u3 (by omega) (by omega) (by omega) hd3 hl3 hhigh3 hH3 (by
        have:g-1+1=g:=by omega
        rw [this];omega) (by rw [htop3];omega) (by rw [htop3];omega)
      exact ⟨g2,u4,m1,m2,m3,m4,fun q hq=>(m5 q hq).trans (hlow3 q hq),m6,m7,Loops.go h m8⟩
    · have htop:u.getD (j+(digs V.natAbs).length) 0=0:=by
        rcases Int.lt_or_le 0 (u.getD (j+(digs V.natAbs).length) 0) with h2 | h2
        · have:=zcy (n:=(digs V.natAbs).length) (show 1≤u.getD (j+(digs V.natAbs).length) 0 by omega)
          omega
        · omega
      have h:=LS.of zpv (loD_0 a f n2 V L J j g u out) (by
        rw [hnat]
        exact(by(repeat' (first | exact AllC.nil | refine AllC.cons ?_ ?_));all_goals (first | exact CU.h {} | (simp [hl]<;>omega) | assumption | rfl)))
      exact ⟨g,u,hg0,hg1,hd.digs (by omega) (by omega),hl,fun _ _=>rfl,hH,by omega,Loops.fin h (by simp [Ex.toExit])⟩
theorem last_ne {n:Nat} (h:n≠0):0<(digs n).getD ((digs n).length-1) 0:=by
 have hd:=(GZ (oZ n) ((digs n).length-1)).1
 rcases Int.lt_or_le 0 ((digs n).getD ((digs n).length-1) 0) with h1 | h1
 ·exact h1
 ·exfalso
  have h0:(digs n).getD ((digs n).length-1) 0=0:=by omega
  have hne:digs n≠[]:=fun e=>h ((zbI n).1 e)
  have hlen:0<(digs n).length:=List.length_pos_iff.2 hne
  obtain ⟨q,d,hq⟩:∃q d,digs n=q++[d]:=by
   rcases List.eq_nil_or_concat (digs n) with e | ⟨q,d,e⟩
   ·exact absurd e hne
   simp_all
  have e:=zcI n
  rw [hq] at h0 e
  have hd0:d=0:=by simpa [List.getD] using h0
  subst hd0
  rw [zgP] at e
  have:=zfV q
  grind
theorem mainL (a f:Int) (n2:Nat) (V:Int) (L J:Nat) (hL:L≤4194304) (hV:V≠0) (hn:1≤(digs V.natAbs).length) (A:Int) :
 ∀(k:Nat) (u out:List Int),k≤J→(k=0∨k+(digs V.natAbs).length≤L)→Digs u→u.length=L→Digs out→out.length=J→(∀q,q<k→out.getD q 0=0)→vl (u.drop k)<(V.natAbs:Int) →
  vl u+(V.natAbs:Int)*vl out=A →
 ∃(u2 out2:List Int),Digs u2∧u2.length=L∧Digs out2∧out2.length=J∧vl u2<(V.natAbs:Int)∧vl u2+(V.natAbs:Int)*vl out2=A ∧
  Loops 7 tP (kZ tP 160 0) (LO a f n2 V L J ((k:Int)-1) u out) (.exit 0,LO a f n2 V L J (-1) u2 out2):=by
 intro k
 induction k with
 | zero=>
  intro u out hk hkl hd hl hdo hlo hz hlt hA
  rw [List.drop_zero] at hlt
  exact ⟨u,out,hd,hl,hdo,hlo,hlt,hA,Loops.fin (LS.of zpv (loX_0 a f n2 V L J (-1) u out) (by(repeat' (first | exact AllC.nil | refine AllC.cons ?_ ?_));all_goals (first | exact CU.h {} | (simp []<;>omega) | assumption | rfl))) (by simp [Ex.toExit])⟩
 | succ k ih=>
  intro u out hk hkl hd hl hdo hlo hz hlt hA
  have hkl':k+1+(digs V.natAbs).length≤L:=by omega
  have hVB:=zhu V
  have ejj:((k+1:Nat):Int)-1=(k:Int):=by omega
  rw [ejj]
  have hnat:0+Int.toNat ((k:Int)+((digs V.natAbs).length:Int))*1=k+(digs V.natAbs).length:=by omega
  have hnat1:0+Int.toNat ((k:Int)+((digs V.natAbs).length:Int)-1)*1=k+(digs V.natAbs).length-1:=by omega
  have hnat2:Int.toNat (((digs V.natAbs).length:Int)-1)=(digs V.natAbs).length-1:=by omega
  have hnat3:0+Int.toNat (k:Int)*1=k:=by omega
  have hnat4:Int.toNat (k:Int)=k:=by omega
  have hx:=GZ hd k
  have hU0:0≤vl (u.drop k):=FZ (zcS hd k)
  have hU1:=zan u k
  have hhz:vl (u.drop (k+(digs V.natAbs).length+1))=0:=by
   have h1:=zio u (k+1) (digs V.natAbs).length (by omega)
   have h2:=FZ (za0 (zcS hd (k+1)) (digs V.natAbs).length)
   have h3:=FZ (zcS hd (k+1+(digs V.natAbs).length))
   have e:k+1+(digs V.natAbs).length=k+(digs V.natAbs).length+1:=by omega
   rw [e] at h1 h3
   rcases Int.lt_or_le 0 (vl (u.drop (k+(digs V.natAbs).length+1))) with h4 | h4
   ·have:=zcy (n:=(digs V.natAbs).length) (show 1≤vl (u.drop (k+(digs V.natAbs).length+1)) by omega)
    omega
   ·omega
  have hp0:=GZ hd (k+(digs V.natAbs).length)
  have hp1:=GZ hd (k+(digs V.natAbs).length-1)
  have hvt:=last_ne (n:=V.natAbs) (by omega)
  have hvt2:=(GZ (oZ V.natAbs) ((digs V.natAbs).length-1)).2
  obtain ⟨X,hX⟩:∃X,X=u.getD (k+(digs V.natAbs).length) 0*100000000+u.getD (k+(digs V.natAbs).length-1) 0:=⟨_,rfl⟩
  obtain ⟨vt,hvtd⟩:∃vt,vt=(digs V.natAbs).getD ((digs V.natAbs).length-1) 0:=⟨_,rfl⟩
  obtain ⟨g,hg⟩:∃g,(if 99999999<Int.tdiv X vt then 99999999 else Int.tdiv X vt)=g:=⟨_,rfl⟩
  have htd:Int.tdiv X vt=X / vt:=Int.tdiv_eq_ediv_of_nonneg (by omega)
  have hX0:0≤X / vt:=Int.ediv_nonneg (by omega) (by omega)
  have hX1:X / vt≤X:=Int.ediv_le_self _ (by omega)
  have hg0:0≤g:=by rw [← hg,htd];split<;>omega
  have hg1:g<100000000:=by rw [← hg,htd];split<;>omega
  have hUX:vl (u.drop k)<100000000 ^ ((digs V.natAbs).length-1)*(X+1):=by
   have h1:=zio u k ((digs V.natAbs).length-1) (by omega)
   have h2:=zfW (za0 (zcS hd k) ((digs V.natAbs).length-1))
   have h3:((u.drop k).take ((digs V.natAbs).length-1)).length=(digs V.natAbs).length-1:=by simp;omega
   rw [h3] at h2
   have e1:k+((digs V.natAbs).length-1)=k+(digs V.natAbs).length-1:=by omega
   have e2:k+(digs V.natAbs).length-1+1=k+(digs V.natAbs).length:=by omega
   rw [e1,zan u (k+(digs V.natAbs).length-1),e2,zan u (k+(digs V.natAbs).length),hhz] at h1
   have e3:u.getD (k+(digs V.natAbs).length-1) 0+100000000*(u.getD (k+(digs V.natAbs).length) 0+100000000*0)=X:=by omega
   rw [e3] at h1
   rw [Int.mul_add,Int.mul_one]
   omega
  have hVvt:100000000 ^ ((digs V.natAbs).length-1)*vt≤(V.natAbs:Int):=by
   have h1:=zcK (digs V.natAbs) ((digs V.natAbs).length-1) (by omega)
   have h2:=FZ (za0 (oZ V.natAbs) ((digs V.natAbs).length-1))
   have e2:(digs V.natAbs).length-1+1=(digs V.natAbs).length:=by omega
   rw [XZ,zan (digs V.natAbs) ((digs V.natAbs).length-1),e2,List.drop_length,← hvtd] at h1
   simp only [vl,Int.mul_zero,Int.add_zero] at h1
   omega
  have hUg:vl (u.drop k)<(g+1)*(V.natAbs:Int):=by
   by_cases hb:99999999<Int.tdiv X vt
   ·rw [if_pos hb] at hg
    subst hg
    omega
   ·rw [if_neg hb,htd] at hg
    have h1:=Int.lt_ediv_add_one_mul_self X (b:=vt) (by omega)
    rw [hg] at h1
    have h2:100000000 ^ ((digs V.natAbs).length-1)*(X+1)≤100000000 ^ ((digs V.natAbs).length-1)*((g+1)*vt):=Int.mul_le_mul_of_nonneg_left (by omega) (zn6 _)
    have h3:(g+1)*(100000000 ^ ((digs V.natAbs).length-1)*vt)≤(g+1)*(V.natAbs:Int):=Int.mul_le_mul_of_nonneg_left hVvt (by omega)
    rw [Int.mul_left_comm] at h2
    omega
  obtain ⟨u2,c2,k1,k2,k3,k4,k5,k6,k7,k8⟩:=subL a f n2 V L J k g out hL (by omega) hg0 hg1 (digs V.natAbs).length 0 u 0 (by omega) hd hl (by omega) (by omega)
  have k8':Loops 7 tP (kZ tP 160 1) (LSb a f n2 V L J k g 0 0 u out) (.exit 2,LSb a f n2 V L J k g c2 ((digs V.natAbs).length:Int) u2 out):=k8
  have ht2:=k6 (k+(digs V.natAbs).length) (Nat.le_refl _)
  have hv:=zgj u2 (k+(digs V.natAbs).length) (u2.getD (k+(digs V.natAbs).length) 0+c2) (by omega)
  obtain ⟨u3,hu3⟩:∃u3,u2.set (k+(digs V.natAbs).length) (u2.getD (k+(digs V.natAbs).length) 0+c2)=u3:=⟨_,rfl⟩
  rw [hu3] at hv
  have hl3:u3.length=L:=by rw [← hu3];simp [k2]
  have hlow3:∀q,q<k→u3.getD q 0=u.getD q 0:=fun q hq=>by
   rw [← hu3,IZ _ _ _ _ (by omega)];exact k7 q hq
  have hhigh3:vl (u3.drop (k+(digs V.natAbs).length+1))=0:=by
   rw [drop_eq (u:=u) (by rw [hl3,hl]) (fun q hq=>by
    rw [← hu3,IZ _ _ _ _ (by omega)];exact k6 q (by omega))]
   exact hhz
  have htop3:u3.getD (k+(digs V.natAbs).length) 0=u.getD (k+(digs V.natAbs).length) 0+c2:=by
   rw [← hu3,zcs _ _ _ (by omega),ht2]
  have hd3:Dg u3 (k+(digs V.natAbs).length):=by rw [← hu3];exact(Dg.of k1 _).top _
  have s1:=zcK u k (by omega)
  have hH3:vl (u3.drop k)=vl (u.drop k)-g*(V.natAbs:Int):=by
   have s3:=zcK u3 k (by omega)
   rw [zna (by rw [hl3,hl]) hlow3] at s3
   have e1:u2.getD (k+(digs V.natAbs).length) 0+c2-u2.getD (k+(digs V.natAbs).length) 0=c2:=by omega
   rw [e1,k5,Nat.add_zero,Int.zero_sub,List.drop_zero,XZ] at hv
   have:(100000000:Int) ^ k*vl (u3.drop k)=100000000 ^ k*(vl (u.drop k)-g*(V.natAbs:Int)):=by rw [Int.mul_sub];rw [Int.mul_neg] at hv;omega
   exact ziQ this
  obtain ⟨g2,u4,m1,m2,m3,m4,m5,m6,m7,m8⟩:=corL a f n2 V L J k out hL (by omega) (vl (u.drop k)) hU0 g.toNat g u3 (by omega) hg0 hg1 hd3 hl3 hhigh3 hH3 hUg (by rw [htop3];omega) (by rw [htop3];omega)
  have hg':=hg
  rw [htd] at hg'
  have h:=LS.of zpv (loM_0 a f n2 V L J k g g2 c2 ((digs V.natAbs).length:Int) u u2 u4 out) (by
   have hn0:(!decide (vt=0))=true:=by simp;omega
   simp only [hnat,hnat1,hnat2,hnat3,hnat4,← hX,← hvtd,htd,hg',hu3]
   rw [← hu3] at m8
   have hbd:X≤9999999999999999:=by omega
   have hXa:u.getD (k+(digs V.natAbs).length) 0*100000000≤9999999900000000:=by omega
   have hXb:0≤u.getD (k+(digs V.natAbs).length) 0*100000000:=by omega
   have hvl:0<(digs V.natAbs).length:=by omega
   rw [hu3] at m8
   exact(by(repeat' (first | exact AllC.nil | refine AllC.cons ?_ ?_));all_goals (first | exact CU.h {} | (simp [hl,k2,hlo,hvl]<;>omega) | assumption | rfl)))
  rw [hnat3] at h
  have hv2:=zgj out k g2 (by omega)
  rw [hz k (by omega),Int.sub_zero] at hv2
  have s4:=zcK u4 k (by omega)
  rw [zna (by rw [m4,hl]) (fun q hq=>(m5 q hq).trans (hlow3 q hq)),m6,Int.mul_sub] at s4
  have hA2:vl u4+(V.natAbs:Int)*vl (out.set k g2)=A:=by
   rw [hv2,Int.mul_add]
   have e:(V.natAbs:Int)*(100000000 ^ k*g2)=100000000 ^ k*(g2*(V.natAbs:Int)):=by rw [Int.mul_left_comm,Int.mul_comm (V.natAbs:Int) g2]
   rw [e]
   omega
  obtain ⟨u5,o5,p1,p2,p3,p4,p5,p6,p7⟩:=ih u4 (out.set k g2) (by omega) (by omega) m3 m4 (zem hdo _ m1 m2) (by simp;omega) (fun q hq=>by
   rw [IZ _ _ _ _ (by omega)];exact hz q (by omega)) m7 hA2
  exact ⟨u5,o5,p1,p2,p3,p4,p5,p6,Loops.go h p7⟩
noncomputable section
theorem twL_0 (c d:Bool) (a b:Int) (n:Nat) (l:List Int):RndI (eZ tP zmt bw [103,143]) 60 (kZ tP 143 0) 4 [] [0] [] (TW c d a b n l) [1,1] [] [1,2,3,4,5,6,2,3,7] (Ex.normal) (⟨sp 21 [(0,.own 3 0 ((n:Int)-1).toNat 1)],[.flat [.lit (.bool c),.wd a] true,.flat [.lit (.bool d),.wd b] true,.flat [aF,aN] true,.ints l true],[]⟩) [decide ((n:Int) > 0)=true,inR .i64 ((n:Int)-1)=true,decide (0≤(n:Int)-1)=true,decide ((n:Int)-1<(n:Int))=true,decide (0+((n:Int)-1).toNat*1<l.length)=true,(l.getD (0+((n:Int)-1).toNat*1) 0==0)=true,decide ((n:Int)-1≤(n:Int))=true]:={}
theorem twL_1 (c d:Bool) (a b:Int) (n:Nat) (l:List Int):RndI (eZ tP zmt bw [103,143]) 60 (kZ tP 143 0) 4 [] [0] [] (TW c d a b n l) [1,0] [] [1,2,3,4,5,6] (Ex.exit 0) (⟨sp 21 [(0,.own 3 0 n 1)],[.flat [.lit (.bool c),.wd a] true,.flat [.lit (.bool d),.wd b] true,.flat [aF,aN] true,.ints l true],[]⟩) [decide ((n:Int) > 0)=true,inR .i64 ((n:Int)-1)=true,decide (0≤(n:Int)-1)=true,decide ((n:Int)-1<(n:Int))=true,decide (0+((n:Int)-1).toNat*1<l.length)=true,(l.getD (0+((n:Int)-1).toNat*1) 0==0)=false]:={}
theorem twL_2 (c d:Bool) (a b:Int) (n:Nat) (l:List Int):RndI (eZ tP zmt bw [103,143]) 60 (kZ tP 143 0) 4 [] [0] [] (TW c d a b n l) [0] [] [1] (Ex.exit 0) (⟨sp 21 [(0,.own 3 0 n 1)],[.flat [.lit (.bool c),.wd a] true,.flat [.lit (.bool d),.wd b] true,.flat [aF,aN] true,.ints l true],[]⟩) [decide ((n:Int) > 0)=false]:={}
abbrev lg_2_s0 (a f V:Int) (b L J:Nat) (l:List Int):St:=⟨sp 182 [(6,aI f),(7,.own 5 0 L 1),(8,.wd V),(9,aI (↑((digs V.natAbs).length):Int)),(10,.own 6 0 J 1),(11,aI ((J:Int)-1))],[.flat [aF,.wd a] true,.flat [aD f,.wd f] true,.flat [.lit (.bool (!(false==decide (f<0)))),.own 3 0 b 1] true,.dead,.ints [0,0] true,.ints (l.take b++[0,0]) true,.ints (List.replicate J 0) true],[2,3,4,5,6]⟩
abbrev lg_2_s1 (a f:Int) (n:Nat):St:=⟨sp 86 [(2,.ref 0 0),(3,.ref 1 0),(4,.ref 2 0),(5,.own 3 0 n 1),(32,.wd a),(33,aI (↑((digs a.natAbs).length):Int)),(34,aI 0)],[.flat [aF,.wd a] true,.flat [aD f,.wd f] true,.flat [aF,aN] true,.ints (List.replicate n 0) true],[3]⟩
theorem lg_2 (a b i f V:Int) (n c L J:Nat) (l d e:List Int):FunI (eZ tP zmt bw [103,143]) 60 160 [.wd a,.wd b] [0,0] [none,some (zdZ tP (kZ tP 103 0) [] [2,3,4,5,32,33,34] [3] (TO false (decide (f<0)) a f 0 n (List.replicate n 0)) (.exit 0,TO false (decide (f<0)) a f i n l)),none,some (zdZ tP (kZ tP 143 0) [] [0] [] (TW false (decide (f<0)) a f n l) (.exit 0,TW false (decide (f<0)) a f c l)),some dmy,some (zdZ tP (kZ tP 160 0) [] [6,7,8,9,10,11] [2,3,4,5,6] (LO a f c V L J ((J:Int)-1) (l.take c++[0,0]) (List.replicate J 0)) (.exit 0,LO a f c V L J (-1) d e)),some dmy,some dmy] [1,2,3,4,5,6,7,8,9,10,11,12,13,14,15,16,17,0,18,19,20,21,0,8,22,0,23,24,25,26,27,28,29,30,31,32,33,34,35,36] (.tup [.sq (trm (e.take J)),.wd (vl (trm (d.take L)) / f)]) [inR .i64 ((↑((digs b.natAbs).length):Int)-1)=true,decide (0≤(↑((digs b.natAbs).length):Int)-1)=true,decide ((↑((digs b.natAbs).length):Int)-1<(↑((digs b.natAbs).length):Int))=true,decide (((↑((digs b.natAbs).length):Int)-1).toNat<(digs b.natAbs).length)=true,inR .i64 ((digs b.natAbs).getD ((↑((digs b.natAbs).length):Int)-1).toNat 0+1)=true,(!decide ((digs b.natAbs).getD ((↑((digs b.natAbs).length):Int)-1).toNat 0+1=0))=true,inR .i64 (Int.tdiv 100000000 ((digs b.natAbs).getD ((↑((digs b.natAbs).length):Int)-1).toNat 0+1))=true,cZ (Int.tdiv 100000000 ((digs b.natAbs).getD ((↑((digs b.natAbs).length):Int)-1).toNat 0+1)),((↑((digs a.natAbs).length):Int)==0)=false,((↑((digs (Int.tdiv 100000000 ((digs b.natAbs).getD ((↑((digs b.natAbs).length):Int)-1).toNat 0+1)).natAbs).length):Int)==0)=false,inR .i64 ((↑((digs a.natAbs).length):Int)+(↑((digs (Int.tdiv 100000000 ((digs b.natAbs).getD ((↑((digs b.natAbs).length):Int)-1).toNat 0+1)).natAbs).length):Int))=true,decide (0≤(↑((digs a.natAbs).length):Int)+(↑((digs (Int.tdiv 100000000 ((digs b.natAbs).getD ((↑((digs b.natAbs).length):Int)-1).toNat 0+1)).natAbs).length):Int))=true,decide ((↑((digs a.natAbs).length):Int)+(↑((digs (Int.tdiv 100000000 ((digs b.natAbs).getD ((↑((digs b.natAbs).length):Int)-1).toNat 0+1)).natAbs).length):Int)≤(↑((digs a.natAbs).length):Int)+(↑((digs (Int.tdiv 100000000 ((digs b.natAbs).getD ((↑((digs b.natAbs).length):Int)-1).toNat 0+1)).natAbs).length):Int))=true,decide (8*((↑((digs a.natAbs).length):Int)+(↑((digs (Int.tdiv 100000000 ((digs b.natAbs).getD ((↑((digs b.natAbs).length):Int)-1).toNat 0+1)).natAbs).length):Int))≤281474976710656)=true,decide ((↑((digs a.natAbs).length):Int)+(↑((digs (Int.tdiv 100000000 ((digs b.natAbs).getD ((↑((digs b.natAbs).length):Int)-1).toNat 0+1)).natAbs).length):Int)≤9223372036854775807)=true,(⟨sp 86 [(2,.ref 0 0),(3,.ref 1 0),(4,.ref 2 0),(5,.own 3 0 ((↑((digs a.natAbs).length):Int)+(↑((digs (Int.tdiv 100000000 ((digs b.natAbs).getD ((↑((digs b.natAbs).length):Int)-1).toNat 0+1)).natAbs).length):Int)).toNat 1),(32,.wd a),(33,aI (↑((digs a.natAbs).length):Int)),(34,aI 0)],[.flat [aF,.wd a] true,.flat [.lit (.bool (decide (Int.tdiv 100000000 ((digs b.natAbs).getD ((↑((digs b.natAbs).length):Int)-1).toNat 0+1)<0))),.wd (Int.tdiv 100000000 ((digs b.natAbs).getD ((↑((digs b.natAbs).length):Int)-1).toNat 0+1))] true,.flat [aF,aN] true,.ints (List.replicate ((↑((digs a.natAbs).length):Int)+(↑((digs (Int.tdiv 100000000 ((digs b.natAbs).getD ((↑((digs b.natAbs).length):Int)-1).toNat 0+1)).natAbs).length):Int)).toNat 0) true],[3]⟩:St)=(lg_2_s1 a f n),Loops 4 tP (kZ tP 103 0) (lg_2_s1 a f n) (Ex.exit 0,⟨sp 86 [(2,.ref 0 0),(3,.ref 1 0),(4,.ref 2 0),(5,.own 3 0 n 1),(32,.wd a),(33,aI (↑((digs a.natAbs).length):Int)),(34,aI i)],[.flat [aF,.wd a] true,.flat [aD f,.wd f] true,.flat [aF,aN] true,.ints l true],[3]⟩),Loops 4 tP (kZ tP 143 0) ⟨sp 21 [(0,.own 3 0 n 1)],[.flat [aF,.wd a] true,.flat [aD f,.wd f] true,.flat [aF,aN] true,.ints l true],[]⟩ (Ex.exit 0,⟨sp 21 [(0,.own 3 0 c 1)],[.flat [aF,.wd a] true,.flat [aD f,.wd f] true,.flat [aF,aN] true,.ints l true],[]⟩),decide ((c+2)*8≤140737488355328)=true,decide (c+2≤4611686018427387904)=true,decide (c≤l.length)=true,false=decide (b<0),pDD b (Int.tdiv 100000000 ((digs b.natAbs).getD ((↑((digs b.natAbs).length):Int)-1).toNat 0+1)),inR .i64 ((↑(c+2):Int)-(↑((digs (b*Int.tdiv 100000000 ((digs b.natAbs).getD ((↑((digs b.natAbs).length):Int)-1).toNat 0+1)).natAbs).length):Int))=true,decide (0≤if(↑(c+2):Int)-(↑((digs (b*Int.tdiv 100000000 ((digs b.natAbs).getD ((↑((digs b.natAbs).length):Int)-1).toNat 0+1)).natAbs).length):Int) > 0 then(↑(c+2):Int)-(↑((digs (b*Int.tdiv 100000000 ((digs b.natAbs).getD ((↑((digs b.natAbs).length):Int)-1).toNat 0+1)).natAbs).length):Int) else 0)=true,decide ((if(↑(c+2):Int)-(↑((digs (b*Int.tdiv 100000000 ((digs b.natAbs).getD ((↑((digs b.natAbs).length):Int)-1).toNat 0+1)).natAbs).length):Int) > 0 then(↑(c+2):Int)-(↑((digs (b*Int.tdiv 100000000 ((digs b.natAbs).getD ((↑((digs b.natAbs).length):Int)-1).toNat 0+1)).natAbs).length):Int) else 0)≤if(↑(c+2):Int)-(↑((digs (b*Int.tdiv 100000000 ((digs b.natAbs).getD ((↑((digs b.natAbs).length):Int)-1).toNat 0+1)).natAbs).length):Int) > 0 then(↑(c+2):Int)-(↑((digs (b*Int.tdiv 100000000 ((digs b.natAbs).getD ((↑((digs b.natAbs).length):Int)-1).toNat 0+1)).natAbs).length):Int) else 0)=true,decide ((8*if(↑(c+2):Int)-(↑((digs (b*Int.tdiv 100000000 ((digs b.natAbs).getD ((↑((digs b.natAbs).length):Int)-1).toNat 0+1)).natAbs).length):Int) > 0 then(↑(c+2):Int)-(↑((digs (b*Int.tdiv 100000000 ((digs b.natAbs).getD ((↑((digs b.natAbs).length):Int)-1).toNat 0+1)).natAbs).length):Int) else 0)≤281474976710656)=true,decide ((if(↑(c+2):Int)-(↑((digs (b*Int.tdiv 100000000 ((digs b.natAbs).getD ((↑((digs b.natAbs).length):Int)-1).toNat 0+1)).natAbs).length):Int) > 0 then(↑(c+2):Int)-(↑((digs (b*Int.tdiv 100000000 ((digs b.natAbs).getD ((↑((digs b.natAbs).length):Int)-1).toNat 0+1)).natAbs).length):Int) else 0)≤9223372036854775807)=true,inR .i64 ((↑((if(↑(c+2):Int)-(↑((digs (b*Int.tdiv 100000000 ((digs b.natAbs).getD ((↑((digs b.natAbs).length):Int)-1).toNat 0+1)).natAbs).length):Int) > 0 then(↑(c+2):Int)-(↑((digs (b*Int.tdiv 100000000 ((digs b.natAbs).getD ((↑((digs b.natAbs).length):Int)-1).toNat 0+1)).natAbs).length):Int) else 0).toNat):Int)-1)=true,(⟨sp 182 [(6,aI (Int.tdiv 100000000 ((digs b.natAbs).getD ((↑((digs b.natAbs).length):Int)-1).toNat 0+1))),(7,.own 5 0 (c+2) 1),(8,.wd (b*Int.tdiv 100000000 ((digs b.natAbs).getD ((↑((digs b.natAbs).length):Int)-1).toNat 0+1))),(9,aI (↑((digs (b*Int.tdiv 100000000 ((digs b.natAbs).getD ((↑((digs b.natAbs).length):Int)-1).toNat 0+1)).natAbs).length):Int)),(10,.own 6 0 (if(↑(c+2):Int)-(↑((digs (b*Int.tdiv 100000000 ((digs b.natAbs).getD ((↑((digs b.natAbs).length):Int)-1).toNat 0+1)).natAbs).length):Int) > 0 then(↑(c+2):Int)-(↑((digs (b*Int.tdiv 100000000 ((digs b.natAbs).getD ((↑((digs b.natAbs).length):Int)-1).toNat 0+1)).natAbs).length):Int) else 0).toNat 1),(11,aI ((↑((if(↑(c+2):Int)-(↑((digs (b*Int.tdiv 100000000 ((digs b.natAbs).getD ((↑((digs b.natAbs).length):Int)-1).toNat 0+1)).natAbs).length):Int) > 0 then(↑(c+2):Int)-(↑((digs (b*Int.tdiv 100000000 ((digs b.natAbs).getD ((↑((digs b.natAbs).length):Int)-1).toNat 0+1)).natAbs).length):Int) else 0).toNat):Int)-1))],[.flat [aF,.wd a] true,.flat [aD f,.wd f] true,.flat [.lit (.bool (!(false==decide (f<0)))),.own 3 0 c 1] true,.dead,.ints [0,0] true,.ints (l.take c++List.take 2 [0,0]) true,.ints (List.replicate (if(↑(c+2):Int)-(↑((digs (b*Int.tdiv 100000000 ((digs b.natAbs).getD ((↑((digs b.natAbs).length):Int)-1).toNat 0+1)).natAbs).length):Int) > 0 then(↑(c+2):Int)-(↑((digs (b*Int.tdiv 100000000 ((digs b.natAbs).getD ((↑((digs b.natAbs).length):Int)-1).toNat 0+1)).natAbs).length):Int) else 0).toNat 0) true],[2,3,4,5,6]⟩:St)=(lg_2_s0 a f V c L J l),Loops 7 tP (kZ tP 160 0) (lg_2_s0 a f V c L J l) (Ex.exit 0,⟨sp 182 [(6,aI f),(7,.own 5 0 L 1),(8,.wd V),(9,aI (↑((digs V.natAbs).length):Int)),(10,.own 6 0 J 1),(11,aI (-1))],[.flat [aF,.wd a] true,.flat [aD f,.wd f] true,.flat [.lit (.bool (!(false==decide (f<0)))),.own 3 0 c 1] true,.dead,.ints [0,0] true,.ints d true,.ints e true],[2,3,4,5,6]⟩),L≤d.length,MZ (d.take L),zgd (trm (d.take L)) f,J≤e.length,MZ (e.take J)]:={}
end
theorem zox:∀l:List Int,l.take (trm l).length=trm l
 | []=>rfl
 | d :: l=>by
  simp only [trm]
  split
  ·rfl
  ·simp [zox l]
theorem trimO (na nb:Bool) (a b:Int) (l:List Int) (hl:l.length≤4611686018427387904):∀(n:Nat),n≤l.length →
 Loops 4 tP (kZ tP 143 0) (TW na nb a b n l) (.exit 0,TW na nb a b (trm (l.take n)).length l)
 | 0,hn=>Loops.fin (LS.of zpv (twL_2 na nb a b 0 l) (by(repeat' (first | exact AllC.nil | refine AllC.cons ?_ ?_));all_goals (first | exact CU.h {} | (simp []<;>omega) | assumption | rfl))) (by simp [Ex.toExit])
 | n + 1,hn=>by
  have hnat:0+Int.toNat (((n+1:Nat):Int)-1)*1=n:=by omega
  have hnat2:Int.toNat (((n+1:Nat):Int)-1)=n:=by omega
  have hlt:n<l.length:=by omega
  have hg:l.getD n 0=l[n]:=by simp [List.getD,hlt]
  rw [List.take_succ_eq_append_getElem hlt,← hg]
  by_cases hd:l.getD n 0=0
  ·have hx:(l.getD n 0==0)=true:=by rw [hd];rfl
   have h:=LS.of zpv (twL_0 na nb a b (n+1) l) (by
    rw [hnat]
    exact(by(repeat' (first | exact AllC.nil | refine AllC.cons ?_ ?_));all_goals (first | exact CU.h {} | (simp [hx]<;>omega) | assumption | rfl)))
   rw [hnat2] at h
   rw [hd,zgP]
   exact Loops.go h (trimO na nb a b l hl n (by omega))
  ·have hx:(l.getD n 0==0)=false:=by simpa using hd
   have h:=LS.of zpv (twL_1 na nb a b (n+1) l) (by
    rw [hnat]
    exact(by(repeat' (first | exact AllC.nil | refine AllC.cons ?_ ?_));all_goals (first | exact CU.h {} | (simp [hx]<;>omega) | assumption | rfl)))
   rw [zcJ _ _ hd]
   have e:(l.take n++[l.getD n 0]).length=n+1:=by simp;omega
   rw [e]
   exact Loops.fin h (by simp [Ex.toExit])
theorem pow_mono {m n:Nat} (h:m≤n):(100000000:Int) ^ m≤100000000 ^ n:=by
 have h2:=Int.ofNat_le.2 (Nat.pow_le_pow_right (show 0<100000000 by decide) h)
 rw [Int.natCast_pow,Int.natCast_pow] at h2
 exact h2
theorem zj3 {V:Int} (h:V≠0):(100000000:Int) ^ ((digs V.natAbs).length-1)≤(V.natAbs:Int):=by
 have hp:=zbJ h
 rcases Nat.lt_or_ge V.natAbs (100000000 ^ ((digs V.natAbs).length-1)) with h1 | h1
 ·have:=zab _ _ h1
  omega
 ·have h2:=Int.ofNat_le.2 h1
  rw [Int.natCast_pow] at h2
  exact h2
theorem znM {m n:Nat} (h:m≤n):(digs m).length≤(digs n).length:=by
 rcases Nat.lt_or_ge (digs n).length (digs m).length with h1 | h1
 ·have:=zb9 h1;omega
 ·exact h1
theorem digs_one {f:Int} (h0:0<f) (h1:f<100000000):(digs f.natAbs).length=1:=by
 have h2:=zab f.natAbs 1 (by omega)
 have h3:=zbJ (show f≠0 by omega)
 omega
theorem long_nn (a b:Int) (ha:0<a) (hb:0<b) (hfa:zag a) (hfb:zag b) (h2:2≤(digs b.natAbs).length):FC tP 160 [.wd a,.wd b] (.tup [.wd (a / b),.wd (a % b)]):=by
 have hfa':=hfa
 have hfb':=hfb
 unfold zag dl at hfa' hfb'
 have hnat2:Int.toNat (((digs b.natAbs).length:Int)-1)=(digs b.natAbs).length-1:=by omega
 obtain ⟨bt,hbt⟩:∃bt,(digs b.natAbs).getD ((digs b.natAbs).length-1) 0=bt:=⟨_,rfl⟩
 have hbt0:=last_ne (n:=b.natAbs) (by omega)
 have hbt1:=(GZ (oZ b.natAbs) ((digs b.natAbs).length-1)).2
 rw [hbt] at hbt0 hbt1
 obtain ⟨f,hfd⟩:∃f,Int.tdiv 100000000 (bt+1)=f:=⟨_,rfl⟩
 have hfe:f=100000000 / (bt+1):=by rw [← hfd];exact Int.tdiv_eq_ediv_of_nonneg (by decide)
 have hf0:1≤f:=by rw [hfe];exact(Int.le_ediv_iff_mul_le (by omega)).2 (by omega)
 have hf1:f≤50000000:=by
  rw [hfe]
  have:100000000 / (bt+1)<50000001:=Int.ediv_lt_of_lt_mul (by omega) (by omega)
  omega
 have hlf:=digs_one (f:=f) (by omega) (by omega)
 have hff:zag f:=by unfold zag dl;omega
 obtain ⟨V,hVd⟩:∃V,b*f=V:=⟨_,rfl⟩
 have hVb:b≤V:=by
  have:=Int.mul_le_mul_of_nonneg_left hf0 (show 0≤b by omega)
  omega
 have hV0:V≠0:=by omega
 have hVn:(V.natAbs:Int)=V:=by omega
 have hnv:(digs b.natAbs).length≤(digs V.natAbs).length:=znM (by omega)
 have hnv2:(digs V.natAbs).length≤(digs b.natAbs).length+1:=by
  refine zab _ _ ?_
  rw [← hVd,Int.natAbs_mul,Nat.pow_succ]
  exact Nat.mul_lt_mul'' (zjD b.natAbs) (by omega)
 obtain ⟨n,hN⟩:∃n,Int.toNat (((digs a.natAbs).length:Int)+((digs f.natAbs).length:Int))=n:=⟨_,rfl⟩
 have hN2:n=(digs a.natAbs).length+(digs f.natAbs).length:=by omega
 have hpa:=zbJ (show a≠0 by omega)
 have hna:=zd8 (show a≠0 by omega)
 have hnf:=zd8 (show f≠0 by omega)
 have hz0:∀m:Nat,Digs (List.replicate m 0):=fun m d hd=>by
  have:=List.eq_of_mem_replicate hd
  omega
 have hvz:∀m:Nat,vl (List.replicate m 0)=0:=by
  intro m
  induction m with
  | zero=>rfl
  | succ m ih=>simp only [List.replicate_succ,vl,ih];rfl
 have hgz:∀m j:Nat,(List.replicate m (0:Int)).getD j 0=0:=fun m j=>by
  simp [List.getD,List.getElem?_replicate];split<;>rfl
 obtain ⟨l,k1,k2,k3,k4⟩:=timesO false (decide (f<0)) a f hfa hff n hN2 (by omega) (digs a.natAbs).length 0 (List.replicate n 0) (by omega) (hz0 n) (by simp) (fun j _=>hgz n j)
 have hvl:vl l=a*f:=by
  rw [k3,hvz,List.drop_zero,XZ,Int.pow_zero,Int.one_mul,Int.zero_add]
  rw [show(a.natAbs:Int)=a by omega,show(f.natAbs:Int)=f by omega]
 have k4o:Loops 4 tP (kZ tP 103 0) (TO false (decide (f<0)) a f 0 n (List.replicate n 0)) (.exit 0,TO false (decide (f<0)) a f ((digs a.natAbs).length:Int) n l):=k4
 have hT:=trimO false (decide (f<0)) a f l (by omega) n (by omega)
 have hln:l.take n=l:=by rw [← k2];exact zar l
 rw [hln] at hT
 obtain ⟨n2,hn2⟩:∃n2,(trm l).length=n2:=⟨_,rfl⟩
 rw [hn2] at hT
 have hn2l:n2≤l.length:=by rw [← hn2];exact zfV l
 have htk:l.take n2=trm l:=by rw [← hn2];exact zox l
 obtain ⟨J,hJ⟩:∃J,Int.toNat (if((n2+2:Nat):Int)-((digs V.natAbs).length:Int) > 0 then((n2+2:Nat):Int)-((digs V.natAbs).length:Int) else 0)=J:=⟨_,rfl⟩
 have hJ2:J=n2+2-(digs V.natAbs).length:=by rw [← hJ];split<;>omega
 have hDu:Digs (l.take n2++[0,0]):=by
  rw [htk]
  intro d hd
  rcases List.mem_append.1 hd with h | h
  ·exact k1.trm d h
  ·simp at h;subst h;omega
 have hvu:vl (l.take n2++[0,0])=a*f:=by
  rw [zaK,htk,vl_trm,hvl];simp [vl]
 have hlu:(l.take n2++[(0:Int),0]).length=n2+2:=by simp;omega
 have hwin:vl ((l.take n2++[(0:Int),0]).drop J)<(V.natAbs:Int):=by
  have hJle:J≤(l.take n2).length:=by simp;omega
  rw [List.drop_append_of_le_length hJle,zaK]
  have h1:=zfW (zcS (za0 k1 n2) J)
  have h2:((l.take n2).drop J).length≤(digs V.natAbs).length-1:=by simp;omega
  have h3:=pow_mono h2
  have h4:=zj3 hV0
  simp only [vl,Int.mul_zero,Int.add_zero]
  omega
 obtain ⟨u2,o2,p1,p2,p3,p4,p5,p6,p7⟩:=mainL a f n2 V (n2+2) J (by omega) hV0 (by omega) (a*f) J (l.take n2++[0,0]) (List.replicate J 0) (Nat.le_refl _) (by omega) hDu hlu (hz0 J) (by simp) (fun q _=>hgz J q) hwin (by rw [hvz,hvu];simp)
 have e1:List.take (n2+2) u2=u2:=by rw [← p2];exact zar u2
 have e2:List.take J o2=o2:=by rw [← p4];exact zar o2
 have hpd:pDD b f:=⟨hfb,hff⟩
 have hps:zgd (trm u2) f:=⟨p1.trm,by have:=zfV u2;omega,by omega,by omega⟩
 have hbn:false=decide (b<0):=by simp;omega
 have hpf:cZ f:=⟨by omega,by omega⟩
 have hb0:(!decide (bt+1=0))=true:=by simp;omega
 have:=lZ zpv (lg_2 a b ((digs a.natAbs).length:Int) f V n n2 (n2+2) J l u2 o2) (by
  simp only [hnat2,hbt,hfd,hVd,hN,hJ,e1,e2]
  have hif:(if((n2+2:Nat):Int)-((digs V.natAbs).length:Int) > 0 then((n2+2:Nat):Int)-((digs V.natAbs).length:Int) else 0)=(J:Int):=by
   rw [← hJ];split<;>omega
  simp only [hif]
  exact(by(repeat' (first | exact AllC.nil | refine AllC.cons ?_ ?_));all_goals (first | exact CU.h {} | (simp [hna,hnf,p2,p4,MZ]<;>omega) | assumption | rfl)))
 rw [e1,e2] at this
 rw [hVn] at p5 p6
 have hu0:=FZ p1
 have hmul:V*vl o2=b*(f*vl o2):=by rw [← hVd,Int.mul_assoc]
 have hdiv:a / b=vl o2:=by
  rw [← Int.mul_ediv_mul_of_pos_left a b (show 0<f by omega),hVd,← p6,Int.add_mul_ediv_left _ _ hV0,Int.ediv_eq_zero_of_lt hu0 p5,Int.zero_add]
 have hmod:f*(a % b)=vl u2:=by
  rw [← Int.mul_emod_mul_of_pos a b (show 0<f by omega),Int.mul_comm f a,Int.mul_comm f b,hVd,← p6,Int.add_mul_emod_self_left,Int.emod_eq_of_lt hu0 p5]
 have ho0:=FZ p3
 refine this.res fun E v hv=>hv.tup2 (fun u hu=>hu.toWd rfl ?_) (fun u hu=>?_)
 ·rw [zas p3,hdiv];congr 1;omega
 ·have:vl (trm u2) / f=a % b:=by rw [vl_trm,← hmod];exact Int.mul_ediv_cancel_left _ (by omega)
  rw [this] at hu
  exact hu
theorem Rd.natAbs {E:Env} {a b:Int} {v:Value} (h:a.natAbs=b.natAbs) (hr:Rd E (.wd a) v):Rd E (.wd b) v:=hr.toWd (l:=digs a.natAbs) rfl (by rw [h])
def zpA (a b:Int):Prop:=a≠0∧zag a∧zag b∧2≤(digs b.natAbs).length
theorem long_fc (a b:Int) (h:zpA a b):FC tP 160 [.wd a,.wd b] (.tup [.wd ((a.natAbs:Int) / (b.natAbs:Int)),.wd ((a.natAbs:Int) % (b.natAbs:Int))]):=by
 obtain ⟨h0,h1,h2,h3⟩:=h
 have hb0:b≠0:=by
  rintro rfl
  simp [QZ] at h3
 have h1':zag (a.natAbs:Int):=by unfold zag dl at *;simpa using h1
 have h2':zag (b.natAbs:Int):=by unfold zag dl at *;simpa using h2
 exact(long_nn (a.natAbs:Int) (b.natAbs:Int) (by omega) (by omega) h1' h2' (by simpa using h3)).arg2 (fun E v h=>Rd.natAbs (by simp) h) (fun E v h=>Rd.natAbs (by simp) h)
def zrU:Ctr:=(160,cDD zpA (fun a b=>.tup [.wd ((a.natAbs:Int) / (b.natAbs:Int)),.wd ((a.natAbs:Int) % (b.natAbs:Int))])) :: zmt
theorem znv:∀p∈zrU,jZ tP p.1 p.2:=CAll.cons (cDD_ok long_fc) znu
theorem ok9:(eZ tP zrU bw).OK:=JZ znv
noncomputable section
theorem ov_0 (c d:Bool) (a b:Int):FunI (eZ tP zrU bw) 60 124 [.agg [.lit (.bool c),.wd a],.agg [.lit (.bool d),.wd b]] [1,1,1,1] [] [1,2,3,4,5,0,0,6,5,0,0,6,0,7,0,8,0,9,0,0,0] (.tup [.agg [.lit (.bool (!(c==d))),.wd 1],.agg [.lit (.bool (decide (b + -a<0))),.wd (b + -a)]]) [pDD a b,decide (zcR (a.natAbs:Int) (b.natAbs:Int)<0)=true,c=true,decide ((↑((digs a.natAbs).length):Int) > 0)=true,cZ 1,pDD 0 1,false=decide (a<0),false=decide (b<0),pDD b (-a)]:={}
theorem ov_2 (c d:Bool) (a b:Int):FunI (eZ tP zrU bw) 60 124 [.agg [.lit (.bool c),.wd a],.agg [.lit (.bool d),.wd b]] [1,0,0] [] [1,2,3,0,0,0] (.tup [.agg [.ff,aN],.agg [aF,.wd a]]) [pDD a b,decide (zcR (a.natAbs:Int) (b.natAbs:Int)<0)=true,c=false]:={}
theorem ov_3 (c d:Bool) (a b:Int):FunI (eZ tP zrU bw) 60 124 [.agg [.lit (.bool c),.wd a],.agg [.lit (.bool d),.wd b]] [0,1,1,1,1] [] [1,2,3,0,4,5,6,7,8,9,10,11,0,12,10,11,0,12,0,0,0,13,0,14,15,0,0] (.tup [.agg [.lit (.bool (!(c==d))),.wd (vl (digs a.natAbs) / (digs b.natAbs).getD 0 0+1)],.agg [.lit (.bool (decide (b + -(vl (digs a.natAbs) % (digs b.natAbs).getD 0 0)<0))),.wd (b + -(vl (digs a.natAbs) % (digs b.natAbs).getD 0 0))]]) [pDD a b,decide (zcR (a.natAbs:Int) (b.natAbs:Int)<0)=false,((↑((digs b.natAbs).length):Int)==1)=true,decide (0<(↑((digs b.natAbs).length):Int))=true,decide (0<(digs b.natAbs).length)=true,zgd (digs a.natAbs) ((digs b.natAbs).getD 0 0),cZ (vl (digs a.natAbs) % (digs b.natAbs).getD 0 0),c=true,decide ((↑((digs (vl (digs a.natAbs) % (digs b.natAbs).getD 0 0).natAbs).length):Int) > 0)=true,cZ 1,false=decide (vl (digs a.natAbs) / (digs b.natAbs).getD 0 0<0),pDD (vl (digs a.natAbs) / (digs b.natAbs).getD 0 0) 1,false=decide (b<0),pDD b (-(vl (digs a.natAbs) % (digs b.natAbs).getD 0 0)),decide ((↑((digs (vl (digs a.natAbs) / (digs b.natAbs).getD 0 0+1).natAbs).length):Int) > 0)=true]:={}
theorem ov_5 (c d:Bool) (a b:Int):FunI (eZ tP zrU bw) 60 124 [.agg [.lit (.bool c),.wd a],.agg [.lit (.bool d),.wd b]] [0,1,1,0,1] [] [1,2,3,0,4,5,6,7,8,9,10,0,0] (.tup [.agg [.lit (.bool (!(c==d))),.wd (vl (digs a.natAbs) / (digs b.natAbs).getD 0 0)],.agg [.lit (.bool (decide (vl (digs a.natAbs) % (digs b.natAbs).getD 0 0<0))),.wd (vl (digs a.natAbs) % (digs b.natAbs).getD 0 0)]]) [pDD a b,decide (zcR (a.natAbs:Int) (b.natAbs:Int)<0)=false,((↑((digs b.natAbs).length):Int)==1)=true,decide (0<(↑((digs b.natAbs).length):Int))=true,decide (0<(digs b.natAbs).length)=true,zgd (digs a.natAbs) ((digs b.natAbs).getD 0 0),cZ (vl (digs a.natAbs) % (digs b.natAbs).getD 0 0),c=true,decide ((↑((digs (vl (digs a.natAbs) % (digs b.natAbs).getD 0 0).natAbs).length):Int) > 0)=false,decide ((↑((digs (vl (digs a.natAbs) / (digs b.natAbs).getD 0 0).natAbs).length):Int) > 0)=true]:={}
theorem ov_7 (c d:Bool) (a b:Int):FunI (eZ tP zrU bw) 60 124 [.agg [.lit (.bool c),.wd a],.agg [.lit (.bool d),.wd b]] [0,1,0,1] [] [1,2,3,0,4,5,6,7,8,9,0,0] (.tup [.agg [.lit (.bool (!(c==d))),.wd (vl (digs a.natAbs) / (digs b.natAbs).getD 0 0)],.agg [.lit (.bool (decide (vl (digs a.natAbs) % (digs b.natAbs).getD 0 0<0))),.wd (vl (digs a.natAbs) % (digs b.natAbs).getD 0 0)]]) [pDD a b,decide (zcR (a.natAbs:Int) (b.natAbs:Int)<0)=false,((↑((digs b.natAbs).length):Int)==1)=true,decide (0<(↑((digs b.natAbs).length):Int))=true,decide (0<(digs b.natAbs).length)=true,zgd (digs a.natAbs) ((digs b.natAbs).getD 0 0),cZ (vl (digs a.natAbs) % (digs b.natAbs).getD 0 0),c=false,decide ((↑((digs (vl (digs a.natAbs) / (digs b.natAbs).getD 0 0).natAbs).length):Int) > 0)=true]:={}
theorem ov_9 (c d:Bool) (a b:Int):FunI (eZ tP zrU bw) 60 124 [.agg [.lit (.bool c),.wd a],.agg [.lit (.bool d),.wd b]] [0,0,1,1,1] [] [1,2,3,4,5,6,7,8,0,9,7,8,0,9,0,10,0,11,0,12,13,0,0] (.tup [.agg [.lit (.bool (!(c==d))),.wd ((a.natAbs:Int) / (b.natAbs:Int)+1)],.agg [.lit (.bool (decide (b + -((a.natAbs:Int) % (b.natAbs:Int))<0))),.wd (b + -((a.natAbs:Int) % (b.natAbs:Int)))]]) [pDD a b,decide (zcR (a.natAbs:Int) (b.natAbs:Int)<0)=false,((↑((digs b.natAbs).length):Int)==1)=false,zpA a b,c=true,decide ((↑((digs ((a.natAbs:Int) % (b.natAbs:Int)).natAbs).length):Int) > 0)=true,cZ 1,false=decide ((a.natAbs:Int) / (b.natAbs:Int)<0),pDD ((a.natAbs:Int) / (b.natAbs:Int)) 1,false=decide ((a.natAbs:Int) % (b.natAbs:Int)<0),false=decide (b<0),pDD b (-((a.natAbs:Int) % (b.natAbs:Int))),decide ((↑((digs ((a.natAbs:Int) / (b.natAbs:Int)+1).natAbs).length):Int) > 0)=true]:={}
theorem ov_11 (c d:Bool) (a b:Int):FunI (eZ tP zrU bw) 60 124 [.agg [.lit (.bool c),.wd a],.agg [.lit (.bool d),.wd b]] [0,0,1,0,1] [] [1,2,3,4,5,6,7,0,0] (.tup [.agg [.lit (.bool (!(c==d))),.wd ((a.natAbs:Int) / (b.natAbs:Int))],.agg [aF,.wd ((a.natAbs:Int) % (b.natAbs:Int))]]) [pDD a b,decide (zcR (a.natAbs:Int) (b.natAbs:Int)<0)=false,((↑((digs b.natAbs).length):Int)==1)=false,zpA a b,c=true,decide ((↑((digs ((a.natAbs:Int) % (b.natAbs:Int)).natAbs).length):Int) > 0)=false,decide ((↑((digs ((a.natAbs:Int) / (b.natAbs:Int)).natAbs).length):Int) > 0)=true]:={}
theorem ov_13 (c d:Bool) (a b:Int):FunI (eZ tP zrU bw) 60 124 [.agg [.lit (.bool c),.wd a],.agg [.lit (.bool d),.wd b]] [0,0,0,1] [] [1,2,3,4,5,6,0,0] (.tup [.agg [.lit (.bool (!(c==d))),.wd ((a.natAbs:Int) / (b.natAbs:Int))],.agg [aF,.wd ((a.natAbs:Int) % (b.natAbs:Int))]]) [pDD a b,decide (zcR (a.natAbs:Int) (b.natAbs:Int)<0)=false,((↑((digs b.natAbs).length):Int)==1)=false,zpA a b,c=false,decide ((↑((digs ((a.natAbs:Int) / (b.natAbs:Int)).natAbs).length):Int) > 0)=true]:={}
theorem cmpW_0 (a b:Int):FunI (eZ tP zrU bw) 60 121 [W a,W b] [] [] [0,0,0,0,1,0,0] (aI (a + -b).sign) [pDD a (-b)]:={}
end
theorem zcr {a b:Int} (h:zag b) (hab:a.natAbs≤b.natAbs):zag a:=by
 unfold zag dl at *
 have:=znM hab
 omega
theorem fits1:zag 1:=by unfold zag dl;decide
theorem Rd_sgW {E:Env} {s:Bool} {m z:Int} {v:Value} (hs:s=decide (z<0)) (hm:m.natAbs=z.natAbs) (h:Rd E (.agg [.lit (.bool s),.wd m]) v):Rd E (W z) v:=
 h.toW (l:=digs m.natAbs) rfl rfl hs (by rw [hm])
theorem over_nn (na nb:Bool) (a b:Int) (ha:0≤a) (hb:0<b) (hna:na=true→0<a) (hfa:zag a) (hfb:zag b) :
 FC tP 124 [.agg [.lit (.bool na),.wd a],.agg [.lit (.bool nb),.wd b]]
  (.tup [W ((if na then -a else a) / (if nb then -b else b)),W ((if na then -a else a) % (if nb then -b else b))]):=by
 have haa:(a.natAbs:Int)=a:=by omega
 have hbb:(b.natAbs:Int)=b:=by omega
 have hQ0:0≤a / b:=Int.ediv_nonneg ha (by omega)
 have hR0:0≤a % b:=Int.emod_nonneg _ (by omega)
 have hR1:a % b<b:=Int.emod_lt_of_pos _ hb
 have hdm:=Int.mul_ediv_add_emod a b
 have hQle:a / b≤a:=Int.ediv_le_self _ ha
 have hfQ:zag (a / b):=zcr hfa (by omega)
 have hfR:zag (a % b):=zcr hfb (by omega)
 have hP:pDD a b:=⟨hfa,hfb⟩
 have hP1:pDD (a / b) 1:=⟨hfQ,fits1⟩
 have hqn:false=decide (a / b<0):=by simp;omega
 have hrn:false=decide (a % b<0):=by simp;omega
 have hbn:false=decide (b<0):=by simp;omega
 have han:false=decide (a<0):=by simp;omega
 have hpf1:cZ 1:=by unfold cZ;decide
 have hvla:vl (digs a.natAbs)=a:=by rw [XZ,haa]
 have hfR2:zag (-(a % b)):=zcr hfb (by omega)
 have hP3:pDD b (-(a % b)):=⟨hfb,hfR2⟩
 have hpos:(a / b=a / b)∧True:=⟨rfl,trivial⟩
 have neg1:0<a % b→(-a) / b = -(a / b+1)∧(-a) % b=b-a % b:=fun h=>
  (Int.ediv_emod_unique hb).2 ⟨by rw [Int.mul_neg,Int.mul_add,Int.mul_one];omega,by omega,by omega⟩
 have neg0:a % b=0→(-a) / b = -(a / b)∧(-a) % b=0:=fun h=>
  (Int.ediv_emod_unique hb).2 ⟨by rw [Int.mul_neg];omega,by omega,by omega⟩
 have fin : ∀(s:Bool) (m r:Int),0≤m→(m=0→s=false)→(if na then -a else a) / b=(if na then -m else m)→(if na then -a else a) % b=r→(s=(!(na==nb))∨m=0) →
  ∀(E:Env) (v:Value) (sr:Bool),sr=decide (r<0)→Rd E (.tup [.agg [.lit (.bool s),.wd m],.agg [.lit (.bool sr),.wd r]]) v →
   Rd E (.tup [W ((if na then -a else a) / (if nb then -b else b)),W ((if na then -a else a) % (if nb then -b else b))]) v:=by
  intro s m r hm hm0 h1 h2 hs E v sr hsr hv
  refine hv.tup2 (fun u hu=>Rd_sgW ?_ ?_ hu) (fun u hu=>Rd_sgW ?_ ?_ hu)
  ·by_cases hmz:m=0
   ·rw [hm0 hmz]
    cases nb
    ·simp only [Bool.false_eq_true,if_false]
     rw [h1,hmz];cases na<;>simp
    ·simp only [if_true]
     rw [Int.ediv_neg,h1,hmz];cases na<;>simp
   ·rcases hs with hs | hs
    ·rw [hs]
     cases nb
     ·simp only [Bool.false_eq_true,if_false]
      rw [h1];cases na<;>simp<;>omega
     ·simp only [if_true]
      rw [Int.ediv_neg,h1];cases na<;>simp<;>omega
    ·exact absurd hs hmz
  ·cases nb
   ·simp only [Bool.false_eq_true,if_false]
    rw [h1];cases na<;>simp
   ·simp only [if_true]
    rw [Int.ediv_neg,h1];cases na<;>simp
  ·cases nb
   ·simp only [Bool.false_eq_true,if_false];rw [h2];exact hsr
   ·simp only [if_true];rw [Int.emod_neg,h2];exact hsr
  ·cases nb
   ·simp only [Bool.false_eq_true,if_false];rw [h2]
   ·simp only [if_true];rw [Int.emod_neg,h2]
 have hsr0:∀r:Int,0≤r→false=decide (r<0):=fun r h=>by simp;omega
 by_cases hab:a<b
 ·-- the dividend is the smaller one
  have hq:a / b=0:=Int.ediv_eq_zero_of_lt ha hab
  have hr:a % b=a:=Int.emod_eq_of_lt ha hab
  have hcmp:zcR a b = -1:=by unfold zcR;rw [if_pos hab]
  cases na with
  | true=>
   have ha0:=hna rfl
   have hp:=zbJ (show a≠0 by omega)
   have hP0:pDD 0 1:=⟨zcr fits1 (by decide),fits1⟩
   have hfa2:zag (-a):=zcr hfa (by omega)
   have hP4:pDD b (-a):=⟨hfb,hfa2⟩
   have:=lZ ok9 (ov_0 true nb a b) (by
    rw [haa,hbb,hcmp]
    exact(by(repeat' (first | exact AllC.nil | refine AllC.cons ?_ ?_));all_goals (first | exact CU.h {} | (simp []<;>omega) | assumption | rfl)))
   have h1:=neg1 (by omega)
   rw [hq,hr] at h1
   refine this.res fun E v hv=>fin _ 1 (b + -a) (by omega) (by omega) (by simpa using h1.1) (by simpa using (by have:=h1.2;omega:(-a) % b=b + -a)) (.inl rfl) E v _ rfl hv
  | false=>
   have:=lZ ok9 (ov_2 false nb a b) (by
    rw [haa,hbb,hcmp]
    exact(by(repeat' (first | exact AllC.nil | refine AllC.cons ?_ ?_));all_goals (first | exact CU.h {} | (simp []<;>omega) | assumption | rfl)))
   refine this.res fun E v hv=>fin false 0 a (by omega) (fun _=>rfl) (by simpa using hq) (by simpa using hr) (.inr rfl) E v false (hsr0 a ha) ?_
   exact hv.tup2 (fun u hu=>hu.agg2 (fun w hw=>by cases hw;exact .lit _) (fun w hw=>hw.toWd (l:=[]) rfl rfl)) (fun u hu=>hu)
 ·have hcmp:decide (zcR a b<0)=false:=by unfold zcR;rw [if_neg hab];split<;>rfl
  have hQ1:1≤a / b:=(Int.le_ediv_iff_mul_le hb).2 (by omega)
  have hQp:=zbJ (show a / b≠0 by omega)
  have hQp1:=zbJ (show a / b+1≠0 by omega)
  by_cases h1:(digs b.natAbs).length=1
  ·-- one digit
   have hd0:(digs b.natAbs).getD 0 0=b:=by
    have hv:=XZ b.natAbs
    match hq:digs b.natAbs,h1 with
    | [d],_=>rw [hq] at hv;simp only [vl] at hv;show d=b;omega
   have hbd:=(GZ (oZ b.natAbs) 0).2
   rw [hd0] at hbd
   have hps:zgd (digs a.natAbs) b:=⟨oZ _,by unfold zag dl at hfa;omega,hb,by omega⟩
   have hpf:cZ (a % b):=⟨by omega,by omega⟩
   cases na with
   | true=>
    by_cases hr:a % b=0
    ·have hrz:(digs (a % b).natAbs).length=0:=by rw [hr];rfl
     have:=lZ ok9 (ov_5 true nb a b) (by
      simp only [haa,hbb,hcmp,hvla,hd0]
      exact(by(repeat' (first | exact AllC.nil | refine AllC.cons ?_ ?_));all_goals (first | exact CU.h {} | (simp [h1]<;>omega) | assumption | rfl)))
     simp only [hvla,hd0] at this
     have h2:=neg0 hr
     refine this.res fun E v hv=>fin _ (a / b) (a % b) hQ0 (by omega) (by simpa using h2.1) (by rw [hr];simpa using h2.2) (.inl rfl) E v _ rfl hv
    ·have hrp:=zbJ hr
     have:=lZ ok9 (ov_3 true nb a b) (by
      simp only [haa,hbb,hcmp,hvla,hd0]
      exact(by(repeat' (first | exact AllC.nil | refine AllC.cons ?_ ?_));all_goals (first | exact CU.h {} | (simp [h1]<;>omega) | assumption | rfl)))
     simp only [hvla,hd0] at this
     have h2:=neg1 (by omega)
     refine this.res fun E v hv=>fin _ (a / b+1) (b + -(a % b)) (by omega) (by omega) (by simpa using h2.1) (by have:=h2.2;simp only [if_true];omega) (.inl rfl) E v _ rfl hv
   | false=>
    have:=lZ ok9 (ov_7 false nb a b) (by
     simp only [haa,hbb,hcmp,hvla,hd0]
     exact(by(repeat' (first | exact AllC.nil | refine AllC.cons ?_ ?_));all_goals (first | exact CU.h {} | (simp [h1]<;>omega) | assumption | rfl)))
    simp only [hvla,hd0] at this
    refine this.res fun E v hv=>fin _ (a / b) (a % b) hQ0 (by omega) (by simp) (by simp) (.inl rfl) E v _ rfl hv
  ·have hpb:=zbJ (show b≠0 by omega)
   have hpl:zpA a b:=⟨by omega,hfa,hfb,by omega⟩
   cases na with
   | true=>
    by_cases hr:a % b=0
    ·have hrz:(digs (a % b).natAbs).length=0:=by rw [hr];rfl
     have:=lZ ok9 (ov_11 true nb a b) (by
      simp only [haa,hbb,hcmp]
      exact(by(repeat' (first | exact AllC.nil | refine AllC.cons ?_ ?_));all_goals (first | exact CU.h {} | (simp [h1]<;>omega) | assumption | rfl)))
     simp only [haa,hbb] at this
     have h2:=neg0 hr
     refine this.res fun E v hv=>fin _ (a / b) (a % b) hQ0 (by omega) (by simpa using h2.1) (by rw [hr];simpa using h2.2) (.inl rfl) E v _ hrn hv
    ·have hrp:=zbJ hr
     have:=lZ ok9 (ov_9 true nb a b) (by
      simp only [haa,hbb,hcmp]
      exact(by(repeat' (first | exact AllC.nil | refine AllC.cons ?_ ?_));all_goals (first | exact CU.h {} | (simp [h1]<;>omega) | assumption | rfl)))
     simp only [haa,hbb] at this
     have h2:=neg1 (by omega)
     refine this.res fun E v hv=>fin _ (a / b+1) (b + -(a % b)) (by omega) (by omega) (by simpa using h2.1) (by have:=h2.2;simp only [if_true];omega) (.inl rfl) E v _ rfl hv
   | false=>
    have:=lZ ok9 (ov_13 false nb a b) (by
     simp only [haa,hbb,hcmp]
     exact(by(repeat' (first | exact AllC.nil | refine AllC.cons ?_ ?_));all_goals (first | exact CU.h {} | (simp [h1]<;>omega) | assumption | rfl)))
    simp only [haa,hbb] at this
    refine this.res fun E v hv=>fin _ (a / b) (a % b) hQ0 (by omega) (by simp) (by simp) (.inl rfl) E v _ hrn hv
end Go.Proofs.YtagbldogmjhdpaaGreatDoor
end
section
open Go Go.Ev
namespace Go.Proofs.YtagbldogmjhdpaaGreatDoor
open Go.Proofs
abbrev GC (a b:Int):St:=⟨sp 20 [(2,.ref 0 0),(3,.ref 1 0),(4,.ref 2 0)],[.flat [.lit (.bool (decide (a<0))),.wd a] true,.flat [.lit (.bool (decide (b<0))),.wd b] true,.flat [.lit (.bool false),.lit (.slice none 0 0)] true],[0,1]⟩
def zfL (a b:Int):Prop:=b≠0∧zag a∧zag b
instance tstOver {a b:Int}:Tst (zfL a b):=inferInstanceAs (Tst (b≠0∧zag a∧zag b))
theorem hpos (x:Int) (h:decide (x<0)=true):0<(x.natAbs:Int):=by
 have:x<0:=by simpa using h
 omega
theorem over_fc (x y:Int) (h:zfL x y):FC tP 124 [W x,W y] (.tup [W (x / y),W (x % y)]):=by
 obtain ⟨hy,hx,hfy⟩:=h
 have:=over_nn (decide (x<0)) (decide (y<0)) (x.natAbs:Int) (y.natAbs:Int) (by omega) (by omega) (fun h=>hpos x h) (zcr hx (by simp)) (zcr hfy (by simp))
 have e1:(if decide (x<0)=true then -(x.natAbs:Int) else(x.natAbs:Int))=x:=by
  by_cases h:x<0
  ·rw [if_pos (by simpa using h)];omega
  ·rw [if_neg (by simpa using h)];omega
 have e2:(if decide (y<0)=true then -(y.natAbs:Int) else(y.natAbs:Int))=y:=by
  by_cases h:y<0
  ·rw [if_pos (by simpa using h)];omega
  ·rw [if_neg (by simpa using h)];omega
 rw [e1,e2] at this
 exact this.arg2 (fun E v h=>h.agg2 (fun _ h=>h) (fun _ h=>Rd.natAbs (by simp) h)) (fun E v h=>h.agg2 (fun _ h=>h) (fun _ h=>Rd.natAbs (by simp) h))
theorem cmpW_fc (a b:Int) (h:pDD a b):FC tP 121 [W a,W b] (lI (a-b).sign):=by
 have hb:pDD a (-b):=⟨h.1,zcr h.2 (by omega)⟩
 have:=lZ ok9 (cmpW_0 a b) (by(repeat' (first | exact AllC.nil | refine AllC.cons ?_ ?_));all_goals (first | exact viaL_ok | exact CU.h {} | (simp []<;>omega) | assumption | rfl))
 rw [show a + -b=a-b by omega] at this
 exact this
def zoU:Ctr:=(124,c2 zfL (fun a b=>.tup [W (a / b),W (a % b)])) :: (121,c2 pDD (fun a b=>lI (a-b).sign)) :: zrU
theorem zkJ:∀p∈zoU,jZ tP p.1 p.2:=CAll.cons (c2_ok over_fc)<|CAll.cons (c2_ok cmpW_fc) znv
theorem ok10:(eZ tP zoU bw).OK:=JZ zkJ
end Go.Proofs.YtagbldogmjhdpaaGreatDoor
end
section
open Go Go.Ev Go.RowKit
namespace Go.Proofs.YtagbldogmjhdpaaGreatDoor
open Go.Proofs
set_option maxRecDepth 100000
set_option maxHeartbeats 1000000
set_option linter.unusedVariables false
set_option linter.unusedSimpArgs false
noncomputable section
theorem gcL_0 (a b:Int):RndI (eZ tP zoU bw) 60 (kZ tP 158 0) 3 [] [2,3,4] [0,1] (GC a b) [1] [] [0,0,1,0,0,2] (Ex.normal) (⟨sp 20 [(2,.ref 0 0),(3,.ref 1 0),(4,.ref 2 0)],[.flat [aD b,.wd b] true,.flat [.lit (.bool (decide (a % b<0))),.wd (a % b)] true,.flat [aF,aN] true],[0,1]⟩) [(b.sign != 0)=true,zfL a b]:={}
theorem gcL_1 (a b:Int):RndI (eZ tP zoU bw) 60 (kZ tP 158 0) 3 [] [2,3,4] [0,1] (GC a b) [0] [] [0,0,1] (Ex.exit 0) (⟨sp 20 [(2,.ref 0 0),(3,.ref 1 0),(4,.ref 2 0)],[.flat [aD a,.wd a] true,.flat [aD b,.wd b] true,.flat [aF,aN] true],[0,1]⟩) [(b.sign != 0)=false]:={}
theorem gcf_0 (a b g:Int):FunI (eZ tP zoU bw) 60 158 [W a,W b] [] [some (zdZ tP (kZ tP 158 0) [] [2,3,4] [0,1] (GC a b) (.exit 0,GC g 0))] [0,1] (.agg [.ff,.wd g]) [Loops 3 tP (kZ tP 158 0) ⟨sp 20 [(2,.ref 0 0),(3,.ref 1 0),(4,.ref 2 0)],[.flat [aD a,.wd a] true,.flat [aD b,.wd b] true,.flat [aF,aN] true],[0,1]⟩ (Ex.exit 0,⟨sp 20 [(2,.ref 0 0),(3,.ref 1 0),(4,.ref 2 0)],[.flat [aD g,.wd g] true,.flat [aF,.wd 0] true,.flat [aF,aN] true],[0,1]⟩)]:={}
end
theorem gcd_step (a b:Int):Int.gcd b (a % b)=Int.gcd a b:=by
 have h:=Int.mul_ediv_add_emod a b
 refine Nat.dvd_antisymm (Int.dvd_gcd ?_ ?_) (Int.dvd_gcd ?_ ?_)
 ·have h1:=Int.gcd_dvd_left b (a % b)
  have h2:=Int.gcd_dvd_right b (a % b)
  have h3:=Int.dvd_add (Int.dvd_mul_of_dvd_left (c:=a / b) h1) h2
  rwa [h] at h3
 ·exact Int.gcd_dvd_left b (a % b)
 ·exact Int.gcd_dvd_right a b
 ·have h1:=Int.gcd_dvd_left a b
  have h2:=Int.gcd_dvd_right a b
  have h3:=Int.dvd_sub h1 (Int.dvd_mul_of_dvd_left (c:=a / b) h2)
  have e:a-b*(a / b)=a % b:=by omega
  rwa [e] at h3
theorem gcdL:∀(m:Nat) (a b:Int),b.natAbs≤m→zag a→zag b →
    ∃g:Int,g.natAbs=Int.gcd a b∧Loops 3 tP (kZ tP 158 0) (GC a b) (.exit 0,GC g 0):=by
  intro m
  induction m with
  | zero=>
    intro a b hb ha hfb
    obtain rfl:b=0:=by omega
    exact ⟨a,(Int.gcd_zero_right a).symm,Loops.fin (LS.of ok10 (gcL_1 a 0) (by(repeat' (first | exact AllC.nil | refine AllC.cons ?_ ?_));all_goals (first | exact CU.h {} | (simp []<;>omega) | assumption | rfl))) (by simp [Ex.toExit])⟩
  | succ m ih=>
    intro a b hb ha hfb
    by_cases h0:b=0
    · subst h0
      exact ⟨a,(Int.gcd_zero_right a).symm,Loops.fin (LS.of ok10 (gcL_1 a 0) (by(repeat' (first | exact AllC.nil | refine AllC.cons ?_ ?_));all_goals (first | exact CU.h {} | (simp []<;>omega) | assumption | rfl))) (by simp [Ex.toExit])⟩
    · have hs:(Int.sign b != 0)=true:=by
        rw [bne_iff_ne];intro h;exact h0 (Int.sign_eq_zero_iff_zero.1 h)
      have hp:zfL a b:=⟨h0,ha,hfb⟩
      have h:=LS.of ok10 (gcL_0 a b) (by(repeat' (first | exact AllC.nil | refine AllC.cons ?_ ?_));all_goals (first | exact CU.h {} | (simp []<;>omega) | assumption | rfl))
      have hr0:=Int.emod_nonneg a h0
      have hr1:a % b<b.natAbs:=Int.emod_lt a h0
      obtain ⟨g,h1,h2⟩:=ih b (a % b) (by omega) hfb (zcr hfb (by omega))
      exact ⟨g,by rw [h1,gcd_step],Loops.go h h2⟩
theorem common_fc (a b:Int) (h:pDD a b):FC tP 158 [W a,W b] (W (Int.gcd a b:Int)):=by
 obtain ⟨g,h1,h2⟩:=gcdL b.natAbs a b (Nat.le_refl _) h.1 h.2
 have:=lZ ok10 (gcf_0 a b g) (.cons h2 .nil)
 exact this.res fun E v hv=>hv.toW (b:=false) (l:=digs g.natAbs) rfl rfl (by simp) (by rw [h1];simp)
def zaL:Ctr:=(158,c2 pDD (fun a b=>W (Int.gcd a b:Int))) :: zoU
theorem zes:∀p∈zaL,jZ tP p.1 p.2:=CAll.cons (c2_ok common_fc) zkJ
theorem zhv:(eZ tP zaL bw).OK:=JZ zes
abbrev RT (l:List Int) (n:Int):St:=⟨sp 23 [(0,.sq l),(3,lI n)],[],[]⟩
noncomputable section
theorem rsp_0 (n:Int):FunI (eZ tP zaL bw) 60 170 [lI n] [1] [] [0,1,0,2,3,4] (.tup [aI (Int.tdiv n 100000000-1),aI (Int.tmod n 100000000+100000000)]) [inR .i64 (Int.tdiv n 100000000)=true,decide (Int.tmod n 100000000<0)=true,inR .i64 (Int.tdiv n 100000000-1)=true,inR .i64 (Int.tmod n 100000000+100000000)=true]:={}
theorem rsp_1 (n:Int):FunI (eZ tP zaL bw) 60 170 [lI n] [0] [] [0,1,0,2] (.tup [aI (Int.tdiv n 100000000),aI (Int.tmod n 100000000)]) [inR .i64 (Int.tdiv n 100000000)=true,decide (Int.tmod n 100000000<0)=false]:={}
theorem rtl_0 (l:List Int) (n:Int):RndI (eZ tP zaL bw) 60 (kZ tP 171 0) 0 [] [0,3] [] (RT l n) [1,1] [] [1,2,3,4,5,6,2] (Ex.normal) (⟨sp 23 [(0,.sq l),(3,aI (n-1))],[],[]⟩) [decide (n > 0)=true,inR .i64 (n-1)=true,decide (0≤n-1)=true,decide (n-1<(l.length:Int))=true,decide ((n-1).toNat<l.length)=true,(l.getD (n-1).toNat 0==0)=true]:={}
theorem rtl_1 (l:List Int) (n:Int):RndI (eZ tP zaL bw) 60 (kZ tP 171 0) 0 [] [0,3] [] (RT l n) [1,0] [] [1,2,3,4,5,6] (Ex.exit 0) (⟨sp 23 [(0,.sq l),(3,aI n)],[],[]⟩) [decide (n > 0)=true,inR .i64 (n-1)=true,decide (0≤n-1)=true,decide (n-1<(l.length:Int))=true,decide ((n-1).toNat<l.length)=true,(l.getD (n-1).toNat 0==0)=false]:={}
theorem rtl_2 (l:List Int) (n:Int):RndI (eZ tP zaL bw) 60 (kZ tP 171 0) 0 [] [0,3] [] (RT l n) [0] [] [1] (Ex.exit 0) (⟨sp 23 [(0,.sq l),(3,aI n)],[],[]⟩) [decide (n > 0)=false]:={}
theorem rtf_0 (l:List Int) (n:Int):FunI (eZ tP zaL bw) 60 171 [.sq l] [] [some (zdZ tP (kZ tP 171 0) [] [0,3] [] (RT l (l.length:Int)) (.exit 0,RT l n))] [0,1,0,2,3,4,5,0,6,7] (.sq ((List.take 0 []++(l.take n.toNat).drop 0).take (0+((l.take n.toNat).drop 0).length))) [Loops 0 tP (kZ tP 171 0) ⟨sp 23 [(0,.sq l),(3,aI (l.length:Int))],[],[]⟩ (Ex.exit 0,⟨sp 23 [(0,.sq l),(3,aI n)],[],[]⟩),decide (0≤n)=true,decide (n≤(l.length:Int))=true,decide ((0+((l.take n.toNat).drop 0).length)*8≤140737488355328)=true,decide (0+((l.take n.toNat).drop 0).length≤4611686018427387904)=true,decide (((l.take n.toNat).drop 0).length=((l.take n.toNat).drop 0).length)=true,0+((l.take n.toNat).drop 0).length≤(List.take 0 []++(l.take n.toNat).drop 0).length]:={}
end
theorem rsplit_fc (n:Int) (h:cZ n):FC tP 170 [lI n] (zgB n):=by
  obtain ⟨h1,h2⟩:=h
  have ht:=Int.mul_tdiv_add_tmod n 100000000
  by_cases hn:Int.tmod n 100000000<0
  · have hp:n<0:=by
      rcases Int.lt_or_le n 0 with h | h
      · exact h
      · have:=Int.tmod_nonneg 100000000 h;omega
    have hb:-100000000<Int.tmod n 100000000:=by
      have:=Int.lt_tmod_of_pos n (show(0:Int)<100000000 by decide);omega
    have e1:Int.tdiv n 100000000-1=n / 100000000:=by omega
    have e2:Int.tmod n 100000000+100000000=n % 100000000:=by omega
    have:=lZ zhv (rsp_0 n) (.cons (inR64.2 (by omega)) (.cons (by simpa using hn) (.cons (inR64.2 (by omega)) (.cons (inR64.2 (by omega)) .nil))))
    rw [e1,e2] at this
    exact this
  · have hb:Int.tmod n 100000000<100000000:=Int.tmod_lt_of_pos n (by decide)
    have e1:Int.tdiv n 100000000=n / 100000000:=by omega
    have e2:Int.tmod n 100000000=n % 100000000:=by omega
    have:=lZ zhv (rsp_1 n) (.cons (inR64.2 (by omega)) (.cons (by simpa using hn) .nil))
    rw [e1,e2] at this
    exact this
theorem zei (l:List Int) (hs:l.length≤1048576):∀(n:Nat),n≤l.length→∃m:Nat,m≤n∧l.take m=trm (l.take n)∧Loops 0 tP (kZ tP 171 0) (RT l n) (.exit 0,RT l m)
 | 0,_=>⟨0,Nat.le_refl _,by simp [trm],Loops.fin (LS.of zhv (rtl_2 l 0) (.cons (by simp) .nil)) (by simp [Ex.toExit])⟩
 | n + 1,hn=>by
  have hnat:Int.toNat (((n+1:Nat):Int)-1)=n:=by omega
  have hc:((n+1:Nat):Int)-1=(n:Int):=by omega
  have hlt:n<l.length:=by omega
  have hg:l.getD n 0=l[n]:=by simp [List.getD,hlt]
  by_cases hd:l.getD n 0=0
  ·have hx:(l.getD n 0==0)=true:=by rw [hd];rfl
   obtain ⟨m,h1,h2,h3⟩:=zei l hs n (by omega)
   have h:=LS.of zhv (rtl_0 l (n+1:Nat)) (by rw [hnat];(repeat' (first | exact AllC.nil | refine AllC.cons ?_ ?_));all_goals (first | (with_reducible exact hx) | (with_reducible exact inR64.2 (by omega)) | (refine decide_eq_true ?_;omega)))
   rw [hc] at h
   refine ⟨m,by omega,?_,Loops.go h h3⟩
   rw [List.take_succ_eq_append_getElem hlt,← hg,hd,zgP,h2]
  ·have hx:(l.getD n 0==0)=false:=by simpa using hd
   have h:=LS.of zhv (rtl_1 l (n+1:Nat)) (by rw [hnat];(repeat' (first | exact AllC.nil | refine AllC.cons ?_ ?_));all_goals (first | (with_reducible exact hx) | (with_reducible exact inR64.2 (by omega)) | (refine decide_eq_true ?_;omega)))
   refine ⟨n+1,Nat.le_refl _,?_,Loops.fin h (by simp [Ex.toExit])⟩
   rw [List.take_succ_eq_append_getElem hlt,← hg,zcJ _ _ hd]
def pTr (l:List Int):Prop:=l.length≤1048576
theorem rtrim_fc (l:List Int) (h:pTr l):FC tP 171 [.sq l] (.sq (trm l)):=by
 obtain ⟨m,h1,h2,h3⟩:=zei l h l.length (Nat.le_refl _)
 rw [List.take_length] at h2
 have hn:Int.toNat (m:Int)=m:=by omega
 have e:=rtf_0 l m
 rw [hn] at e
 have:=lZ zhv e (by(repeat' (first | exact AllC.nil | refine AllC.cons ?_ ?_));all_goals (first | (with_reducible exact viaL_ok) | (with_reducible exact h3) | (with_reducible rfl) | (unfold pTr at h;refine decide_eq_true ?_;simp<;>omega) | (unfold pTr at h;simp<;>omega) | (simp;done)))
 have e2:List.take (0+List.length (List.drop 0 (List.take m l))) (List.take 0 []++List.drop 0 (List.take m l))=trm l:=by simp [h2]
 rw [e2] at this
 exact this
def zmu:Ctr:=(171,cL pTr (fun x=>.sq (trm x))) :: (170,cI cZ zgB) :: zaL
theorem zkO:∀p∈zmu,jZ tP p.1 p.2:=CAll.cons (zjt rtrim_fc)<|CAll.cons (cI_ok rsplit_fc) zes
theorem okF1o:(eZ tP zmu bw [171]).OK:=JZ zkO
abbrev RG (b:Bool) (n:Nat) (q:List Int) (i:Int):St:=⟨sp 27 [(1,.lit (.bool b)),(5,.own 1 0 n 1),(6,lI i)],[.dead,.ints q true],[1,0]⟩
noncomputable section
theorem rsl_0 (b:Bool) (n:Nat) (q:List Int) (i:Int):RndI (eZ tP zmu bw [171]) 60 (kZ tP 167 0) 2 [] [1,5,6] [1,0] (RG b n q i) [1,1] [] [1,2,3,1,4,5,3,1,4,6] (Ex.normal) (⟨sp 27 [(1,.lit (.bool b)),(5,.own 1 0 n 1),(6,aI (i+1))],[.dead,.ints (q.set (0+i.toNat*1) (0-q.getD (0+i.toNat*1) 0)) true],[1,0]⟩) [decide (i<(n:Int))=true,b=true,decide (0≤i)=true,decide (0+i.toNat*1<q.length)=true,inR .i64 (0-q.getD (0+i.toNat*1) 0)=true,inR .i64 (i+1)=true]:={}
theorem rsl_1 (b:Bool) (n:Nat) (q:List Int) (i:Int):RndI (eZ tP zmu bw [171]) 60 (kZ tP 167 0) 2 [] [1,5,6] [1,0] (RG b n q i) [1,0] [] [1,2] (Ex.exit 0) (⟨sp 27 [(1,.lit (.bool b)),(5,.own 1 0 n 1),(6,aI i)],[.dead,.ints q true],[1,0]⟩) [decide (i<(n:Int))=true,b=false]:={}
theorem rsl_2 (b:Bool) (n:Nat) (q:List Int) (i:Int):RndI (eZ tP zmu bw [171]) 60 (kZ tP 167 0) 2 [] [1,5,6] [1,0] (RG b n q i) [0] [] [1] (Ex.exit 0) (⟨sp 27 [(1,.lit (.bool b)),(5,.own 1 0 n 1),(6,aI i)],[.dead,.ints q true],[1,0]⟩) [decide (i<(n:Int))=false]:={}
theorem rsf_0 (l:List Int) (n N:Nat) (b:Bool) (q:List Int) (i:Int):FunI (eZ tP zmu bw [171]) 60 167 [.sq l,.lit (.bool b)] [] [none,some (zdZ tP (kZ tP 171 0) [] [0,3] [] (RT l (l.length:Int)) (.exit 0,RT l n)),some (zdZ tP (kZ tP 167 0) [] [1,5,6] [1,0] (RG b N (l.take n) 0) (.exit 0,RG b N q i))] [0,1,0,0,2,3,4,0,5,6,7,8] (.sq (q.take N)) [Loops 0 tP (kZ tP 171 0) ⟨sp 23 [(0,.sq l),(3,aI (l.length:Int))],[],[]⟩ (Ex.exit 0,⟨sp 23 [(0,.sq l),(3,aI (n:Int))],[],[]⟩),decide ((n:Int)≤(l.length:Int))=true,decide ((0+((l.take (n:Int).toNat).drop 0).length)*8≤140737488355328)=true,decide (0+((l.take (n:Int).toNat).drop 0).length≤4611686018427387904)=true,decide (((l.take (n:Int).toNat).drop 0).length=((l.take (n:Int).toNat).drop 0).length)=true,(⟨sp 27 [(1,.lit (.bool b)),(5,.own 1 0 (0+((l.take (n:Int).toNat).drop 0).length) 1),(6,aI 0)],[.dead,.ints (List.take 0 []++(l.take (n:Int).toNat).drop 0) true],[1,0]⟩:St)=⟨sp 27 [(1,.lit (.bool b)),(5,.own 1 0 N 1),(6,aI 0)],[.dead,.ints (l.take n) true],[1,0]⟩,Loops 2 tP (kZ tP 167 0) ⟨sp 27 [(1,.lit (.bool b)),(5,.own 1 0 N 1),(6,aI 0)],[.dead,.ints (l.take n) true],[1,0]⟩ (Ex.exit 0,⟨sp 27 [(1,.lit (.bool b)),(5,.own 1 0 N 1),(6,aI i)],[.dead,.ints q true],[1,0]⟩),N≤q.length]:={}
end
theorem rs_loop (N:Nat) (hN:N≤1048576):∀(suf pre:List Int),pre.length+suf.length=N→(∀d∈suf,-9223372036854775807≤d∧d≤9223372036854775807) →
 Loops 2 tP (kZ tP 167 0) (RG true N (pre++suf) pre.length) (.exit 0,RG true N (pre++suf.map fun d=>-d) N)
 | [],pre,hl,_=>by
  have e:pre.length=N:=by simpa using hl
  rw [e]
  exact Loops.fin (LS.of okF1o (rsl_2 true N (pre++[]) N) (.cons (by simp) .nil)) (by simp [Ex.toExit])
 | d :: suf,pre,hl,hd=>by
  have hl':pre.length+(suf.length+1)=N:=by simpa using hl
  have hnat:0+Int.toNat (pre.length:Int)*1=pre.length:=by omega
  have hg:(pre++d :: suf).getD pre.length 0=d:=by simp [List.getD]
  have hs:(pre++d :: suf).set pre.length (0-d)=(pre++[-d])++suf:=by
   rw [List.set_append_right _ _ (Nat.le_refl _),Nat.sub_self,List.set_cons_zero,Int.zero_sub];simp
  have hdd:=hd d (by simp)
  have h:=LS.of okF1o (rsl_0 true N (pre++d :: suf) pre.length) (by rw [hnat,hg];(repeat' (first | exact AllC.nil | refine AllC.cons ?_ ?_));all_goals (first | (with_reducible rfl) | (with_reducible exact inR64.2 (by omega)) | (refine decide_eq_true ?_;first | omega | (simp<;>omega))))
  rw [hnat,hg,hs] at h
  have k:=rs_loop N hN suf (pre++[-d]) (by simp;omega) (fun x hx=>hd x (by simp [hx]))
  have e1:((pre++[-d]).length:Int)=(pre.length:Int)+1:=by simp
  have e2:(pre++[-d])++suf.map (fun d=>-d)=pre++(d :: suf).map fun d=>-d:=by simp
  rw [e1,e2] at k
  exact Loops.go h k
def pSg (l:List Int):Prop:=l.length≤1048576∧∀d∈l,-9223372036854775807≤d∧d≤9223372036854775807
def zlW (b:Bool) (l:List Int):List Int:=match b with | true=>(trm l).map fun d=>-d | false=>trm l
theorem zrg (l:List Int) (b:Bool) (h:pSg l):FC tP 167 [.sq l,.lit (.bool b)] (.sq (zlW b l)):=by
 obtain ⟨h0,hd⟩:=h
 obtain ⟨m,h1,h2,h3⟩:=zei l h0 l.length (Nat.le_refl _)
 rw [List.take_length] at h2
 have hlen:(l.take m).length=m:=by rw [List.length_take];omega
 have hm:∀d∈l.take m,-9223372036854775807≤d∧d≤9223372036854775807:=fun d hx=>hd d (List.mem_of_mem_take hx)
 have hn:Int.toNat (m:Int)=m:=by omega
 have key:∃(q:List Int) (i:Int),q.take m=zlW b l∧Loops 2 tP (kZ tP 167 0) (RG b m (l.take m) 0) (.exit 0,RG b m q i)∧q.length=m:=by
  cases b with
  | true=>exact ⟨(l.take m).map fun d=>-d,m,by rw [List.take_of_length_le (by simp;omega),h2];rfl,rs_loop m (by omega) (l.take m) [] (by simpa using hlen) hm,by simp;omega⟩
  | false=>
   refine ⟨l.take m,0,by rw [List.take_of_length_le (by omega),h2];rfl,?_,hlen⟩
   by_cases hz:m=0
   ·subst hz;exact Loops.fin (LS.of okF1o (rsl_2 false 0 (l.take 0) 0) (.cons (by simp) .nil)) (by simp [Ex.toExit])
   ·exact Loops.fin (LS.of okF1o (rsl_1 false m (l.take m) 0) (.cons (decide_eq_true (by omega)) (.cons rfl .nil))) (by simp [Ex.toExit])
 obtain ⟨q,i,k1,k2,k3⟩:=key
 have e:=rsf_0 l m m b q i
 rw [hn] at e
 have e0:0+List.length (List.drop 0 (List.take m l))=m:=by simp;omega
 have e1:List.take 0 []++List.drop 0 (List.take m l)=l.take m:=by simp
 rw [e0,e1] at e
 have:=lZ okF1o e (by(repeat' (first | exact AllC.nil | refine AllC.cons ?_ ?_));all_goals (first | (with_reducible exact viaL_ok) | (with_reducible exact h3) | (with_reducible exact k2) | (with_reducible rfl) | (refine decide_eq_true ?_;simp<;>omega) | omega | (simp<;>omega) | (simp;done)))
 rw [k1] at this
 exact this
def cLB (p:List Int→Prop) [∀l,Tst (p l)] (r:Bool→List Int→AV) (args:List AV):M AV:=match args with
 | [x,y]=>do
  let l ← ofOpt 280 (ints? x)
  let b ← ofOpt 281 (asB y)
  tellD (p l) (Tst.b (p l))
  gives (r b l)
 | _=>fail 282
theorem cLB_ok {P:Program} {f:FuncId} {p:List Int→Prop} [∀l,Tst (p l)] {r:Bool→List Int→AV} (h:∀l b,p l→FC P f [.sq l,.lit (.bool b)] (r b l)):jZ P f (cLB p r):=by
 intro args _
 unfold cLB
 split
 ·exact Spec.bind (Spec.ofOpt fun l hl=>Spec.bind (Spec.ofOpt fun b hb=>Spec.bind (Spec.tellD Tst.ok fun hp=>Spec.gives ((h l b hp).le (.cons (fun E v hv=>hv.toSq hl) (.cons (Le.ofBool hb) .nil)) (Le.refl _)))))
 ·exact Spec.fail
def ctrF2:Ctr:=(167,cLB pSg (fun b l=>.sq (zlW b l))) :: zmu
theorem zkP:∀p∈ctrF2,jZ tP p.1 p.2:=CAll.cons (cLB_ok zrg) zkO
theorem zeF:(eZ tP ctrF2 bw).OK:=JZ zkP
noncomputable section
abbrev zfP (s:St) (r:Ex × St):Prop:=Loops 0 tP (kZ tP 135 0) s r
abbrev zb2 (a:List Int):St:=⟨sp 92 [(0,.sq a),(3,aN),(4,aI 0),(5,aI 0)],[],[]⟩
abbrev zhS (a:List Int) (b:Nat) (c d:Int) (e:List Int):St:=⟨sp 92 [(0,.sq a),(3,.own 0 0 b 1),(4,aI c),(5,aI d)],[.ints e true],[]⟩
abbrev zof (a:List Int):St:=⟨sp 92 [(0,.sq a),(3,aN),(4,aI 0),(5,aI 0)],[],[]⟩
abbrev zbm (a:List Int) (b:Nat) (c d:Int) (e:List Int):St:=⟨sp 92 [(0,.sq a),(3,.own 0 0 b 1),(4,aI c),(5,aI d)],[.ints e true],[]⟩
theorem rn_L0_0_0 (a:List Int) (h1:0<(a.length:Int)) (h2:0<a.length) (h3:cZ (a.getD 0 0)) (h4:r64 (a.getD 0 0 % 100000000+0)) (h5:cZ (a.getD 0 0 % 100000000+0)) (h6:r64 (a.getD 0 0 / 100000000+(a.getD 0 0 % 100000000+0) / 100000000)):LG zfP (zb2 a) (zhS a (1) (a.getD 0 0 / 100000000+(a.getD 0 0 % 100000000+0) / 100000000) (1) ([(a.getD 0 0 % 100000000+0) % 100000000])):=Loops.go (LS.at zeF 60 [1] [0,3,4,5] [] [1] (.t h1<|.t h2<|.c h3<|.i h4<|.c h5<|.c (show decide ((List.take 1 [(a.getD 0 0 % 100000000+0) % 100000000]).length=1)=true from decide_eq_true rfl)<|.i h6<|.e) [1,0,1,2,3,4,5,0,0,0,6,7,0])
theorem rn_L0_0_1 (a:List Int) (h1:¬(0<(a.length:Int))):zfP (zb2 a) (Ex.exit 0,(zof a)):=LF (LS.at zeF 60 [] [0,3,4,5] [] [0] (.f h1<|.e) [1])
theorem rn_L0_1_0 (a:List Int) (b:Nat) (d f:Int) (g:List Int) (h1:f<(a.length:Int)) (h2:0≤f) (h3:f.toNat<a.length) (h4:cZ (a.getD f.toNat 0)) (h5:r64 (a.getD f.toNat 0 % 100000000+d)) (h6:cZ (a.getD f.toNat 0 % 100000000+d)) (h7:(b+1)*8≤140737488355328) (h8:b+1≤4611686018427387904) (h9:b≤g.length) (h10:r64 (a.getD f.toNat 0 / 100000000+(a.getD f.toNat 0 % 100000000+d) / 100000000)) (h11:r64 (f+1)):LG zfP (zhS a b d f g) (zhS a (b+1) (a.getD f.toNat 0 / 100000000+(a.getD f.toNat 0 % 100000000+d) / 100000000) (f+1) (g.take b++List.take 1 [(a.getD f.toNat 0 % 100000000+d) % 100000000])):=Loops.go (LS.at zeF 60 [2] [0,3,4,5] [] [1] (.t h1<|.t h2<|.t h3<|.c h4<|.i h5<|.c h6<|.t h7<|.t h8<|.t h9<|.c (show decide ((List.take 1 [(a.getD f.toNat 0 % 100000000+d) % 100000000]).length=1)=true from decide_eq_true rfl)<|.i h10<|.i h11<|.e) [1,2,1,3,4,5,6,7,8,9,10,11,12])
theorem rn_L0_1_1 (a:List Int) (b:Nat) (c d:Int) (g:List Int) (h1:¬(d<(a.length:Int))):zfP (zhS a b c d g) (Ex.exit 0,(zbm a b c d g)):=LF (LS.at zeF 60 [0] [0,3,4,5] [] [0] (.f h1<|.e) [1])
abbrev rn_L1 (s:St) (r:Ex × St):Prop:=Loops 0 tP (kZ tP 135 1) s r
abbrev rn_L1_0:St:=⟨sp 92 [(3,aN),(4,aI 0)],[],[]⟩
abbrev zog:St:=⟨sp 92 [(3,aN),(4,aI 0)],[],[]⟩
theorem rn_L1_0_0:rn_L1 rn_L1_0 (Ex.exit 2,zog):=LF (LS.at zeF 60 [] [3,4] [] [] (.e) [])
theorem rn_0 (x:List Int) (hL1:zfP (zb2 x) (Ex.exit 0,(zof x))) (hL2:rn_L1 rn_L1_0 (Ex.exit 2,zog)) (h3:pTr []):FC tP 135 [.sq x] (.sq []):=dZ zeF 60 [] (.v [0,3,4,5] [] hL1<|.v [3,4] [] hL2<|.c h3<|.e) [0,1,0,2,3]
abbrev zdL (s:St) (r:Ex × St):Prop:=Loops 1 tP (kZ tP 135 1) s r
abbrev zbc (a:Nat) (b:Int) (c:List Int):St:=⟨sp 92 [(3,.own 0 0 a 1),(4,aI b)],[.ints c true],[0]⟩
abbrev zfQ (a:Nat) (b:Int) (c:List Int) (d:Nat) (e:Int) (f:List Int):St:=⟨sp 92 [(3,.own 1 0 d 1),(4,aI e)],[.dead,.ints f true],[0]⟩
abbrev zcD (a:Nat) (b:Int) (c:List Int):St:=⟨sp 92 [(3,.own 0 0 a 1),(4,aI b)],[.ints c true],[0]⟩
abbrev zcE (a:Nat) (b:Int) (c:List Int) (d:Nat) (e:Int) (f:List Int):St:=⟨sp 92 [(3,.own 1 0 d 1),(4,aI e)],[.dead,.ints f true],[0]⟩
theorem rn_L2_0_0 (a:Nat) (b:Int) (d:List Int) (h1:b≠0) (h2:b≠-1) (h3:cZ b) (h4:(a+1)*8≤140737488355328) (h5:a+1≤4611686018427387904) (h6:a≤d.length):LG zdL (zbc a b d) (zfQ a b d (a+1) (b / 100000000) (d.take a++List.take 1 [b % 100000000])):=Loops.go (LS.at zeF 60 [2] [3,4] [0] [1,1] (.c (bne_iff_ne.2 h1)<|.c (bne_iff_ne.2 h2)<|.c h3<|.t h4<|.t h5<|.t h6<|.c (show decide ((List.take 1 [b % 100000000]).length=1)=true from decide_eq_true rfl)<|.e) [1,2,3,4,5,6,7])
theorem rn_L2_0_1 (a:Nat) (b:Int) (d:List Int) (h1:b≠0) (h2:b = -1):zdL (zbc a b d) (Ex.exit 2,(zcD a b d)):=LF (LS.at zeF 60 [] [3,4] [0] [1,0] (.c (bne_iff_ne.2 h1)<|.c (bne_eq_false_iff_eq.2 h2)<|.e) [1,2])
theorem rn_L2_0_2 (a:Nat) (b:Int) (d:List Int) (h1:b=0):zdL (zbc a b d) (Ex.exit 2,(zcD a b d)):=LF (LS.at zeF 60 [] [3,4] [0] [0] (.c (bne_eq_false_iff_eq.2 h1)<|.e) [1])
theorem rn_L2_1_0 (a:Nat) (b:Int) (d:List Int) (f:Nat) (g:Int) (i:List Int) (h1:g≠0) (h2:g≠-1) (h3:cZ g) (h4:(f+1)*8≤140737488355328) (h5:f+1≤4611686018427387904) (h6:f≤i.length):LG zdL (zfQ a b d f g i) (zfQ a b d (f+1) (g / 100000000) (i.take f++List.take 1 [g % 100000000])):=Loops.go (LS.at zeF 60 [3] [3,4] [0] [1,1] (.c (bne_iff_ne.2 h1)<|.c (bne_iff_ne.2 h2)<|.c h3<|.t h4<|.t h5<|.t h6<|.c (show decide ((List.take 1 [g % 100000000]).length=1)=true from decide_eq_true rfl)<|.e) [1,2,3,4,5,6,7])
theorem rn_L2_1_1 (a:Nat) (b:Int) (d:List Int) (f:Nat) (g:Int) (i:List Int) (h1:g≠0) (h2:g = -1):zdL (zfQ a b d f g i) (Ex.exit 2,(zcE a b d f g i)):=LF (LS.at zeF 60 [1] [3,4] [0] [1,0] (.c (bne_iff_ne.2 h1)<|.c (bne_eq_false_iff_eq.2 h2)<|.e) [1,2])
theorem zlM (a:Nat) (b:Int) (d:List Int) (f:Nat) (g:Int) (i:List Int) (h1:g=0):zdL (zfQ a b d f g i) (Ex.exit 2,(zcE a b d f g i)):=LF (LS.at zeF 60 [1] [3,4] [0] [0] (.c (bne_eq_false_iff_eq.2 h1)<|.e) [1])
theorem rn_1 (x:List Int) (a:Nat) (b d:Int) (f:List Int) (hL1:zfP (zb2 x) (Ex.exit 0,(zbm x a b d f))) (hL2:zdL (zbc a b f) (Ex.exit 2,(zcD a b f))) (h3:b=0) (h4:a≤f.length) (h5:pTr (f.take a)):FC tP 135 [.sq x] (.sq (trm (f.take a))):=dZ zeF 60 [1] (.v [0,3,4,5] [] hL1<|.v [3,4] [0] hL2<|.c (beq_iff_eq.2 h3)<|.c h4<|.c h5<|.e) [0,1,0,2,3,4,5]
abbrev ziJ (s:St) (r:Ex × St):Prop:=Loops 1 tP (kZ tP 135 2) s r
abbrev zfR (a:Nat) (b:List Int):St:=⟨sp 92 [(3,.own 0 0 a 1),(12,aN),(13,aI 0),(14,aI 0)],[.ints b true],[0]⟩
abbrev zde (a:Nat) (b:List Int) (c:Nat) (d e:Int) (f:List Int):St:=⟨sp 92 [(3,.own 0 0 a 1),(12,.own 1 0 c 1),(13,aI d),(14,aI e)],[.ints b true,.ints f true],[0]⟩
abbrev rn_L3_E0 (a:Nat) (b:List Int):St:=⟨sp 92 [(3,.own 0 0 a 1),(12,aN),(13,aI 0),(14,aI 0)],[.ints b true],[0]⟩
abbrev ze3 (a:Nat) (b:List Int) (c:Nat) (d e:Int) (f:List Int):St:=⟨sp 92 [(3,.own 0 0 a 1),(12,.own 1 0 c 1),(13,aI d),(14,aI e)],[.ints b true,.ints f true],[0]⟩
theorem rn_L3_0_0 (a:Nat) (b:List Int) (h1:0<(a:Int)) (h2:0<b.length) (h3:r64 (0-b.getD 0 0)) (h4:r64 (0-b.getD 0 0-0)) (h5:0-b.getD 0 0-0<0) (h6:r64 (0-b.getD 0 0-0+100000000)):LG ziJ (zfR a b) (zde a b (1) (1) (1) ([0-b.getD 0 0-0+100000000])):=Loops.go (LS.at zeF 60 [2] [3,12,13,14] [0] [1,1] (.t h1<|.t h2<|.i h3<|.i h4<|.t h5<|.i h6<|.c (show decide ((List.take 1 [0-b.getD 0 0-0+100000000]).length=1)=true from decide_eq_true rfl)<|.e) [1,0,1,2,3,4,5,6,0,0,0,7,0])
theorem rn_L3_0_1 (a:Nat) (b:List Int) (h1:0<(a:Int)) (h2:0<b.length) (h3:r64 (0-b.getD 0 0)) (h4:r64 (0-b.getD 0 0-0)) (h5:¬(0-b.getD 0 0-0<0)):LG ziJ (zfR a b) (zde a b (1) (0) (1) ([0-b.getD 0 0-0])):=Loops.go (LS.at zeF 60 [2] [3,12,13,14] [0] [1,0] (.t h1<|.t h2<|.i h3<|.i h4<|.f h5<|.c (show decide ((List.take 1 [0-b.getD 0 0-0]).length=1)=true from decide_eq_true rfl)<|.e) [1,0,1,2,3,4,5,0,0,0,6,0])
theorem rn_L3_0_2 (a:Nat) (b:List Int) (h1:¬(0<(a:Int))):ziJ (zfR a b) (Ex.exit 4,(rn_L3_E0 a b)):=LF (LS.at zeF 60 [] [3,12,13,14] [0] [0] (.f h1<|.e) [1])
theorem rn_L3_1_0 (a:Nat) (b:List Int) (d:Nat) (f g:Int) (j:List Int) (h1:g<(a:Int)) (h2:0≤g) (h3:0+g.toNat*1<b.length) (h4:r64 (0-b.getD (0+g.toNat*1) 0)) (h5:r64 (0-b.getD (0+g.toNat*1) 0-f)) (h6:0-b.getD (0+g.toNat*1) 0-f<0) (h7:r64 (0-b.getD (0+g.toNat*1) 0-f+100000000)) (h8:(d+1)*8≤140737488355328) (h9:d+1≤4611686018427387904) (h10:d≤j.length) (h11:r64 (g+1)):LG ziJ (zde a b d f g j) (zde a b (d+1) (1) (g+1) (j.take d++List.take 1 [0-b.getD (0+g.toNat*1) 0-f+100000000])):=Loops.go (LS.at zeF 60 [3] [3,12,13,14] [0] [1,1] (.t h1<|.t h2<|.t h3<|.i h4<|.i h5<|.t h6<|.i h7<|.t h8<|.t h9<|.t h10<|.c (show decide ((List.take 1 [0-b.getD (0+g.toNat*1) 0-f+100000000]).length=1)=true from decide_eq_true rfl)<|.i h11<|.e) [1,2,1,3,4,5,6,7,8,9,10,11,12])
theorem rn_L3_1_1 (a:Nat) (b:List Int) (d:Nat) (g j:Int) (l:List Int) (h1:j<(a:Int)) (h2:0≤j) (h3:0+j.toNat*1<b.length) (h4:r64 (0-b.getD (0+j.toNat*1) 0)) (h5:r64 (0-b.getD (0+j.toNat*1) 0-g)) (h6:¬(0-b.getD (0+j.toNat*1) 0-g<0)) (h7:(d+1)*8≤140737488355328) (h8:d+1≤4611686018427387904) (h9:d≤l.length) (h10:r64 (j+1)):LG ziJ (zde a b d g j l) (zde a b (d+1) (0) (j+1) (l.take d++List.take 1 [0-b.getD (0+j.toNat*1) 0-g])):=Loops.go (LS.at zeF 60 [3] [3,12,13,14] [0] [1,0] (.t h1<|.t h2<|.t h3<|.i h4<|.i h5<|.f h6<|.t h7<|.t h8<|.t h9<|.c (show decide ((List.take 1 [0-b.getD (0+j.toNat*1) 0-g]).length=1)=true from decide_eq_true rfl)<|.i h10<|.e) [1,2,1,3,4,5,6,7,8,9,10,11])
theorem rn_L3_1_2 (a:Nat) (b:List Int) (c:Nat) (d g:Int) (i:List Int) (h1:¬(g<(a:Int))):ziJ (zde a b c d g i) (Ex.exit 4,(ze3 a b c d g i)):=LF (LS.at zeF 60 [1] [3,12,13,14] [0] [0] (.f h1<|.e) [1])
theorem rn_3 (x:List Int) (a:Nat) (b d:Int) (f:List Int) (g:Nat) (i j:Int) (l:List Int) (hL1:zfP (zb2 x) (Ex.exit 0,(zbm x a b d f))) (hL2:zdL (zbc a b f) (Ex.exit 2,(zcD a b f))) (h3:b≠0) (hL3:ziJ (zfR a f) (Ex.exit 4,(ze3 a f g i j l))) (h5:i=0) (h6:(g+1)*8≤140737488355328) (h7:g+1≤4611686018427387904) (h8:g≤l.length) (h9:g+1≤(l.take g++List.take 1 [1]).length) (h10:pSg ((l.take g++List.take 1 [1]).take (g+1))):FC tP 135 [.sq x] (.sq (zlW true ((l.take g++List.take 1 [1]).take (g+1)))):=dZ zeF 60 [0,1] (.v [0,3,4,5] [] hL1<|.v [3,4] [0] hL2<|.c (beq_false_of_ne h3)<|.v [3,12,13,14] [0] hL3<|.c (beq_iff_eq.2 h5)<|.t h6<|.t h7<|.t h8<|.c h9<|.c h10<|.e) [0,1,0,2,3,0,4,5,6,7,8,0,9,10]
theorem rn_4 (x:List Int) (a:Nat) (b d:Int) (f:List Int) (g:Nat) (i j:Int) (l:List Int) (hL1:zfP (zb2 x) (Ex.exit 0,(zbm x a b d f))) (hL2:zdL (zbc a b f) (Ex.exit 2,(zcD a b f))) (h3:b≠0) (hL3:ziJ (zfR a f) (Ex.exit 4,(ze3 a f g i j l))) (h5:i≠0) (h6:g≤l.length) (h7:pSg (l.take g)):FC tP 135 [.sq x] (.sq (zlW true (l.take g))):=dZ zeF 60 [0,0] (.v [0,3,4,5] [] hL1<|.v [3,4] [0] hL2<|.c (beq_false_of_ne h3)<|.v [3,12,13,14] [0] hL3<|.c (beq_false_of_ne h5)<|.c h6<|.c h7<|.e) [0,1,0,2,3,0,4,5,6,7]
theorem rn_5 (x:List Int) (a:Nat) (b d:Int) (f:List Int) (g:Nat) (i:Int) (j:List Int) (hL1:zfP (zb2 x) (Ex.exit 0,(zbm x a b d f))) (hL2:zdL (zbc a b f) (Ex.exit 2,(zcE a b f g i j))) (h3:i=0) (h4:g≤j.length) (h5:pTr (j.take g)):FC tP 135 [.sq x] (.sq (trm (j.take g))):=dZ zeF 60 [1] (.v [0,3,4,5] [] hL1<|.v [3,4] [0] hL2<|.c (beq_iff_eq.2 h3)<|.c h4<|.c h5<|.e) [0,1,0,2,3,4,5]
abbrev zkg (s:St) (r:Ex × St):Prop:=Loops 2 tP (kZ tP 135 2) s r
abbrev zhT (a:Nat) (b:List Int):St:=⟨sp 92 [(3,.own 1 0 a 1),(12,aN),(13,aI 0),(14,aI 0)],[.dead,.ints b true],[0]⟩
abbrev zdf (a:Nat) (b:List Int) (c:Nat) (d e:Int) (f:List Int):St:=⟨sp 92 [(3,.own 1 0 a 1),(12,.own 2 0 c 1),(13,aI d),(14,aI e)],[.dead,.ints b true,.ints f true],[0]⟩
abbrev ze4 (a:Nat) (b:List Int) (c:Nat) (d e:Int) (f:List Int):St:=⟨sp 92 [(3,.own 1 0 a 1),(12,.own 2 0 c 1),(13,aI d),(14,aI e)],[.dead,.ints b true,.ints f true],[0]⟩
theorem rn_L4_0_0 (a:Nat) (b:List Int) (h1:0<(a:Int)) (h2:0<b.length) (h3:r64 (0-b.getD 0 0)) (h4:r64 (0-b.getD 0 0-0)) (h5:0-b.getD 0 0-0<0) (h6:r64 (0-b.getD 0 0-0+100000000)):LG zkg (zhT a b) (zdf a b (1) (1) (1) ([0-b.getD 0 0-0+100000000])):=Loops.go (LS.at zeF 60 [3] [3,12,13,14] [0] [1,1] (.t h1<|.t h2<|.i h3<|.i h4<|.t h5<|.i h6<|.c (show decide ((List.take 1 [0-b.getD 0 0-0+100000000]).length=1)=true from decide_eq_true rfl)<|.e) [1,0,1,2,3,4,5,6,0,0,0,7,0])
theorem rn_L4_0_1 (a:Nat) (b:List Int) (h1:0<(a:Int)) (h2:0<b.length) (h3:r64 (0-b.getD 0 0)) (h4:r64 (0-b.getD 0 0-0)) (h5:¬(0-b.getD 0 0-0<0)):LG zkg (zhT a b) (zdf a b (1) (0) (1) ([0-b.getD 0 0-0])):=Loops.go (LS.at zeF 60 [3] [3,12,13,14] [0] [1,0] (.t h1<|.t h2<|.i h3<|.i h4<|.f h5<|.c (show decide ((List.take 1 [0-b.getD 0 0-0]).length=1)=true from decide_eq_true rfl)<|.e) [1,0,1,2,3,4,5,0,0,0,6,0])
theorem rn_L4_1_0 (a:Nat) (b:List Int) (d:Nat) (f g:Int) (j:List Int) (h1:g<(a:Int)) (h2:0≤g) (h3:0+g.toNat*1<b.length) (h4:r64 (0-b.getD (0+g.toNat*1) 0)) (h5:r64 (0-b.getD (0+g.toNat*1) 0-f)) (h6:0-b.getD (0+g.toNat*1) 0-f<0) (h7:r64 (0-b.getD (0+g.toNat*1) 0-f+100000000)) (h8:(d+1)*8≤140737488355328) (h9:d+1≤4611686018427387904) (h10:d≤j.length) (h11:r64 (g+1)):LG zkg (zdf a b d f g j) (zdf a b (d+1) (1) (g+1) (j.take d++List.take 1 [0-b.getD (0+g.toNat*1) 0-f+100000000])):=Loops.go (LS.at zeF 60 [4] [3,12,13,14] [0] [1,1] (.t h1<|.t h2<|.t h3<|.i h4<|.i h5<|.t h6<|.i h7<|.t h8<|.t h9<|.t h10<|.c (show decide ((List.take 1 [0-b.getD (0+g.toNat*1) 0-f+100000000]).length=1)=true from decide_eq_true rfl)<|.i h11<|.e) [1,2,1,3,4,5,6,7,8,9,10,11,12])
theorem rn_L4_1_1 (a:Nat) (b:List Int) (d:Nat) (g j:Int) (l:List Int) (h1:j<(a:Int)) (h2:0≤j) (h3:0+j.toNat*1<b.length) (h4:r64 (0-b.getD (0+j.toNat*1) 0)) (h5:r64 (0-b.getD (0+j.toNat*1) 0-g)) (h6:¬(0-b.getD (0+j.toNat*1) 0-g<0)) (h7:(d+1)*8≤140737488355328) (h8:d+1≤4611686018427387904) (h9:d≤l.length) (h10:r64 (j+1)):LG zkg (zdf a b d g j l) (zdf a b (d+1) (0) (j+1) (l.take d++List.take 1 [0-b.getD (0+j.toNat*1) 0-g])):=Loops.go (LS.at zeF 60 [4] [3,12,13,14] [0] [1,0] (.t h1<|.t h2<|.t h3<|.i h4<|.i h5<|.f h6<|.t h7<|.t h8<|.t h9<|.c (show decide ((List.take 1 [0-b.getD (0+j.toNat*1) 0-g]).length=1)=true from decide_eq_true rfl)<|.i h10<|.e) [1,2,1,3,4,5,6,7,8,9,10,11])
theorem rn_L4_1_2 (a:Nat) (b:List Int) (c:Nat) (d g:Int) (i:List Int) (h1:¬(g<(a:Int))):zkg (zdf a b c d g i) (Ex.exit 4,(ze4 a b c d g i)):=LF (LS.at zeF 60 [2] [3,12,13,14] [0] [0] (.f h1<|.e) [1])
theorem rn_7 (x:List Int) (a:Nat) (b d:Int) (f:List Int) (g:Nat) (i:Int) (j:List Int) (l:Nat) (m n:Int) (o:List Int) (hL1:zfP (zb2 x) (Ex.exit 0,(zbm x a b d f))) (hL2:zdL (zbc a b f) (Ex.exit 2,(zcE a b f g i j))) (h3:i≠0) (hL3:zkg (zhT g j) (Ex.exit 4,(ze4 g j l m n o))) (h5:m=0) (h6:(l+1)*8≤140737488355328) (h7:l+1≤4611686018427387904) (h8:l≤o.length) (h9:l+1≤(o.take l++List.take 1 [1]).length) (h10:pSg ((o.take l++List.take 1 [1]).take (l+1))):FC tP 135 [.sq x] (.sq (zlW true ((o.take l++List.take 1 [1]).take (l+1)))):=dZ zeF 60 [0,1] (.v [0,3,4,5] [] hL1<|.v [3,4] [0] hL2<|.c (beq_false_of_ne h3)<|.v [3,12,13,14] [0] hL3<|.c (beq_iff_eq.2 h5)<|.t h6<|.t h7<|.t h8<|.c h9<|.c h10<|.e) [0,1,0,2,3,0,4,5,6,7,8,0,9,10]
theorem rn_8 (x:List Int) (a:Nat) (b d:Int) (f:List Int) (g:Nat) (i:Int) (j:List Int) (l:Nat) (m n:Int) (o:List Int) (hL1:zfP (zb2 x) (Ex.exit 0,(zbm x a b d f))) (hL2:zdL (zbc a b f) (Ex.exit 2,(zcE a b f g i j))) (h3:i≠0) (hL3:zkg (zhT g j) (Ex.exit 4,(ze4 g j l m n o))) (h5:m≠0) (h6:l≤o.length) (h7:pSg (o.take l)):FC tP 135 [.sq x] (.sq (zlW true (o.take l))):=dZ zeF 60 [0,0] (.v [0,3,4,5] [] hL1<|.v [3,4] [0] hL2<|.c (beq_false_of_ne h3)<|.v [3,12,13,14] [0] hL3<|.c (beq_false_of_ne h5)<|.c h6<|.c h7<|.e) [0,1,0,2,3,0,4,5,6,7]
end
theorem zfT (out:List Int) (d:Int):List.take out.length out++List.take 1 [d]=out++[d]:=by simp
theorem zaN {out:List Int} {d:Int} (h:Digs out) (h0:0≤d) (h1:d<100000000):Digs (out++[d]):=by
 intro e he
 rcases List.mem_append.1 he with h2 | h2
 ·exact h e h2
 ·simp at h2;subst h2;exact ⟨h0,h1⟩
theorem rnA:∀(m:Nat) (x:List Int) (i:Nat) (c:Int) (out:List Int),i+m=x.length→x.length≤1000000000→(∀d∈x,cZ d)→Digs out→out.length+m≤1000000000→-1000000000000≤c→c≤1000000000000 →
 ∃c' out',Digs out'∧out'.length=out.length+m∧vl out'+100000000 ^ out'.length*c'=vl out+100000000 ^ out.length*(c+vl (x.drop i))∧-1000000000000≤c'∧c'≤1000000000000 ∧
  zfP (zhS x out.length c i out) (.exit 0,zbm x out'.length c' x.length out'):=by
 intro m
 induction m with
 | zero=>
  intro x i c out hi hxl hx hd hl h1 h2
  have hi':i=x.length:=by omega
  subst hi'
  exact ⟨c,out,hd,rfl,by simp [vl],h1,h2,rn_L0_1_1 x out.length c x.length out (by omega)⟩
 | succ m ih=>
  intro x i c out hi hxl hx hd hl h1 h2
  have hlt:i<x.length:=by omega
  have hxi:=hx (x.getD i 0) (by simp [List.getD,hlt])
  have hdr:x.drop i=x.getD i 0 :: x.drop (i+1):=by rw [List.drop_eq_getElem_cons hlt];simp [List.getD,hlt]
  have hxi':=hxi
  unfold cZ at hxi'
  obtain ⟨c',out',k1,k2,k3,k4,k5,k6⟩:=ih x (i+1) (x.getD i 0 / 100000000+(x.getD i 0 % 100000000+c) / 100000000) (out++[(x.getD i 0 % 100000000+c) % 100000000]) (by omega) hxl hx
   (zaN hd (by omega) (by omega)) (by simp;omega) (by omega) (by omega)
  refine ⟨c',out',k1,by simp at k2;omega,?_,k4,k5,?_⟩
  ·rw [k3,hdr]
   exact zfX _ _ _ _ _ _ (by omega)
  ·have hn:Int.toNat (i:Int)=i:=by omega
   refine rn_L0_1_0 x out.length c i out (by omega) (by omega) (by omega) ?_ ?_ ?_ (by omega) (by omega) (by omega) ?_ (by omega) ?_<;>(try rw [hn])
   ·exact hxi
   ·omega
   ·unfold cZ;omega
   ·omega
   ·rw [zfT]
    simpa using k6
theorem rnB:∀(m:Nat) (p:Nat) (q:Int) (l:List Int) (c:Int) (out:List Int),c.natAbs≤m→-1000000000000≤c→c≤1000000000000→Digs out→out.length+m≤10000000000000 →
 ∃c' out',(c'=0∨c' = -1)∧Digs out'∧(out.length≤out'.length∧out'.length≤out.length+m)∧vl out'+100000000 ^ out'.length*c'=vl out+100000000 ^ out.length*c ∧
  zdL (zfQ p q l out.length c out) (.exit 2,zcE p q l out'.length c' out'):=by
 intro m
 induction m with
 | zero=>
  intro p q l c out hm h1 h2 hd hl
  have:c=0:=by omega
  subst this
  exact ⟨0,out,.inl rfl,hd,⟨Nat.le_refl _,by omega⟩,rfl,zlM p q l out.length 0 out rfl⟩
 | succ m ih=>
  intro p q l c out hm h1 h2 hd hl
  by_cases h0:c=0
  ·subst h0;exact ⟨0,out,.inl rfl,hd,⟨Nat.le_refl _,by omega⟩,rfl,zlM p q l out.length 0 out rfl⟩
  by_cases h3:c = -1
  ·subst h3;exact ⟨-1,out,.inr rfl,hd,⟨Nat.le_refl _,by omega⟩,rfl,rn_L2_1_1 p q l out.length (-1) out (by omega) rfl⟩
  obtain ⟨c',out',k1,k2,k3,k4,k5⟩:=ih p q l (c / 100000000) (out++[c % 100000000]) (by omega) (by omega) (by omega) (zaN hd (by omega) (by omega)) (by simp;omega)
  refine ⟨c',out',k1,k2,⟨by have:=k3.1;simp at this;omega,by have:=k3.2;simp at this;omega⟩,?_,?_⟩
  ·rw [k4]
   have:=zfX out 0 c (c % 100000000) (c / 100000000) 0 (by omega)
   simpa using this
  ·refine rn_L2_1_0 p q l out.length c out h0 h3 (by unfold cZ;omega) (by omega) (by omega) (by omega) ?_
   rw [zfT]
   simpa using k5
theorem rnC (LP:St→Ex × St→Prop) (F:Nat→Int→Int→List Int→St) (G:Nat→Int→Int→List Int→Ex × St) (out:List Int)
 (hs0:∀(k:Nat) (b:Int) (sz:List Int) (r:Ex × St),k<out.length→sz.length=k→(b=0∨b=1)→0-out.getD k 0-b<0→LP (F (k+1) 1 (k+1) (sz++[0-out.getD k 0-b+100000000])) r→LP (F k b k sz) r)
 (hs1:∀(k:Nat) (b:Int) (sz:List Int) (r:Ex × St),k<out.length→sz.length=k→(b=0∨b=1)→¬(0-out.getD k 0-b<0)→LP (F (k+1) 0 (k+1) (sz++[0-out.getD k 0-b])) r→LP (F k b k sz) r)
 (hx:∀(b:Int) (sz:List Int),LP (F out.length b out.length sz) (G out.length b out.length sz)) (hd:Digs out) :
 ∀(m k:Nat) (b:Int) (sz:List Int),k+m=out.length→sz.length=k→(b=0∨b=1)→Digs sz→vl sz=100000000 ^ k*b-vl (out.take k) →
  ∃b' sz',(b'=0∨b'=1)∧Digs sz'∧sz'.length=out.length∧vl sz'=100000000 ^ out.length*b'-vl out∧LP (F k b k sz) (G out.length b' out.length sz'):=by
 intro m
 induction m with
 | zero=>
  intro k b sz hk hl hb hs hv
  have:k=out.length:=by omega
  subst this
  rw [List.take_length] at hv
  exact ⟨b,sz,hb,hs,hl,hv,hx b sz⟩
 | succ m ih=>
  intro k b sz hk hl hb hs hv
  have hlt:k<out.length:=by omega
  have hg:out[k]=out.getD k 0:=by simp [List.getD,hlt]
  have hdk:=hd (out.getD k 0) (by simp [List.getD,hlt])
  have htk:out.take (k+1)=out.take k++[out.getD k 0]:=by rw [List.take_succ_eq_append_getElem hlt,hg]
  have hlk:(out.take k).length=k:=by simp;omega
  have a0:=hs0 k b sz
  have a1:=hs1 k b sz
  clear hg
  generalize out.getD k 0=d at *
  have val:∀(e b':Int),0-d-b=e-100000000*b'→vl (sz++[e])=100000000 ^ (k+1)*b'-vl (out.take (k+1)):=by
   intro e b' he
   rw [htk,zbG,zbG,hl,hlk,hv,Int.pow_succ]
   have:e=100000000*b'-d-b:=by omega
   rw [this,Int.mul_sub,Int.mul_sub,← Int.mul_assoc]
   omega
  by_cases h:0-d-b<0
  ·obtain ⟨b',sz',k1,k2,k3,k4,k5⟩:=ih (k+1) 1 (sz++[0-d-b+100000000]) (by omega) (by simp [hl]) (.inr rfl) (zaN hs (by omega) (by omega)) (val _ _ (by omega))
   exact ⟨b',sz',k1,k2,k3,k4,a0 _ hlt hl hb h (by simpa using k5)⟩
  ·obtain ⟨b',sz',k1,k2,k3,k4,k5⟩:=ih (k+1) 0 (sz++[0-d-b]) (by omega) (by simp [hl]) (.inl rfl) (zaN hs (by omega) (by omega)) (val _ _ (by omega))
   exact ⟨b',sz',k1,k2,k3,k4,a1 _ hlt hl hb h (by simpa using k5)⟩
theorem rnL3 (out:List Int) (hd:Digs out) (hne:out≠[]) (hl:out.length≤10000000000000) :
 ∃b' sz',(b'=0∨b'=1)∧Digs sz'∧sz'.length=out.length∧vl sz'=100000000 ^ out.length*b'-vl out∧ziJ (zfR out.length out) (.exit 4,ze3 out.length out out.length b' out.length sz'):=by
 have h0:0<out.length:=List.length_pos_iff.2 hne
 have hd0:=hd (out.getD 0 0) (by simp [List.getD,h0])
 have hg:out[0]=out.getD 0 0:=by simp [List.getD,h0]
 have ht:out.take 1=[out.getD 0 0]:=by rw [List.take_succ_eq_append_getElem h0,hg];rfl
 have key:=rnC ziJ (fun n b k sz=>zde out.length out n b k sz) (fun n b k sz=>(.exit 4,ze3 out.length out n b k sz)) out
  (fun k b sz r hk hs hb h kk=>by
   have hdk:=hd (out.getD k 0) (by simp [List.getD,hk])
   have hn:0+Int.toNat (k:Int)*1=k:=by omega
   refine rn_L3_1_0 out.length out k b k sz (by omega) (by omega) ?_ ?_ ?_ ?_ ?_ (by omega) (by omega) (by omega) (by omega) ?_<;>rw [hn]
   ·omega
   ·omega
   ·rcases hb with rfl | rfl<;>omega
   ·exact h
   ·rcases hb with rfl | rfl<;>omega
   ·have:=zfT sz (0-out.getD k 0-b+100000000)
    rw [hs] at this
    rw [this];exact kk)
  (fun k b sz r hk hs hb h kk=>by
   have hdk:=hd (out.getD k 0) (by simp [List.getD,hk])
   have hn:0+Int.toNat (k:Int)*1=k:=by omega
   refine rn_L3_1_1 out.length out k b k sz (by omega) (by omega) ?_ ?_ ?_ ?_ (by omega) (by omega) (by omega) (by omega) ?_<;>rw [hn]
   ·omega
   ·omega
   ·rcases hb with rfl | rfl<;>omega
   ·exact h
   ·have:=zfT sz (0-out.getD k 0-b)
    rw [hs] at this
    rw [this];exact kk)
  (fun b sz=>rn_L3_1_2 out.length out out.length b out.length sz (by omega)) hd
 by_cases h:0-out.getD 0 0-0<0
 ·obtain ⟨b',sz',k1,k2,k3,k4,k5⟩:=key (out.length-1) 1 1 [0-out.getD 0 0-0+100000000] (by omega) rfl (.inr rfl) (zaN (out:=[]) (fun d hd=>by cases hd) (by omega) (by omega)) (by rw [ht];simp only [vl];omega)
  exact ⟨b',sz',k1,k2,k3,k4,rn_L3_0_0 out.length out (by omega) (by omega) (by omega) (by omega) h (by omega) k5⟩
 ·obtain ⟨b',sz',k1,k2,k3,k4,k5⟩:=key (out.length-1) 1 0 [0-out.getD 0 0-0] (by omega) rfl (.inl rfl) (zaN (out:=[]) (fun d hd=>by cases hd) (by omega) (by omega)) (by rw [ht];simp only [vl];omega)
  exact ⟨b',sz',k1,k2,k3,k4,rn_L3_0_1 out.length out (by omega) (by omega) (by omega) (by omega) h k5⟩
theorem rnL4 (out:List Int) (hd:Digs out) (hne:out≠[]) (hl:out.length≤10000000000000) :
 ∃b' sz',(b'=0∨b'=1)∧Digs sz'∧sz'.length=out.length∧vl sz'=100000000 ^ out.length*b'-vl out∧zkg (zhT out.length out) (.exit 4,ze4 out.length out out.length b' out.length sz'):=by
 have h0:0<out.length:=List.length_pos_iff.2 hne
 have hd0:=hd (out.getD 0 0) (by simp [List.getD,h0])
 have hg:out[0]=out.getD 0 0:=by simp [List.getD,h0]
 have ht:out.take 1=[out.getD 0 0]:=by rw [List.take_succ_eq_append_getElem h0,hg];rfl
 have key:=rnC zkg (fun n b k sz=>zdf out.length out n b k sz) (fun n b k sz=>(.exit 4,ze4 out.length out n b k sz)) out
  (fun k b sz r hk hs hb h kk=>by
   have hdk:=hd (out.getD k 0) (by simp [List.getD,hk])
   have hn:0+Int.toNat (k:Int)*1=k:=by omega
   refine rn_L4_1_0 out.length out k b k sz (by omega) (by omega) ?_ ?_ ?_ ?_ ?_ (by omega) (by omega) (by omega) (by omega) ?_<;>rw [hn]
   ·omega
   ·omega
   ·rcases hb with rfl | rfl<;>omega
   ·exact h
   ·rcases hb with rfl | rfl<;>omega
   ·have:=zfT sz (0-out.getD k 0-b+100000000)
    rw [hs] at this
    rw [this];exact kk)
  (fun k b sz r hk hs hb h kk=>by
   have hdk:=hd (out.getD k 0) (by simp [List.getD,hk])
   have hn:0+Int.toNat (k:Int)*1=k:=by omega
   refine rn_L4_1_1 out.length out k b k sz (by omega) (by omega) ?_ ?_ ?_ ?_ (by omega) (by omega) (by omega) (by omega) ?_<;>rw [hn]
   ·omega
   ·omega
   ·rcases hb with rfl | rfl<;>omega
   ·exact h
   ·have:=zfT sz (0-out.getD k 0-b)
    rw [hs] at this
    rw [this];exact kk)
  (fun b sz=>rn_L4_1_2 out.length out out.length b out.length sz (by omega)) hd
 by_cases h:0-out.getD 0 0-0<0
 ·obtain ⟨b',sz',k1,k2,k3,k4,k5⟩:=key (out.length-1) 1 1 [0-out.getD 0 0-0+100000000] (by omega) rfl (.inr rfl) (zaN (out:=[]) (fun d hd=>by cases hd) (by omega) (by omega)) (by rw [ht];simp only [vl];omega)
  exact ⟨b',sz',k1,k2,k3,k4,rn_L4_0_0 out.length out (by omega) (by omega) (by omega) (by omega) h (by omega) k5⟩
 ·obtain ⟨b',sz',k1,k2,k3,k4,k5⟩:=key (out.length-1) 1 0 [0-out.getD 0 0-0] (by omega) rfl (.inl rfl) (zaN (out:=[]) (fun d hd=>by cases hd) (by omega) (by omega)) (by rw [ht];simp only [vl];omega)
  exact ⟨b',sz',k1,k2,k3,k4,rn_L4_0_1 out.length out (by omega) (by omega) (by omega) (by omega) h k5⟩
theorem nf_pos {out:List Int} (hd:Digs out):trm out=aZ (vl out):=by
 rw [zas hd]
 have:=FZ hd
 unfold aZ
 rw [if_neg (by omega)]
 congr 1;omega
theorem nf_neg {sz:List Int} (hd:Digs sz) (h:0<vl sz):zlW true sz=aZ (-vl sz):=by
 unfold zlW aZ
 rw [if_pos (by omega),zas hd,show(-vl sz).natAbs=(vl sz).toNat by omega]
theorem nf_cpl {out sz:List Int} {b v:Int} (ho:Digs out) (hs:Digs sz) (hl:sz.length=out.length) (hb:b=0∨b=1) (hv:vl out-100000000 ^ out.length=v) (hz:vl sz=100000000 ^ out.length*b-vl out) :
 (b=0→zlW true (sz++[1])=aZ v)∧(b≠0→zlW true sz=aZ v):=by
 have h1:=zfW ho
 have h2:=FZ hs
 have h3:=FZ ho
 constructor
 ·rintro rfl
  have e:vl (sz++[1]) = -v:=by rw [zbG,hl];omega
  rw [nf_neg (zaN hs (by decide) (by decide)) (by omega),e,Int.neg_neg]
 ·intro h0
  have hb1:b=1:=by omega
  subst hb1
  have e:vl sz = -v:=by omega
  rw [nf_neg hs (by omega),e,Int.neg_neg]
theorem zjE {l:List Int} (hd:Digs l) (hl:l.length≤1048576):pSg l:=⟨hl,fun d h=>by have:=hd d h;omega⟩
def pNm (x:List Int):Prop:=x.length≤1000000∧∀d∈x,cZ d
theorem zpE (x:List Int) (h:pNm x):FC tP 135 [.sq x] (.ni (vl x)):=by
 obtain ⟨hx,hp⟩:=h
 have toNi:∀ {l:List Int},l=aZ (vl x)→FC tP 135 [.sq x] (.sq l)→FC tP 135 [.sq x] (.ni (vl x)):=fun hl hf=>hf.res fun E v hr=>hr.toNi rfl hl
 cases x with
 | nil=>exact toNi rfl (rn_0 [] (rn_L0_0_1 [] (by simp)) rn_L1_0_0 (by unfold pTr;simp))
 | cons d x=>
  have hd:=hp d (by simp)
  have hd':=hd
  unfold cZ at hd'
  obtain ⟨c,out,a1,a2,a3,a4,a5,a6⟩:=rnA x.length (d :: x) 1 (d / 100000000+(d % 100000000+0) / 100000000) [(d % 100000000+0) % 100000000] (by simp;omega) (by simp at hx ⊢;omega) hp
   (zaN (out:=[]) (fun d hd=>by cases hd) (by omega) (by omega)) (by simp at hx ⊢;omega) (by omega) (by omega)
  have hL0:zfP (zb2 (d :: x)) (.exit 0,zbm (d :: x) out.length c (d :: x).length out):=
   rn_L0_0_0 (d :: x) (by simp<;>omega) (by simp) hd (by simp only [List.getD_cons_zero];omega) (by simp only [List.getD_cons_zero];unfold cZ;omega) (by simp only [List.getD_cons_zero];omega) a6
  have hv:vl out+100000000 ^ out.length*c=vl (d :: x):=by
   rw [a3]
   simp only [vl,List.length_singleton,List.drop_succ_cons,List.drop_zero,Int.pow_succ,Int.pow_zero]
   omega
  have hol:out.length≤1000000:=by simp at a2 hx;omega
  have hone:out≠[]:=by intro h;rw [h] at a2;simp at a2;omega
  have take_all2:∀l:List Int,l.take l.length=l:=fun l=>List.take_length
  by_cases c0:c=0
  ·have hL2:zdL (zbc out.length c out) (.exit 2,zcD out.length c out):=rn_L2_0_2 _ _ _ c0
   have:=rn_1 (d :: x) out.length c (d :: x).length out hL0 hL2 c0 (Nat.le_refl _) (by rw [take_all2];unfold pTr;omega)
   rw [take_all2] at this
   refine toNi ?_ this
   rw [nf_pos a1,← hv,c0,Int.mul_zero,Int.add_zero]
  by_cases c1:c = -1
  ·have hL2:zdL (zbc out.length c out) (.exit 2,zcD out.length c out):=rn_L2_0_1 _ _ _ c0 c1
   obtain ⟨b,sz,k1,k2,k3,k4,k5⟩:=rnL3 out a1 hone (by omega)
   have hcp:=nf_cpl (v:=vl (d :: x)) a1 k2 k3 k1 (by rw [← hv,c1];omega) k4
   by_cases hb:b=0
   ·have es:=zfT sz 1
    rw [k3] at es
    have ea:List.take (out.length+1) (sz++[1])=sz++[1]:=List.take_of_length_le (by simp [k3])
    have hres:=rn_3 (d :: x) out.length c (d :: x).length out out.length b out.length sz hL0 hL2 c0 k5 hb (by omega) (by omega) (by omega) (by rw [es];simp [k3]) (by rw [es,ea];exact zjE (zaN k2 (by decide) (by decide)) (by simp;omega))
    rw [es,ea] at hres
    exact toNi (hcp.1 hb) hres
   ·have ea:List.take out.length sz=sz:=by rw [← k3];exact List.take_length
    have hres:=rn_4 (d :: x) out.length c (d :: x).length out out.length b out.length sz hL0 hL2 c0 k5 hb (by omega) (by rw [ea];exact zjE k2 (by omega))
    rw [ea] at hres
    exact toNi (hcp.2 hb) hres
  ·obtain ⟨c',out',e1,e2,e3,e4,e5⟩:=rnB (c / 100000000).natAbs out.length c out (c / 100000000) (out++[c % 100000000]) (Nat.le_refl _) (by omega) (by omega) (zaN a1 (by omega) (by omega)) (by simp;omega)
   have hL2:zdL (zbc out.length c out) (.exit 2,zcE out.length c out out'.length c' out'):=by
    refine rn_L2_0_0 _ _ _ c0 c1 (by unfold cZ;omega) (by omega) (by omega) (by omega) ?_
    rw [zfT];simpa using e5
   have hv':vl out'+100000000 ^ out'.length*c'=vl (d :: x):=by
    rw [e4,← hv]
    have:=zfX out 0 c (c % 100000000) (c / 100000000) 0 (by omega)
    simpa using this
   have hol':out'.length≤1048000:=by have:=e3.2;simp at this;omega
   have hone':out'≠[]:=by intro h;have:=e3.1;rw [h] at this;simp at this
   rcases e1 with rfl | rfl
   ·have:=rn_5 (d :: x) out.length c (d :: x).length out out'.length 0 out' hL0 hL2 rfl (Nat.le_refl _) (by rw [take_all2];unfold pTr;omega)
    rw [take_all2] at this
    refine toNi ?_ this
    rw [nf_pos e2,← hv',Int.mul_zero,Int.add_zero]
   ·obtain ⟨b,sz,k1,k2,k3,k4,k5⟩:=rnL4 out' e2 hone' (by omega)
    have hcp:=nf_cpl (v:=vl (d :: x)) e2 k2 k3 k1 (by rw [← hv'];omega) k4
    by_cases hb:b=0
    ·have es:=zfT sz 1
     rw [k3] at es
     have ea:List.take (out'.length+1) (sz++[1])=sz++[1]:=List.take_of_length_le (by simp [k3])
     have hres:=rn_7 (d :: x) out.length c (d :: x).length out out'.length (-1) out' out'.length b out'.length sz hL0 hL2 (by decide) k5 hb (by omega) (by omega) (by omega) (by rw [es];simp [k3]) (by rw [es,ea];exact zjE (zaN k2 (by decide) (by decide)) (by simp;omega))
     rw [es,ea] at hres
     exact toNi (hcp.1 hb) hres
    ·have ea:List.take out'.length sz=sz:=by rw [← k3];exact List.take_length
     have hres:=rn_8 (d :: x) out.length c (d :: x).length out out'.length (-1) out' out'.length b out'.length sz hL0 hL2 (by decide) k5 hb (by omega) (by rw [ea];exact zjE k2 (by omega))
     rw [ea] at hres
     exact toNi (hcp.2 hb) hres
abbrev IN (a b:List Int) (i:Int):St:=⟨sp 26 [(0,.sq a),(1,.sq b),(4,.ff),(5,lI i)],[],[]⟩
noncomputable section
theorem inL_0 (a b:List Int) (i:Int):RndI (eZ tP zaL bw) 60 (kZ tP 55 0) 0 [] [0,1,4,5] [] (IN a b i) [1,1] [] [1,2,1,3,2,4,5,6] (Ex.ret) (⟨sp 26 [(0,.sq a),(1,.sq b),(4,.ff),(5,aI i)],[],[]⟩) [decide (i<(a.length:Int))=true,decide (0≤i)=true,decide (i.toNat<a.length)=true,decide (i<(b.length:Int))=true,decide (i.toNat<b.length)=true,(a.getD i.toNat 0 != b.getD i.toNat 0)=true]:={}
theorem inL_1 (a b:List Int) (i:Int):RndI (eZ tP zaL bw) 60 (kZ tP 55 0) 0 [] [0,1,4,5] [] (IN a b i) [1,0] [] [1,2,1,3,2,4,5,6,7] (Ex.normal) (⟨sp 26 [(0,.sq a),(1,.sq b),(4,.ff),(5,aI (i+1))],[],[]⟩) [decide (i<(a.length:Int))=true,decide (0≤i)=true,decide (i.toNat<a.length)=true,decide (i<(b.length:Int))=true,decide (i.toNat<b.length)=true,(a.getD i.toNat 0 != b.getD i.toNat 0)=false,inR .i64 (i+1)=true]:={}
theorem inL_2 (a b:List Int) (i:Int):RndI (eZ tP zaL bw) 60 (kZ tP 55 0) 0 [] [0,1,4,5] [] (IN a b i) [0] [] [1] (Ex.exit 0) (⟨sp 26 [(0,.sq a),(1,.sq b),(4,.ff),(5,aI i)],[],[]⟩) [decide (i<(a.length:Int))=false]:={}
theorem inE_1 (a b:List Int) (i:Int):FunI (eZ tP zaL bw) 60 55 [.sq a,.sq b] [0] [some (zdZ tP (kZ tP 55 0) [] [0,1,4,5] [] (IN a b 0) (.exit 0,IN a b i))] [1,0,2] (.tt) [((a.length:Int) != (b.length:Int))=false,Loops 0 tP (kZ tP 55 0) ⟨sp 26 [(0,.sq a),(1,.sq b),(4,.ff),(5,aI 0)],[],[]⟩ (Ex.exit 0,⟨sp 26 [(0,.sq a),(1,.sq b),(4,.ff),(5,aI i)],[],[]⟩)]:={}
theorem inR_1 (a b:List Int) (i:Int):FunI (eZ tP zaL bw) 60 55 [.sq a,.sq b] [0] [some (zdZ tP (kZ tP 55 0) [] [0,1,4,5] [] (IN a b 0) (.ret,IN a b i))] [1,0,2] (.ff) [((a.length:Int) != (b.length:Int))=false,Loops 0 tP (kZ tP 55 0) ⟨sp 26 [(0,.sq a),(1,.sq b),(4,.ff),(5,aI 0)],[],[]⟩ (Ex.ret,⟨sp 26 [(0,.sq a),(1,.sq b),(4,.ff),(5,aI i)],[],[]⟩)]:={}
theorem inN_0 (a b:List Int):FunI (eZ tP zaL bw) 60 55 [.sq a,.sq b] [1] [] [1] (.ff) [((a.length:Int) != (b.length:Int))=true]:={}
end
theorem vl_le:∀(x:List Int),(∀d∈x,cZ d)→(vl x).natAbs+10000000000000000000≤10000000000000000000*100000000 ^ x.length
 | [],_=>by simp [vl]
 | d :: l,h=>by
  have h1:=h d (by simp)
  have h2:=vl_le l fun e he=>h e (by simp [he])
  unfold cZ at h1
  simp only [vl,List.length_cons,Nat.pow_succ]
  have h3:(d+100000000*vl l).natAbs≤d.natAbs+100000000*(vl l).natAbs:=by
   have:=Int.natAbs_add_le d (100000000*vl l)
   rw [Int.natAbs_mul] at this
   simpa using this
  have h4:d.natAbs≤9223372036854775808:=by omega
  generalize (vl l).natAbs=v at h2 h3
  generalize 100000000 ^ l.length=P at h2 ⊢
  omega
theorem vl_sz {x:List Int} (h:∀d∈x,cZ d):Sz (x.length+3) (vl x):=by
 have h1:=vl_le x h
 unfold Sz
 rw [Nat.pow_add]
 have:(100000000:Nat) ^ 3=1000000000000000000000000:=by decide
 rw [this]
 have h2:0<100000000 ^ x.length:=Nat.pow_pos (by decide)
 generalize 100000000 ^ x.length=P at h1 h2 ⊢
 omega
section
variable {x y:List Int}
end
theorem zlf (a b:List Int) (hl:a.length=b.length) (hs:a.length≤4611686018427387904):∀(k:Nat) (i:Nat),i+k=a.length →
 (a.drop i=b.drop i∧Loops 0 tP (kZ tP 55 0) (IN a b i) (.exit 0,IN a b a.length)) ∨
 (a.drop i≠b.drop i∧∃j:Int,Loops 0 tP (kZ tP 55 0) (IN a b i) (.ret,IN a b j))
 | 0,i,hi=>by
  obtain rfl:i=a.length:=by omega
  refine .inl ⟨?_,Loops.fin (LS.of zhv (inL_2 a b a.length) (.cons (decide_eq_false (by omega)) .nil)) (by simp [Ex.toExit])⟩
  rw [List.drop_length,hl,List.drop_length]
 | k + 1,i,hi=>by
  have hia:i<a.length:=by omega
  have hib:i<b.length:=by omega
  have ea:a.drop i=a.getD i 0 :: a.drop (i+1):=by rw [List.drop_eq_getElem_cons hia];simp [List.getD,hia]
  have eb:b.drop i=b.getD i 0 :: b.drop (i+1):=by rw [List.drop_eq_getElem_cons hib];simp [List.getD,hib]
  have hn:Int.toNat (i:Int)=i:=by omega
  by_cases h:a.getD i 0=b.getD i 0
  ·have hx:(a.getD i 0 != b.getD i 0)=false:=by simpa using h
   have hgo:=LS.of zhv (inL_1 a b i) (by rw [hn];(repeat' (first | exact AllC.nil | refine AllC.cons ?_ ?_));all_goals (first | (with_reducible exact hx) | (with_reducible exact inR64.2 (by omega)) | (refine decide_eq_true ?_;omega)))
   rcases zlf a b hl hs k (i+1) (by omega) with ⟨h1,h2⟩ | ⟨h1,j,h2⟩
   ·exact .inl ⟨by rw [ea,eb,h,h1],Loops.go hgo h2⟩
   ·exact .inr ⟨by rw [ea,eb];intro hh;exact h1 (List.cons.inj hh).2,j,Loops.go hgo h2⟩
  ·have hx:(a.getD i 0 != b.getD i 0)=true:=by simpa using h
   have hgo:=LS.of zhv (inL_0 a b i) (by rw [hn];(repeat' (first | exact AllC.nil | refine AllC.cons ?_ ?_));all_goals (first | (with_reducible exact hx) | (refine decide_eq_true ?_;omega)))
   exact .inr ⟨by rw [ea,eb];intro hh;exact h (List.cons.inj hh).1,i,Loops.fin hgo (by simp [Ex.toExit])⟩
def pIn (a b:List Int):Prop:=a.length≤1048576∧b.length≤1048576
theorem ints_fc (a b:List Int) (h:pIn a b):FC tP 55 [.sq a,.sq b] (.lit (.bool (decide (a=b)))):=by
 by_cases hl:a.length=b.length
 ·have hne:((a.length:Int) != (b.length:Int))=false:=by rw [hl];simp
  rcases zlf a b hl (by have:=h.1;omega) a.length 0 (by omega) with ⟨h1,h2⟩ | ⟨h1,j,h2⟩
  ·have e:a=b:=by simpa using h1
   have:=lZ zhv (inE_1 a b a.length) (.cons hne (.cons h2 .nil))
   refine this.res fun E v hv=>?_
   cases hv
   rw [decide_eq_true e];exact .lit _
  ·have e:a≠b:=by simpa using h1
   have:=lZ zhv (inR_1 a b j) (.cons hne (.cons h2 .nil))
   refine this.res fun E v hv=>?_
   rw [decide_eq_false e]
   first | exact hv | (cases hv;exact .lit _)
 ·have hne:((a.length:Int) != (b.length:Int))=true:=by simp;omega
  have:=lZ zhv (inN_0 a b) (.cons hne .nil)
  refine this.res fun E v hv=>?_
  have e:a≠b:=fun h=>hl (by rw [h])
  cases hv
  rw [decide_eq_false e];exact .lit _
def ctrX:Ctr:=(55,cLL pIn (fun a b=>.lit (.bool (decide (a=b))))) :: zaL
theorem znC:∀p∈ctrX,jZ tP p.1 p.2:=CAll.cons (zbu ints_fc) zes
end Go.Proofs.YtagbldogmjhdpaaGreatDoor
end
