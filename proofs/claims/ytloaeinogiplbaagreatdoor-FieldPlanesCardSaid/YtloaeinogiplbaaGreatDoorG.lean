/- Part of a proof about a given program: see the last module of the claim. -/
import Derived.Test.YtloaeinogiplbaaGreatDoorF
import Derived.Test.YtloaeinogiplbaaGreatDoorE
import Derived.Test.YtloaeinogiplbaaGreatDoorC
section
open Go Go.Ev Go.RowKit
namespace Go.Proofs.YtloaeinogiplbaaGreatDoor
open Go.Proofs
set_option maxRecDepth 100000
set_option maxHeartbeats 1000000
set_option linter.unusedVariables false
set_option linter.unusedSimpArgs false
noncomputable section
theorem rcm_0 (x y:List Int) (h1:pSu x y) (h2:pX (aZ (vl x-vl y))):FC Tryz.prog 160 [.sq x,.sq y] (aI (vl (aZ (vl x-vl y))).sign):=fZ okF6 60 [] (.c h1<|.c h2<|.e) [1,2]
abbrev zep (s:St) (r:Ex × St):Prop:=Loops 1 Tryz.prog (pZ Tryz.prog 181 0) s r
abbrev ze9 (a b:Int) (c:Nat) (d:Int) (e:List Int):St:=⟨sp 60 [(0,.ni a),(1,.ni b),(6,.own 0 0 c 1),(7,aN),(8,aI d)],[.ints e true],[0]⟩
abbrev zfa (a b:Int) (c:Nat) (d:Int) (e:List Int) (f g:Int) (i:List Int):St:=⟨sp 60 [(0,.ni a),(1,.ni b),(6,.own 0 0 c 1),(7,.ni f),(8,aI g)],[.ints i true],[0]⟩
abbrev zlC (a b:Int) (c:Nat) (d:Int) (e:List Int):St:=⟨sp 60 [(0,.ni a),(1,.ni b),(6,.own 0 0 c 1),(7,aN),(8,aI d)],[.ints e true],[0]⟩
abbrev zfb (a b:Int) (c:Nat) (d:Int) (e:List Int) (f g:Int) (i:List Int):St:=⟨sp 60 [(0,.ni a),(1,.ni b),(6,.own 0 0 c 1),(7,.ni f),(8,aI g)],[.ints i true],[0]⟩
abbrev zgl (s:St) (r:Ex × St):Prop:=Loops 3 Tryz.prog (pZ Tryz.prog 181 1) s r
abbrev zcr (a b:Int) (c:Nat) (d:List Int) (e:Int) (f g:List Int) (i j:Int):St:=⟨sp 60 [(0,.ni a),(1,.ni b),(6,.own 0 0 c 1),(7,.sq d),(8,aI e),(9,aI i),(10,aI j)],[.ints f true,.dead,.ints g false],[2,1,0]⟩
abbrev ze8 (a b:Int) (c:Nat) (d:List Int) (e:Int) (f g:List Int) (i j:Int):St:=⟨sp 60 [(0,.ni a),(1,.ni b),(6,.own 0 0 c 1),(7,.sq d),(8,aI e),(9,aI i),(10,aI j)],[.ints f true,.dead,.ints g false],[2,1,0]⟩
theorem zpe (a b:Int) (d:Nat) (f:List Int) (g:Int) (j l:List Int) (m n:Int) (h1:m<n) (h2:r64 (m+n)) (h3:r64 (m+n+1)) (h4:r64 (Int.tdiv (m+n+1) 2)) (h5:1≤List.length [Int.tdiv (m+n+1) 2]) (h6:pMu (aZ b) (List.take 1 [Int.tdiv (m+n+1) 2])) (h7:zoJ f (aZ (vl (aZ b)*vl (List.take 1 [Int.tdiv (m+n+1) 2])))) (h8:vl f<vl (aZ (vl (aZ b)*vl (List.take 1 [Int.tdiv (m+n+1) 2])))) (h9:r64 (Int.tdiv (m+n+1) 2-1)) {r:Ex × St} (k:zgl (zcr a b d f g j l m (Int.tdiv (m+n+1) 2-1)) r):zgl (zcr a b d f g j l m n) r:=Loops.go (LS.at okF6 60 [] [0,1,6,7,8,9,10] [2,1,0] [1,1] (.t h1<|.i h2<|.i h3<|.i h4<|.c h5<|.c h6<|.c h7<|.t h8<|.i h9<|.e) [1,2,3,0,4,5,6,7,8,9]) k
theorem zpf (a b:Int) (d:Nat) (g:List Int) (j:Int) (l m:List Int) (n o:Int) (h1:n<o) (h2:r64 (n+o)) (h3:r64 (n+o+1)) (h4:r64 (Int.tdiv (n+o+1) 2)) (h5:1≤List.length [Int.tdiv (n+o+1) 2]) (h6:pMu (aZ b) (List.take 1 [Int.tdiv (n+o+1) 2])) (h7:zoJ g (aZ (vl (aZ b)*vl (List.take 1 [Int.tdiv (n+o+1) 2])))) (h8:¬(vl g<vl (aZ (vl (aZ b)*vl (List.take 1 [Int.tdiv (n+o+1) 2]))))) {r:Ex × St} (k:zgl (zcr a b d g j l m (Int.tdiv (n+o+1) 2) o) r):zgl (zcr a b d g j l m n o) r:=Loops.go (LS.at okF6 60 [] [0,1,6,7,8,9,10] [2,1,0] [1,0] (.t h1<|.i h2<|.i h3<|.i h4<|.c h5<|.c h6<|.c h7<|.f h8<|.e) [1,2,3,0,4,5,6,7,8]) k
theorem zpg (a b:Int) (c:Nat) (d:List Int) (g:Int) (i j:List Int) (l m:Int) (h1:¬(l<m)):zgl (zcr a b c d g i j l m) (Ex.exit 2,(ze8 a b c d g i j l m)):=Loops.fin (LS.at okF6 60 [] [0,1,6,7,8,9,10] [2,1,0] [0] (.f h1<|.e) [1]) (fun h=>nomatch h)
theorem zph (a b:Int) (d:Nat) (f:Int) (g:List Int) (j l:Int) (h1:f≥0) (h2:0≤f) (h3:f<(↑((aZ a).length):Int)) (h4:f.toNat<(aZ a).length) (h5:1≤List.length [(aZ a).getD f.toNat 0]) (h6:1≤(List.take 1 [(aZ a).getD f.toNat 0]++[]).length) (h7:pTr ((List.take 1 [(aZ a).getD f.toNat 0]++[]).take 1)) (hL1:zgl (zcr a b d (trm ((List.take 1 [(aZ a).getD f.toNat 0]++[]).take 1)) f g ([(aZ a).getD f.toNat 0]) (0) (99999999)) (Ex.exit 2,(ze8 a b d (trm ((List.take 1 [(aZ a).getD f.toNat 0]++[]).take 1)) f g ([(aZ a).getD f.toNat 0]) j l))) (h9:f<(d:Int)) (h10:0+f.toNat*1<g.length) (h11:1≤List.length [j]) (h12:pMu (aZ b) (List.take 1 [j])) (h13:pSu (trm ((List.take 1 [(aZ a).getD f.toNat 0]++[]).take 1)) (aZ (vl (aZ b)*vl (List.take 1 [j])))) (h14:r64 (f-1)) {r:Ex × St} (k:zep (zfa a b d f g (vl (trm ((List.take 1 [(aZ a).getD f.toNat 0]++[]).take 1))-vl (aZ (vl (aZ b)*vl (List.take 1 [j])))) (f-1) (g.set (0+f.toNat*1) j)) r):zep (ze9 a b d f g) r:=Loops.go (LS.at okF6 60 [] [0,1,6,7,8] [0] [1] (.t h1<|.t h2<|.t h3<|.t h4<|.t h5<|.c h6<|.c h7<|.v [0,1,6,7,8,9,10] [2,1,0] hL1<|.t h9<|.t h10<|.c h11<|.c h12<|.c h13<|.i h14<|.e) [1,2,3,4,0,0,5,0,6,7,0,8,2,9,10,11,12,13,14]) k
theorem zpi (a b:Int) (c:Nat) (d:Int) (g:List Int) (h1:¬(d≥0)):zep (ze9 a b c d g) (Ex.exit 0,(zlC a b c d g)):=Loops.fin (LS.at okF6 60 [] [0,1,6,7,8] [0] [0] (.f h1<|.e) [1]) (fun h=>nomatch h)
theorem zpj (a b:Int) (d:Nat) (f:Int) (g:List Int) (j l:Int) (m:List Int) (n o:Int) (h1:l≥0) (h2:0≤l) (h3:l<(↑((aZ a).length):Int)) (h4:l.toNat<(aZ a).length) (h5:(1+(aZ j).length)*8≤140737488355328) (h6:1+(aZ j).length≤4611686018427387904) (h7:1≤List.length [(aZ a).getD l.toNat 0]) (h8:1+(aZ j).length≤(List.take 1 [(aZ a).getD l.toNat 0]++aZ j).length) (h9:pTr ((List.take 1 [(aZ a).getD l.toNat 0]++aZ j).take (1+(aZ j).length))) (hL1:zgl (zcr a b d (trm ((List.take 1 [(aZ a).getD l.toNat 0]++aZ j).take (1+(aZ j).length))) l m (List.take 1 [(aZ a).getD l.toNat 0]++aZ j) (0) (99999999)) (Ex.exit 2,(ze8 a b d (trm ((List.take 1 [(aZ a).getD l.toNat 0]++aZ j).take (1+(aZ j).length))) l m (List.take 1 [(aZ a).getD l.toNat 0]++aZ j) n o))) (h11:l<(d:Int)) (h12:0+l.toNat*1<m.length) (h13:1≤List.length [n]) (h14:pMu (aZ b) (List.take 1 [n])) (h15:pSu (trm ((List.take 1 [(aZ a).getD l.toNat 0]++aZ j).take (1+(aZ j).length))) (aZ (vl (aZ b)*vl (List.take 1 [n])))) (h16:r64 (l-1)) {r:Ex × St} (k:zep (zfa a b d f g (vl (trm ((List.take 1 [(aZ a).getD l.toNat 0]++aZ j).take (1+(aZ j).length)))-vl (aZ (vl (aZ b)*vl (List.take 1 [n])))) (l-1) (m.set (0+l.toNat*1) n)) r):zep (zfa a b d f g j l m) r:=Loops.go (LS.at okF6 60 [] [0,1,6,7,8] [0] [1] (.t h1<|.t h2<|.t h3<|.t h4<|.t h5<|.t h6<|.t h7<|.c (show decide ((aZ j).length=(aZ j).length)=true from decide_eq_true rfl)<|.c h8<|.c h9<|.v [0,1,6,7,8,9,10] [2,1,0] hL1<|.t h11<|.t h12<|.c h13<|.c h14<|.c h15<|.i h16<|.e) [1,2,3,4,5,6,7,8,9,10,0,11,2,12,13,14,15,16,17]) k
theorem zpk (a b:Int) (c:Nat) (d:Int) (g:List Int) (i j:Int) (l:List Int) (h1:¬(j≥0)):zep (zfa a b c d g i j l) (Ex.exit 0,(zfb a b c d g i j l)):=Loops.fin (LS.at okF6 60 [] [0,1,6,7,8] [0] [0] (.f h1<|.e) [1]) (fun h=>nomatch h)
theorem rdv_0 (a b:Int) (h1:0≤(↑((aZ a).length):Int)) (h2:(↑((aZ a).length):Int)≤(↑((aZ a).length):Int)) (h3:8*(↑((aZ a).length):Int)≤281474976710656) (h4:(↑((aZ a).length):Int)≤9223372036854775807) (h5:r64 ((↑((aZ a).length):Int)-1)) (hL1:zep (ze9 a b (↑((aZ a).length):Int).toNat ((↑((aZ a).length):Int)-1) (zaJ (↑((aZ a).length):Int).toNat)) (Ex.exit 0,(zlC a b (↑((aZ a).length):Int).toNat ((↑((aZ a).length):Int)-1) (zaJ (↑((aZ a).length):Int).toNat)))) (h7:(↑((aZ a).length):Int).toNat≤(zaJ (↑((aZ a).length):Int).toNat).length) (h8:pTr ((zaJ (↑((aZ a).length):Int).toNat).take (↑((aZ a).length):Int).toNat)):FC Tryz.prog 181 [.ni a,.ni b] (.tup [.sq (trm ((zaJ (↑((aZ a).length):Int).toNat).take (↑((aZ a).length):Int).toNat)),aN]):=fZ okF6 60 [] (.t h1<|.t h2<|.t h3<|.t h4<|.i h5<|.v [0,1,6,7,8] [0] hL1<|.c h7<|.c h8<|.e) [1,2,3,4,5,0,6,7,8]
theorem rdv_1 (a b d f:Int) (g:List Int) (h1:0≤(↑((aZ a).length):Int)) (h2:(↑((aZ a).length):Int)≤(↑((aZ a).length):Int)) (h3:8*(↑((aZ a).length):Int)≤281474976710656) (h4:(↑((aZ a).length):Int)≤9223372036854775807) (h5:r64 ((↑((aZ a).length):Int)-1)) (hL1:zep (ze9 a b (↑((aZ a).length):Int).toNat ((↑((aZ a).length):Int)-1) (zaJ (↑((aZ a).length):Int).toNat)) (Ex.exit 0,(zfb a b (↑((aZ a).length):Int).toNat ((↑((aZ a).length):Int)-1) (zaJ (↑((aZ a).length):Int).toNat) d f g))) (h7:(↑((aZ a).length):Int).toNat≤g.length) (h8:pTr (g.take (↑((aZ a).length):Int).toNat)):FC Tryz.prog 181 [.ni a,.ni b] (.tup [.sq (trm (g.take (↑((aZ a).length):Int).toNat)),.ni d]):=fZ okF6 60 [] (.t h1<|.t h2<|.t h3<|.t h4<|.i h5<|.v [0,1,6,7,8] [0] hL1<|.c h7<|.c h8<|.e) [1,2,3,4,5,0,6,7,8]
end
theorem rCmp_fc (x y:List Int) (h:pSu x y):FC Tryz.prog 160 [.sq x,.sq y] (.lit (.int .i64 (vl x-vl y).sign)):=by
  have hz:Sz 400000 (vl x-vl y):=by
    rw [Int.sub_eq_add_neg];exact Sz.add h.1.sz h.2.sz.neg (by decide) (by decide)
  have:=rcm_0 x y h (kZ hz (Nat.le_refl _))
  rwa [cZ] at this
theorem v1 (d:Int):vl (List.take 1 [d])=d:=by simp [vl]
theorem bs_loop (a b R:Int) (n6:Nat) (t8:Int) (lr0 lr2:List Int) (hb:0<b) (hR:0≤R) (sb:Sz 100000 b) (sR:Sz 200000 R):∀(m:Nat) (lo hi:Int),(hi-lo).toNat≤m→0≤lo→lo≤hi→hi≤99999999→b*lo≤R→R<b*(hi+1) →
    zgl (zcr a b n6 (aZ R) t8 lr0 lr2 lo hi) (.exit 2,ze8 a b n6 (aZ R) t8 lr0 lr2 (R / b) (R / b)):=by
  intro m
  induction m with
  | zero=>
    intro lo hi hm h0 h1 h2 h3 h4
    have e:hi=lo:=by omega
    subst e
    have hq:R / b=hi:=by
      have u1:hi≤R / b:=(Int.le_ediv_iff_mul_le hb).2 (by rw [Int.mul_comm];exact h3)
      have u2:R / b<hi+1:=(Int.ediv_lt_iff_lt_mul hb).2 (by rw [Int.mul_comm];exact h4)
      omega
    rw [hq]
    exact zpg a b n6 _ t8 lr0 lr2 hi hi (by omega)
  | succ m ih=>
    intro lo hi hm h0 h1 h2 h3 h4
    by_cases hlt:lo<hi
    · have hmid:Int.tdiv (lo+hi+1) 2=(lo+hi+1) / 2:=Int.tdiv_eq_ediv_of_nonneg (by omega)
      have hm1:lo<(lo+hi+1) / 2:=by omega
      have hm2:(lo+hi+1) / 2≤hi:=by omega
      have sm:Sz 1 ((lo+hi+1) / 2):=by unfold Sz;omega
      have hmu:pMu (aZ b) (List.take 1 [(lo+hi+1) / 2]):=⟨kZ sb (by decide),by simp,fun d hd=>by simp at hd;subst hd;unfold bZ;omega⟩
      have hprod:0≤b*((lo+hi+1) / 2):=Int.mul_nonneg (by omega) (by omega)
      have hle:zoJ (aZ R) (aZ (vl (aZ b)*vl (List.take 1 [(lo+hi+1) / 2]))):=by
        rw [cZ,v1]
        exact ⟨⟨by rw [cZ],by rw [cZ]⟩,⟨by rw [cZ];exact hR,by rw [cZ];exact hprod⟩,by rw [cZ];exact sR.mono (by decide),by rw [cZ];exact(sb.mul sm).mono (by decide)⟩
      have hlt2:(vl (aZ R)<vl (aZ (vl (aZ b)*vl (List.take 1 [(lo+hi+1) / 2]))))=(R<b*((lo+hi+1) / 2)):=by rw [cZ,cZ,cZ,v1]
      by_cases hc:R<b*((lo+hi+1) / 2)
      · refine zpe a b n6 _ t8 lr0 lr2 lo hi hlt (by omega) (by omega) ?_ ?_ ?_ ?_ ?_ ?_ ?_<;>rw [hmid]
        · omega
        · simp
        · exact hmu
        · exact hle
        · rw [hlt2];exact hc
        · omega
        · exact ih lo ((lo+hi+1) / 2-1) (by omega) h0 (by omega) (by omega) h3 (by rw [Int.sub_add_cancel];exact hc)
      · refine zpf a b n6 _ t8 lr0 lr2 lo hi hlt (by omega) (by omega) ?_ ?_ ?_ ?_ ?_ ?_<;>rw [hmid]
        · omega
        · simp
        · exact hmu
        · exact hle
        · rw [hlt2];exact hc
        · exact ih ((lo+hi+1) / 2) hi (by omega) (by omega) hm2 h2 (by omega) h4
    · have e:hi=lo:=by omega
      exact ih lo hi (by omega) h0 h1 h2 h3 h4
theorem zn0 {d R:Int} (h0:0≤d) (h1:d<100000000) (hR:0≤R):trm (List.take (1+(aZ R).length) (List.take 1 [d]++aZ R))=aZ (d+100000000*R):=by
  have hn:aZ R=digs R.natAbs:=by unfold aZ;rw [if_neg (by omega)]
  have hd:Digs (d :: aZ R):=fun e he=>by
    rcases List.mem_cons.1 he with rfl | he
    · exact ⟨h0,h1⟩
    · rw [hn] at he;exact rZ _ e he
  have ht:List.take (1+(aZ R).length) (List.take 1 [d]++aZ R)=d :: aZ R:=by
    rw [List.take_of_length_le (by simp;omega)];rfl
  rw [ht,zns hd]
  simp only [vl,cZ]
theorem trm_one {d:Int} (h0:0≤d) (h1:d<100000000):trm (List.take 1 (List.take 1 [d]++[]))=aZ d:=by
  have:=zn0 (R:=0) h0 h1 (Int.le_refl _)
  have e:aZ 0=[]:=rfl
  rw [e] at this
  simpa using this
theorem Digs_st {l:List Int} {k:Nat} {e:Int} (h:Digs l) (h0:0≤e) (h1:e<100000000):Digs (l.set k e):=by
  intro d hd
  rcases List.mem_or_eq_of_mem_set hd with h2 | h2
  · exact h d h2
  · subst h2;exact ⟨h0,h1⟩
theorem zh5 {q:List Int} {k:Nat} {e:Int} (h:k<q.length):vl ((q.set k e).drop k)=e+100000000*vl (q.drop (k+1)):=by
  have h2:k<(q.set k e).length:=by simpa using h
  rw [List.drop_eq_getElem_cons h2]
  simp only [vl,List.getElem_set_self]
  rw [List.drop_set_of_lt (by omega)]
theorem sz_step {k:Nat} {b R:Int} (sb:Sz k b) (h0:0≤R) (h1:R<b*(99999999+1)) (hb:0<b):Sz (k+1) R:=by
  unfold Sz at *
  rw [Nat.pow_succ]
  omega
theorem dv_key {A b R d:Int} (hb:0<b) (hR:R=A % b) (h0:0≤d) (h1:d<100000000) :
    let R':=d+100000000*R
    0≤R'∧R'<b*(99999999+1)∧0≤R' / b∧R' / b≤99999999∧R'-b*(R' / b)=(d+100000000*A) % b∧R' / b+100000000*(A / b)=(d+100000000*A) / b:=by
  intro R'
  have e1:=Int.emod_nonneg A (show b≠0 by omega)
  have e2:=Int.emod_lt_of_pos A hb
  have e3:=Int.mul_ediv_add_emod A b
  have hR0:0≤R':=by show 0≤d+100000000*R;omega
  have hlt:R'<b*(99999999+1):=by show d+100000000*R<b*(99999999+1);omega
  have e4:=Int.mul_ediv_add_emod R' b
  have e5:=Int.emod_nonneg R' (show b≠0 by omega)
  have e6:=Int.emod_lt_of_pos R' hb
  have hq0:0≤R' / b:=Int.ediv_nonneg hR0 (by omega)
  have hq1:R' / b<99999999+1:=(Int.ediv_lt_iff_lt_mul hb).2 (by rw [Int.mul_comm];exact hlt)
  have hval:d+100000000*A=b*(R' / b+100000000*(A / b))+R' % b:=by
    have:A=b*(A / b)+R:=by rw [hR];exact e3.symm
    have h7:R'=d+100000000*R:=rfl
    grind
  refine ⟨hR0,hlt,hq0,by omega,?_,?_⟩
  · rw [hval,Int.add_comm,Int.add_mul_emod_self_left,Int.emod_eq_of_lt e5 e6];omega
  · rw [hval,Int.add_comm (b*_),Int.add_mul_ediv_left _ _ (by omega),Int.ediv_eq_zero_of_lt e5 e6];omega
theorem dv_loop (a b:Int) (ha:0≤a) (hb:0<b) (sa:dl a≤100000) (sb:Sz 99999 b) (n0:Nat) (t0:Int) (l0:List Int) (hn0:n0=dl a) :
    ∀(k:Nat),k≤dl a→∀(R:Int) (q:List Int),R=vl ((aZ a).drop k) % b→q.length=dl a→Digs q→vl (q.drop k)=vl ((aZ a).drop k) / b →
      ∃q',q'.length=dl a∧Digs q'∧vl q'=a / b∧zep (zfa a b n0 t0 l0 R ((k:Int)-1) q) (.exit 0,zfb a b n0 t0 l0 (a % b) (-1) q')
  | 0,_,R,q,hR,hq,hd,hv=>by
    rw [List.drop_zero,cZ] at hR
    rw [List.drop_zero,List.drop_zero,cZ] at hv
    refine ⟨q,hq,hd,hv,?_⟩
    rw [hR]
    exact zpk a b n0 t0 l0 _ _ q (by omega)
  | k + 1,hk,R,q,hR,hq,hd,hv=>by
    have la:=eZ a
    have hn:aZ a=digs a.natAbs:=by unfold aZ;rw [if_neg (by omega)]
    have hlt:k<(aZ a).length:=by omega
    have hdk:0≤(aZ a).getD k 0∧(aZ a).getD k 0<100000000:=by
      have:(aZ a).getD k 0∈aZ a:=by simp [List.getD,hlt]
      rw [hn] at this ⊢;exact rZ _ _ this
    have hdr:(aZ a).drop k=(aZ a).getD k 0 :: (aZ a).drop (k+1):=by rw [List.drop_eq_getElem_cons hlt];simp [List.getD,hlt]
    have hvk:vl ((aZ a).drop k)=(aZ a).getD k 0+100000000*vl ((aZ a).drop (k+1)):=by rw [hdr];rfl
    obtain ⟨r0,r1,r2,r3,r4,r5⟩:=dv_key hb hR hdk.1 hdk.2
    have hR0:0≤R:=by rw [hR];exact Int.emod_nonneg _ (by omega)
    have hRb:R<b:=by rw [hR];exact Int.emod_lt_of_pos _ hb
    have sR:Sz 200000 ((aZ a).getD k 0+100000000*R):=(sz_step sb r0 r1 hb).mono (by decide)
    obtain ⟨q',g1,g2,g3,g4⟩:=dv_loop a b ha hb sa sb n0 t0 l0 hn0 k (by omega) ((aZ a).getD k 0+100000000*R-b*(((aZ a).getD k 0+100000000*R) / b)) (q.set k (((aZ a).getD k 0+100000000*R) / b))
      (by rw [hvk,r4]) (by simp [hq]) (Digs_st hd r2 (by omega)) (by rw [zh5 (by omega),hv,hvk];exact r5)
    refine ⟨q',g1,g2,g3,?_⟩
    have hc:((k+1:Nat):Int)-1=(k:Int):=by omega
    have hk0:Int.toNat (k:Int)=k:=by omega
    have hk1:0+k*1=k:=by omega
    have lR:(aZ R).length≤99999:=by
      rw [eZ]
      refine zhj ?_
      unfold Sz at sb ⊢
      omega
    have tc:=zn0 hdk.1 hdk.2 hR0
    have bs:=bs_loop a b _ n0 k q (List.take 1 [(aZ a).getD k 0]++aZ R) hb r0 (sb.mono (by decide)) sR 99999999 0 99999999 (by omega) (by omega) (by omega) (by omega) (by omega) r1
    have sq:Sz 1 (((aZ a).getD k 0+100000000*R) / b):=by unfold Sz;omega
    rw [hc]
    refine zpj a b n0 t0 l0 R k q (((aZ a).getD k 0+100000000*R) / b) (((aZ a).getD k 0+100000000*R) / b) (by omega) (by omega) (by omega) (by omega) (by omega) (by omega) ?_ ?_ ?_ ?_ (by omega) (by omega) ?_ ?_ ?_ (by omega) ?_<;>(try simp only [hk0,hk1,tc])
    · simp
    · simp;omega
    · unfold pTr;simp;omega
    · exact bs
    · simp
    · exact ⟨kZ sb (by decide),by simp,fun e he=>by rw [List.mem_singleton.1 he];unfold bZ;omega⟩
    · rw [cZ,v1];exact ⟨kZ sR (by decide),kZ (sb.mul sq) (by decide)⟩
    · rw [cZ,cZ,cZ,v1];exact g4
def pDv (a b:Int):Prop:=(0≤a∧0<b)∧Sz 90000 a∧Sz 90000 b
instance tDv {a b:Int}:Tst (pDv a b):=inferInstanceAs (Tst ((0≤a∧0<b)∧Sz 90000 a∧Sz 90000 b))
theorem zpd (a b:Int) (h:pDv a b):FC Tryz.prog 181 [.ni a,.ni b] (.tup [.ni (a / b),.ni (a % b)]):=by
  obtain ⟨⟨ha,hb⟩,sa,sb⟩:=h
  have la:=eZ a
  have da:=zhj sa
  have hN:Int.toNat ((aZ a).length:Int)=dl a:=by rw [la];omega
  have hz:List.take (dl a) (zaJ (dl a))=zaJ (dl a):=List.take_of_length_le (by simp)
  by_cases h0:dl a=0
  · have ha0:a=0:=dl_zero.1 h0
    have:=rdv_0 a b (by omega) (by omega) (by omega) (by omega) (by omega) (zpi a b _ _ _ (by omega)) (by simp) (by unfold pTr;simp;omega)
    rw [hN,h0] at this
    refine this.res fun E v hv=>hv.tup2 (fun u hu=>?_) (fun u hu=>?_)
    · rw [ha0,Int.zero_ediv];exact hu.toNi rfl rfl
    · rw [ha0,Int.zero_emod];exact hu.toNi rfl rfl
  · have hlt:dl a-1<(aZ a).length:=by omega
    have hn:aZ a=digs a.natAbs:=by unfold aZ;rw [if_neg (by omega)]
    have hk0:Int.toNat (((aZ a).length:Int)-1)=dl a-1:=by omega
    have hdk:0≤(aZ a).getD (dl a-1) 0∧(aZ a).getD (dl a-1) 0<100000000:=by
      have:(aZ a).getD (dl a-1) 0∈aZ a:=by simp [List.getD,hlt]
      rw [hn] at this ⊢;exact rZ _ _ this
    have hdr:(aZ a).drop (dl a-1)=[(aZ a).getD (dl a-1) 0]:=by
      rw [List.drop_eq_getElem_cons hlt,List.drop_of_length_le (by omega)];simp [List.getD,hlt]
    have hvk:vl ((aZ a).drop (dl a-1))=(aZ a).getD (dl a-1) 0+100000000*0:=by rw [hdr];simp [vl]
    obtain ⟨r0,r1,r2,r3,r4,r5⟩:=dv_key (A:=0) (R:=0) hb (by simp) hdk.1 hdk.2
    have hD:(aZ a).getD (dl a-1) 0+100000000*0=(aZ a).getD (dl a-1) 0:=by omega
    have sD:Sz 200000 ((aZ a).getD (dl a-1) 0+100000000*0):=by refine Sz.mono (j:=1) ?_ (by decide);unfold Sz;omega
    have sq:Sz 1 (((aZ a).getD (dl a-1) 0+100000000*0) / b):=by unfold Sz;omega
    have zl:(zaJ (dl a)).length=dl a:=by simp
    have zd:Digs (zaJ (dl a)):=fun d hd=>by have:=List.eq_of_mem_replicate hd;omega
    obtain ⟨q',g1,g2,g3,g4⟩:=dv_loop a b ha hb (by omega) (sb.mono (by decide)) (dl a) ((aZ a).length-1:Int) (zaJ (dl a)) rfl (dl a-1) (by omega)
      ((aZ a).getD (dl a-1) 0+100000000*0-b*(((aZ a).getD (dl a-1) 0+100000000*0) / b)) ((zaJ (dl a)).set (dl a-1) (((aZ a).getD (dl a-1) 0+100000000*0) / b))
      (by rw [hvk];exact r4) (by simp) (Digs_st zd r2 (by omega)) (by
        rw [zh5 (by omega),hvk,List.drop_of_length_le (by omega)]
        simp only [vl]
        rw [← r5,Int.zero_ediv];simp)
    have tc:=trm_one hdk.1 hdk.2
    have bs:=bs_loop a b _ (dl a) ((aZ a).length-1:Int) (zaJ (dl a)) [(aZ a).getD (dl a-1) 0] hb r0 (sb.mono (by decide)) sD 99999999 0 99999999 (by omega) (by omega) (by omega) (by omega) (by omega) r1
    have hL:zep (ze9 a b (dl a) ((aZ a).length-1:Int) (zaJ (dl a))) (.exit 0,zfb a b (dl a) ((aZ a).length-1:Int) (zaJ (dl a)) (a % b) (-1) q'):=by
      have hc:((dl a-1:Nat):Int)-1=((aZ a).length:Int)-1-1:=by omega
      have r2':=r2
      have r3':=r3
      rw [hD] at r2' r3' g4 bs sD sq
      refine zph a b (dl a) _ (zaJ (dl a)) ((aZ a).getD (dl a-1) 0 / b) ((aZ a).getD (dl a-1) 0 / b) (by omega) (by omega) (by omega) (by omega) ?_ ?_ ?_ ?_ (by omega) (by omega) ?_ ?_ ?_ (by omega) ?_<;>(try simp only [hk0,tc])
      · simp
      · simp
      · unfold pTr;simp
      · exact bs
      · simp
      · exact ⟨kZ sb (by decide),by simp,fun e he=>by rw [List.mem_singleton.1 he];unfold bZ;omega⟩
      · rw [cZ,v1];exact ⟨kZ sD (by decide),kZ (sb.mul sq) (by decide)⟩
      · rw [cZ,cZ,cZ,v1,show 0+(dl a-1)*1=dl a-1 by omega,← hc];exact g4
    rw [← hN] at hL
    have ht:List.take (dl a) q'=q':=by rw [← g1];exact List.take_length
    have:=rdv_1 a b (a % b) (-1) q' (by omega) (by omega) (by omega) (by omega) (by omega) hL (by omega) (by rw [hN,ht];unfold pTr;omega)
    rw [hN,ht,zns g2,g3] at this
    exact this.res fun E v hv=>hv.tup2 (fun u hu=>hu.toNi rfl rfl) (fun _ hu=>hu)
def ctrF7:Ctr:=(160,cLL pSu (fun x y=>.lit (.int .i64 (vl x-vl y).sign))) :: (181,n2 pDv (fun a b=>.tup [.ni (a / b),.ni (a % b)])) :: ctrF6
theorem zkG:∀p∈ctrF7,lZ Tryz.prog p.1 p.2:=CAll.cons (zcd rCmp_fc)<|CAll.cons (n2_ok zpd) zkF
theorem okF7:(dZ Tryz.prog ctrF7 bw).OK:=QZ zkG
noncomputable section
theorem rdm_0 (x y:List Int) (h1:pNm x) (h2:pNm y) (h3:(↑((aZ (vl y)).length):Int)=0):FC Tryz.prog 140 [.sq x,.sq y] (.tup [aN,aN,aI 12]):=fZ okF7 60 [1] (.c h1<|.c h2<|.c (beq_iff_eq.2 h3)<|.e) [1,2,3]
theorem rdm_1 (x y:List Int) (h1:pNm x) (h2:pNm y) (h3:(↑((aZ (vl y)).length):Int)≠0) (h4:pNg (vl x)) (h5:pNg (vl y)) (h6:pDv (↑((vl x).natAbs):Int) (↑((vl y).natAbs):Int)) (h7:vl x<0) (h8:pX (aZ ((↑((vl x).natAbs):Int) / (↑((vl y).natAbs):Int)))) (h9:pX (aZ ((↑((vl x).natAbs):Int) % (↑((vl y).natAbs):Int)))) (h10:(↑((aZ (-vl (aZ ((↑((vl x).natAbs):Int) % (↑((vl y).natAbs):Int))))).length):Int) > 0) (h11:1≤1) (h12:pSu (aZ (-vl (aZ ((↑((vl x).natAbs):Int) / (↑((vl y).natAbs):Int))))) (List.take 1 [1])) (h13:pAd (aZ (-vl (aZ ((↑((vl x).natAbs):Int) % (↑((vl y).natAbs):Int))))) (aZ (↑((vl y).natAbs):Int))) (h14:vl y<0) (h15:pX (aZ (vl (aZ (-vl (aZ ((↑((vl x).natAbs):Int) / (↑((vl y).natAbs):Int)))))-1))):FC Tryz.prog 140 [.sq x,.sq y] (.tup [.ni (-vl (aZ (vl (aZ (-vl (aZ ((↑((vl x).natAbs):Int) / (↑((vl y).natAbs):Int)))))-1))),.ni (vl (aZ (-vl (aZ ((↑((vl x).natAbs):Int) % (↑((vl y).natAbs):Int)))))+vl (aZ (↑((vl y).natAbs):Int))),aI 0]):=fZ okF7 60 [0,1,1,1] (.c h1<|.c h2<|.c (beq_false_of_ne h3)<|.c h4<|.c h5<|.c h6<|.t h7<|.c h8<|.c h9<|.t h10<|.c h11<|.c h12<|.c h13<|.t h14<|.c h15<|.e) [1,2,3,4,5,6,4,7,8,9,10,11,12,5,13,5,14,15]
theorem rdm_2 (x y:List Int) (h1:pNm x) (h2:pNm y) (h3:(↑((aZ (vl y)).length):Int)≠0) (h4:pNg (vl x)) (h5:pNg (vl y)) (h6:pDv (↑((vl x).natAbs):Int) (↑((vl y).natAbs):Int)) (h7:vl x<0) (h8:pX (aZ ((↑((vl x).natAbs):Int) / (↑((vl y).natAbs):Int)))) (h9:pX (aZ ((↑((vl x).natAbs):Int) % (↑((vl y).natAbs):Int)))) (h10:(↑((aZ (-vl (aZ ((↑((vl x).natAbs):Int) % (↑((vl y).natAbs):Int))))).length):Int) > 0) (h11:1≤1) (h12:pSu (aZ (-vl (aZ ((↑((vl x).natAbs):Int) / (↑((vl y).natAbs):Int))))) (List.take 1 [1])) (h13:pAd (aZ (-vl (aZ ((↑((vl x).natAbs):Int) % (↑((vl y).natAbs):Int))))) (aZ (↑((vl y).natAbs):Int))) (h14:¬(vl y<0)):FC Tryz.prog 140 [.sq x,.sq y] (.tup [.ni (vl (aZ (-vl (aZ ((↑((vl x).natAbs):Int) / (↑((vl y).natAbs):Int)))))-1),.ni (vl (aZ (-vl (aZ ((↑((vl x).natAbs):Int) % (↑((vl y).natAbs):Int)))))+vl (aZ (↑((vl y).natAbs):Int))),aI 0]):=fZ okF7 60 [0,1,1,0] (.c h1<|.c h2<|.c (beq_false_of_ne h3)<|.c h4<|.c h5<|.c h6<|.t h7<|.c h8<|.c h9<|.t h10<|.c h11<|.c h12<|.c h13<|.f h14<|.e) [1,2,3,4,5,6,4,7,8,9,10,11,12,5,13,5,14]
theorem rdm_3 (x y:List Int) (h1:pNm x) (h2:pNm y) (h3:(↑((aZ (vl y)).length):Int)≠0) (h4:pNg (vl x)) (h5:pNg (vl y)) (h6:pDv (↑((vl x).natAbs):Int) (↑((vl y).natAbs):Int)) (h7:vl x<0) (h8:pX (aZ ((↑((vl x).natAbs):Int) / (↑((vl y).natAbs):Int)))) (h9:pX (aZ ((↑((vl x).natAbs):Int) % (↑((vl y).natAbs):Int)))) (h10:¬((↑((aZ (-vl (aZ ((↑((vl x).natAbs):Int) % (↑((vl y).natAbs):Int))))).length):Int) > 0)) (h11:vl y<0) (h12:pX (aZ (-vl (aZ ((↑((vl x).natAbs):Int) / (↑((vl y).natAbs):Int)))))):FC Tryz.prog 140 [.sq x,.sq y] (.tup [.ni (-vl (aZ (-vl (aZ ((↑((vl x).natAbs):Int) / (↑((vl y).natAbs):Int)))))),.ni (-vl (aZ ((↑((vl x).natAbs):Int) % (↑((vl y).natAbs):Int)))),aI 0]):=fZ okF7 60 [0,1,0,1] (.c h1<|.c h2<|.c (beq_false_of_ne h3)<|.c h4<|.c h5<|.c h6<|.t h7<|.c h8<|.c h9<|.f h10<|.t h11<|.c h12<|.e) [1,2,3,4,5,6,4,7,8,9,10,5,11,12]
theorem rdm_4 (x y:List Int) (h1:pNm x) (h2:pNm y) (h3:(↑((aZ (vl y)).length):Int)≠0) (h4:pNg (vl x)) (h5:pNg (vl y)) (h6:pDv (↑((vl x).natAbs):Int) (↑((vl y).natAbs):Int)) (h7:vl x<0) (h8:pX (aZ ((↑((vl x).natAbs):Int) / (↑((vl y).natAbs):Int)))) (h9:pX (aZ ((↑((vl x).natAbs):Int) % (↑((vl y).natAbs):Int)))) (h10:¬((↑((aZ (-vl (aZ ((↑((vl x).natAbs):Int) % (↑((vl y).natAbs):Int))))).length):Int) > 0)) (h11:¬(vl y<0)):FC Tryz.prog 140 [.sq x,.sq y] (.tup [.ni (-vl (aZ ((↑((vl x).natAbs):Int) / (↑((vl y).natAbs):Int)))),.ni (-vl (aZ ((↑((vl x).natAbs):Int) % (↑((vl y).natAbs):Int)))),aI 0]):=fZ okF7 60 [0,1,0,0] (.c h1<|.c h2<|.c (beq_false_of_ne h3)<|.c h4<|.c h5<|.c h6<|.t h7<|.c h8<|.c h9<|.f h10<|.f h11<|.e) [1,2,3,4,5,6,4,7,8,9,10,5,11]
theorem rdm_5 (x y:List Int) (h1:pNm x) (h2:pNm y) (h3:(↑((aZ (vl y)).length):Int)≠0) (h4:pNg (vl x)) (h5:pNg (vl y)) (h6:pDv (↑((vl x).natAbs):Int) (↑((vl y).natAbs):Int)) (h7:¬(vl x<0)) (h8:vl y<0) (h9:pX (aZ ((↑((vl x).natAbs):Int) / (↑((vl y).natAbs):Int)))):FC Tryz.prog 140 [.sq x,.sq y] (.tup [.ni (-vl (aZ ((↑((vl x).natAbs):Int) / (↑((vl y).natAbs):Int)))),.ni ((↑((vl x).natAbs):Int) % (↑((vl y).natAbs):Int)),aI 0]):=fZ okF7 60 [0,0,1] (.c h1<|.c h2<|.c (beq_false_of_ne h3)<|.c h4<|.c h5<|.c h6<|.f h7<|.t h8<|.c h9<|.e) [1,2,3,4,5,6,4,7,5,8,9]
theorem rdm_6 (x y:List Int) (h1:pNm x) (h2:pNm y) (h3:(↑((aZ (vl y)).length):Int)≠0) (h4:pNg (vl x)) (h5:pNg (vl y)) (h6:pDv (↑((vl x).natAbs):Int) (↑((vl y).natAbs):Int)) (h7:¬(vl x<0)) (h8:¬(vl y<0)):FC Tryz.prog 140 [.sq x,.sq y] (.tup [.ni ((↑((vl x).natAbs):Int) / (↑((vl y).natAbs):Int)),.ni ((↑((vl x).natAbs):Int) % (↑((vl y).natAbs):Int)),aI 0]):=fZ okF7 60 [0,0,0] (.c h1<|.c h2<|.c (beq_false_of_ne h3)<|.c h4<|.c h5<|.c h6<|.f h7<|.f h8<|.e) [1,2,3,4,5,6,4,7,5,8]
abbrev zlE (s:St) (r:Ex × St):Prop:=Loops 0 Tryz.prog (pZ Tryz.prog 139 0) s r
abbrev zfg (a b:Int):St:=⟨sp 27 [(5,.ni a),(6,.ni b)],[],[]⟩
abbrev zhN (a b:Int):St:=⟨sp 27 [(5,.ni a),(6,.ni b)],[],[]⟩
theorem zpm (a b:Int) (h1:(↑((aZ b).length):Int) > 0) (h2:pDv a b) {r:Ex × St} (k:zlE (zfg b (a % b)) r):zlE (zfg a b) r:=Loops.go (LS.at okF7 60 [] [5,6] [] [1] (.t h1<|.c h2<|.e) [1,2]) k
theorem ziX (a b:Int) (h1:¬((↑((aZ b).length):Int) > 0)):zlE (zfg a b) (Ex.exit 0,(zhN a b)):=Loops.fin (LS.at okF7 60 [] [5,6] [] [0] (.f h1<|.e) [1]) (fun h=>nomatch h)
theorem rgc_0 (x y:List Int) (a b:Int) (h1:pNm x) (h2:pNg (vl x)) (h3:pNm y) (h4:pNg (vl y)) (hL1:zlE (zfg ((↑((vl x).natAbs):Int)) ((↑((vl y).natAbs):Int))) (Ex.exit 0,(zhN a b))):FC Tryz.prog 139 [.sq x,.sq y] (.ni a):=fZ okF7 60 [] (.c h1<|.c h2<|.c h3<|.c h4<|.v [5,6] [] hL1<|.e) [1,2,3,4,0,5]
end
theorem Sz_abs {k:Nat} {z:Int} (h:Sz k z):Sz k (z.natAbs:Int):=by unfold Sz at *;rw [Int.natAbs_natCast];exact h
theorem dm_neg {a b:Int} (hb:0<b):(a % b≠0→(-a) / b = -(a / b)-1∧(-a) % b = -(a % b)+b)∧(a % b=0→(-a) / b = -(a / b)∧(-a) % b = -(a % b)):=by
  have e1:=Int.mul_ediv_add_emod a b
  have e2:=Int.emod_nonneg a (show b≠0 by omega)
  have e3:=Int.emod_lt_of_pos a hb
  constructor
  · intro h
    refine (Int.ediv_emod_unique hb).2 ⟨?_,by omega,by omega⟩
    have:b*(-(a / b)-1) = -(b*(a / b))-b:=by rw [Int.mul_sub,Int.mul_neg,Int.mul_one]
    rw [this];omega
  · intro h
    refine (Int.ediv_emod_unique hb).2 ⟨?_,by omega,by omega⟩
    rw [Int.mul_neg];omega
theorem tup3 {P:Program} {f:FuncId} {args:List AV} {q r q' r':Int} {e:AV} (h:FC P f args (.tup [.ni q,.ni r,e])) (hq:q=q') (hr:r=r'):FC P f args (.tup [.ni q',.ni r',e]):=by rw [← hq,← hr];exact h
def pDM (x y:List Int):Prop:=pQ 80000 x∧pQ 80000 y
def pDM0 (x y:List Int):Prop:=pDM x y∧vl y=0
def pDM1 (x y:List Int):Prop:=pDM x y∧vl y≠0
theorem rdm0_fc (x y:List Int) (h:pDM0 x y):FC Tryz.prog 140 [.sq x,.sq y] (.tup [.lit (.slice none 0 0),.lit (.slice none 0 0),.lit (.int .i64 12)]):=
  rdm_0 x y (h.1.1.mono (by decide)) (h.1.2.mono (by decide)) (by rw [h.2];rfl)
theorem rdm1_fc (x y:List Int) (h:pDM1 x y):FC Tryz.prog 140 [.sq x,.sq y] (.tup [.ni (vl x / vl y),.ni (vl x % vl y),.lit (.int .i64 0)]):=by
  obtain ⟨⟨hx,hy⟩,h0⟩:=h
  have px:pNm x:=hx.mono (by decide)
  have py:pNm y:=hy.mono (by decide)
  have sx:=hx.sz
  have sy:=hy.sz
  have ly:=eZ (vl y)
  have hd0:dl (vl y)≠0:=fun h=>h0 (dl_zero.1 h)
  have gx:pNg (vl x):=sx.mono (by decide)
  have gy:pNg (vl y):=sy.mono (by decide)
  generalize hX:vl x=X at *
  generalize hY:vl y=Y at *
  have sX:Sz 80003 (X.natAbs:Int):=Sz_abs sx
  have sY:Sz 80003 (Y.natAbs:Int):=Sz_abs sy
  have hb:0<(Y.natAbs:Int):=by omega
  have pd:pDv (X.natAbs:Int) (Y.natAbs:Int):=⟨⟨by omega,hb⟩,sX.mono (by decide),sY.mono (by decide)⟩
  have sq:Sz 80003 ((X.natAbs:Int) / (Y.natAbs:Int)):=div_sz sX
  have sr:Sz 80003 ((X.natAbs:Int) % (Y.natAbs:Int)):=mod_sz sY (by omega)
  have s1:Sz 1 (1:Int):=by unfold Sz;decide
  have pxq:pX (aZ ((X.natAbs:Int) / (Y.natAbs:Int))):=kZ sq (by decide)
  have pxr:pX (aZ ((X.natAbs:Int) % (Y.natAbs:Int))):=kZ sr (by decide)
  have hdn:=dm_neg (a:=(X.natAbs:Int)) hb
  have p1:pQ 390000 (List.take 1 [(1:Int)]):=⟨by simp,fun e he=>by rw [List.mem_singleton.1 he];unfold bZ;omega⟩
  subst hX hY
  by_cases hx0:vl x<0
  · have eX:vl x = -((vl x).natAbs:Int):=by omega
    have lr:=eZ (-vl (aZ (((vl x).natAbs:Int) % ((vl y).natAbs:Int))))
    by_cases hr0:((vl x).natAbs:Int) % ((vl y).natAbs:Int)=0
    · obtain ⟨k1,k2⟩:=hdn.2 hr0
      have hlen:¬(((aZ (-vl (aZ (((vl x).natAbs:Int) % ((vl y).natAbs:Int))))).length:Int) > 0):=by
        rw [lr,cZ,hr0];decide
      by_cases hy0:vl y<0
      · have eY:vl y = -((vl y).natAbs:Int):=by omega
        have:=rdm_3 x y px py (by omega) gx gy pd hx0 pxq pxr hlen hy0 (by rw [cZ];exact kZ sq.neg (by decide))
        refine tup3 this ?_ ?_
        · rw [cZ,cZ];conv=>rhs;rw [eX,eY,Int.ediv_neg,k1]
        · rw [cZ];conv=>rhs;rw [eX,eY,Int.emod_neg,k2]
      · have eY:vl y=((vl y).natAbs:Int):=by omega
        have:=rdm_4 x y px py (by omega) gx gy pd hx0 pxq pxr hlen hy0
        refine tup3 this ?_ ?_
        · rw [cZ];conv=>rhs;rw [eX,eY,k1]
        · rw [cZ];conv=>rhs;rw [eX,eY,k2]
    · obtain ⟨k1,k2⟩:=hdn.1 hr0
      have hne:dl (-(((vl x).natAbs:Int) % ((vl y).natAbs:Int)))≠0:=fun h=>hr0 (by have:=dl_zero.1 h;omega)
      have hlen:(((aZ (-vl (aZ (((vl x).natAbs:Int) % ((vl y).natAbs:Int))))).length:Int) > 0):=by
        rw [lr,cZ];omega
      have hsu:pSu (aZ (-vl (aZ (((vl x).natAbs:Int) / ((vl y).natAbs:Int))))) (List.take 1 [(1:Int)]):=⟨by rw [cZ];exact kZ sq.neg (by decide),p1⟩
      have had:pAd (aZ (-vl (aZ (((vl x).natAbs:Int) % ((vl y).natAbs:Int))))) (aZ ((vl y).natAbs:Int)):=⟨by rw [cZ];exact kZ sr.neg (by decide),kZ sY (by decide)⟩
      by_cases hy0:vl y<0
      · have eY:vl y = -((vl y).natAbs:Int):=by omega
        have:=rdm_1 x y px py (by omega) gx gy pd hx0 pxq pxr hlen (by omega) hsu had hy0 (by
          rw [cZ,cZ,Int.sub_eq_add_neg];exact kZ (Sz.add sq.neg s1.neg (show 80003<100000 by decide) (by decide)) (by decide))
        refine tup3 this ?_ ?_
        · rw [cZ,cZ,cZ];conv=>rhs;rw [eX,eY,Int.ediv_neg,k1]
        · rw [cZ,cZ,cZ];conv=>rhs;rw [eX,eY,Int.emod_neg,k2]
      · have eY:vl y=((vl y).natAbs:Int):=by omega
        have:=rdm_2 x y px py (by omega) gx gy pd hx0 pxq pxr hlen (by omega) hsu had hy0
        refine tup3 this ?_ ?_
        · rw [cZ,cZ];conv=>rhs;rw [eX,eY,k1]
        · rw [cZ,cZ,cZ];conv=>rhs;rw [eX,eY,k2]
  · have eX:vl x=((vl x).natAbs:Int):=by omega
    by_cases hy0:vl y<0
    · have eY:vl y = -((vl y).natAbs:Int):=by omega
      have:=rdm_5 x y px py (by omega) gx gy pd hx0 hy0 pxq
      refine tup3 this ?_ ?_
      · rw [cZ];conv=>rhs;rw [eX,eY,Int.ediv_neg]
      · conv=>rhs;rw [eX,eY,Int.emod_neg]
    · have eY:vl y=((vl y).natAbs:Int):=by omega
      have:=rdm_6 x y px py (by omega) gx gy pd hx0 hy0
      refine tup3 this ?_ ?_
      · conv=>rhs;rw [eX,eY]
      · conv=>rhs;rw [eX,eY]
theorem Sz.abs {k:Nat} {z:Int} (h:Sz k z):Sz k (z.natAbs:Int):=by unfold Sz at *;rw [Int.natAbs_natCast];exact h
theorem rg_loop:∀(m:Nat) (a b:Int),b.toNat≤m→0≤a→0≤b→Sz 85000 a→Sz 85000 b→zlE (zfg a b) (.exit 0,zhN (Int.gcd a b:Int) 0):=by
  intro m
  induction m with
  | zero=>
    intro a b hm ha hb sa sb
    have:b=0:=by omega
    subst this
    have e:(Int.gcd a 0:Int)=a:=by rw [Int.gcd_zero_right];omega
    rw [e]
    exact ziX a 0 (by rw [eZ];decide)
  | succ m ih=>
    intro a b hm ha hb sa sb
    by_cases h0:b=0
    · subst h0
      have e:(Int.gcd a 0:Int)=a:=by rw [Int.gcd_zero_right];omega
      rw [e]
      exact ziX a 0 (by rw [eZ];decide)
    · have h1:=Int.emod_nonneg a h0
      have h2:=Int.emod_lt_of_pos a (show 0<b by omega)
      have hne:dl b≠0:=fun h=>h0 (dl_zero.1 h)
      have:=ih b (a % b) (by omega) hb h1 sb (mod_sz sb h0)
      rw [znj] at this
      exact zpm a b (by rw [eZ];omega) ⟨⟨ha,by omega⟩,sa.mono (by decide),sb.mono (by decide)⟩ this
theorem rGcd_fc (x y:List Int) (h:pDM x y):FC Tryz.prog 139 [.sq x,.sq y] (.ni (Int.gcd (vl x) (vl y):Int)):=by
  obtain ⟨hx,hy⟩:=h
  have sx:=hx.sz
  have sy:=hy.sz
  have sX:Sz 85000 ((vl x).natAbs:Int):=(Sz.abs sx).mono (show 80000+3≤85000 by decide)
  have sY:Sz 85000 ((vl y).natAbs:Int):=(Sz.abs sy).mono (show 80000+3≤85000 by decide)
  have hl:=rg_loop _ ((vl x).natAbs:Int) ((vl y).natAbs:Int) (Nat.le_refl _) (by omega) (by omega) sX sY
  have:=rgc_0 x y _ _ (hx.mono (by decide)) (sx.mono (by decide)) (hy.mono (by decide)) (sy.mono (by decide)) hl
  have e:Int.gcd ((vl x).natAbs:Int) ((vl y).natAbs:Int)=Int.gcd (vl x) (vl y):=by
    unfold Int.gcd;simp
  rwa [e] at this
def inI (z:Int):Prop:=-9223372036854775808≤z∧z≤9223372036854775807
instance {z:Int}:Decidable (inI z):=inferInstanceAs (Decidable (_∧_))
def ctrF8:Ctr:=(140,twoC tZero (cLL pDM0 (fun _ _=>.tup [.lit (.slice none 0 0),.lit (.slice none 0 0),.lit (.int .i64 12)])) (cLL pDM1 (fun x y=>.tup [.ni (vl x / vl y),.ni (vl x % vl y),.lit (.int .i64 0)]))) ::
  (139,cLL pDM (fun x y=>.ni (Int.gcd (vl x) (vl y):Int))) ::
  ctrF7
theorem ctrF8_all:∀p∈ctrF8,lZ Tryz.prog p.1 p.2:=CAll.cons (twoC_ok (zcd rdm0_fc) (zcd rdm1_fc))<|CAll.cons (zcd rGcd_fc) <|
  zkG
def ctrG:Ctr:=ctrF8++ctrX
theorem zm7:∀p∈ctrG,lZ Tryz.prog p.1 p.2:=fun p hp=>by
  rcases List.mem_append.1 hp with h | h
  · exact ctrF8_all p h
  · exact zna p h
theorem okG:(dZ Tryz.prog ctrG bw).OK:=QZ zm7
noncomputable section
end
noncomputable section
abbrev rv_L0 (s:St) (r:Ex × St):Prop:=Loops 0 Tryz.prog (pZ Tryz.prog 147 0) s r
abbrev zhX (a:List Int) (b c d:Int):St:=⟨sp 23 [(0,.sq a),(1,aI b),(5,aI c),(6,aI d)],[],[]⟩
abbrev zkb (a:List Int) (b c d:Int):St:=⟨sp 23 [(0,.sq a),(1,aI b),(5,aI c),(6,aI d)],[],[]⟩
theorem rv_L0_0_0 (a:List Int) (b c d:Int) (h1:d≥0) (h2:r64 (c*b)) (h3:0≤d) (h4:d<(a.length:Int)) (h5:d.toNat<a.length) (h6:r64 (c*b+a.getD d.toNat 0)) (h7:r64 (d-1)) {r:Ex × St} (k:rv_L0 (zhX a b (c*b+a.getD d.toNat 0) (d-1)) r):rv_L0 (zhX a b c d) r:=Loops.go (LS.at okG 60 [] [0,1,5,6] [] [1] (.t h1<|.i h2<|.t h3<|.t h4<|.t h5<|.i h6<|.i h7<|.e) [1,2,3,4,5,6,7]) k
theorem rv_L0_0_1 (a:List Int) (b c d:Int) (h1:¬(d≥0)):rv_L0 (zhX a b c d) (Ex.exit 0,(zkb a b c d)):=Loops.fin (LS.at okG 60 [] [0,1,5,6] [] [0] (.f h1<|.e) [1]) (fun h=>nomatch h)
theorem rv_0 (p:List Int) (x a b:Int) (h1:r64 ((p.length:Int)-1)) (hL1:rv_L0 (zhX p x (0) ((p.length:Int)-1)) (Ex.exit 0,(zkb p x a b))):FC Tryz.prog 147 [.sq p,.lit (.int .i64 x)] (aI a):=fZ okG 60 [] (.i h1<|.v [0,1,5,6] [] hL1<|.e) [1,0,2]
theorem fv2_0 (a b x:Int):FunI (dZ Tryz.prog ctrG bw) 60 157 [.sq [a,b],.lit (.int .i64 x)] [] [] [0,1,2,3,4] (aI ((0*x+List.getD [a,b] 1 0)*x+List.getD [a,b] 0 0)) [inR .i64 (0*x)=true,inR .i64 (0*x+List.getD [a,b] 1 0)=true,inR .i64 ((0*x+List.getD [a,b] 1 0)*x)=true,inR .i64 ((0*x+List.getD [a,b] 1 0)*x+List.getD [a,b] 0 0)=true]:={}
theorem fv3_0 (a b c x:Int):FunI (dZ Tryz.prog ctrG bw) 60 157 [.sq [a,b,c],.lit (.int .i64 x)] [] [] [0,1,2,3,4,5,6] (aI (((0*x+List.getD [a,b,c] 2 0)*x+List.getD [a,b,c] 1 0)*x+List.getD [a,b,c] 0 0)) [inR .i64 (0*x)=true,inR .i64 (0*x+List.getD [a,b,c] 2 0)=true,inR .i64 ((0*x+List.getD [a,b,c] 2 0)*x)=true,inR .i64 ((0*x+List.getD [a,b,c] 2 0)*x+List.getD [a,b,c] 1 0)=true,inR .i64 (((0*x+List.getD [a,b,c] 2 0)*x+List.getD [a,b,c] 1 0)*x)=true,inR .i64 (((0*x+List.getD [a,b,c] 2 0)*x+List.getD [a,b,c] 1 0)*x+List.getD [a,b,c] 0 0)=true]:={}
theorem fv4_0 (a b c d x:Int):FunI (dZ Tryz.prog ctrG bw) 60 157 [.sq [a,b,c,d],.lit (.int .i64 x)] [] [] [0,1,2,3,4,5,6,7,8] (aI ((((0*x+List.getD [a,b,c,d] 3 0)*x+List.getD [a,b,c,d] 2 0)*x+List.getD [a,b,c,d] 1 0)*x+List.getD [a,b,c,d] 0 0)) [inR .i64 (0*x)=true,inR .i64 (0*x+List.getD [a,b,c,d] 3 0)=true,inR .i64 ((0*x+List.getD [a,b,c,d] 3 0)*x)=true,inR .i64 ((0*x+List.getD [a,b,c,d] 3 0)*x+List.getD [a,b,c,d] 2 0)=true,inR .i64 (((0*x+List.getD [a,b,c,d] 3 0)*x+List.getD [a,b,c,d] 2 0)*x)=true,inR .i64 (((0*x+List.getD [a,b,c,d] 3 0)*x+List.getD [a,b,c,d] 2 0)*x+List.getD [a,b,c,d] 1 0)=true,inR .i64 ((((0*x+List.getD [a,b,c,d] 3 0)*x+List.getD [a,b,c,d] 2 0)*x+List.getD [a,b,c,d] 1 0)*x)=true,inR .i64 ((((0*x+List.getD [a,b,c,d] 3 0)*x+List.getD [a,b,c,d] 2 0)*x+List.getD [a,b,c,d] 1 0)*x+List.getD [a,b,c,d] 0 0)=true]:={}
theorem fv5_0 (a b c d e x:Int):FunI (dZ Tryz.prog ctrG bw) 60 157 [.sq [a,b,c,d,e],.lit (.int .i64 x)] [] [] [0,1,2,3,4,5,6,7,8,9,10] (aI (((((0*x+List.getD [a,b,c,d,e] 4 0)*x+List.getD [a,b,c,d,e] 3 0)*x+List.getD [a,b,c,d,e] 2 0)*x+List.getD [a,b,c,d,e] 1 0)*x+List.getD [a,b,c,d,e] 0 0)) [inR .i64 (0*x)=true,inR .i64 (0*x+List.getD [a,b,c,d,e] 4 0)=true,inR .i64 ((0*x+List.getD [a,b,c,d,e] 4 0)*x)=true,inR .i64 ((0*x+List.getD [a,b,c,d,e] 4 0)*x+List.getD [a,b,c,d,e] 3 0)=true,inR .i64 (((0*x+List.getD [a,b,c,d,e] 4 0)*x+List.getD [a,b,c,d,e] 3 0)*x)=true,inR .i64 (((0*x+List.getD [a,b,c,d,e] 4 0)*x+List.getD [a,b,c,d,e] 3 0)*x+List.getD [a,b,c,d,e] 2 0)=true,inR .i64 ((((0*x+List.getD [a,b,c,d,e] 4 0)*x+List.getD [a,b,c,d,e] 3 0)*x+List.getD [a,b,c,d,e] 2 0)*x)=true,inR .i64 ((((0*x+List.getD [a,b,c,d,e] 4 0)*x+List.getD [a,b,c,d,e] 3 0)*x+List.getD [a,b,c,d,e] 2 0)*x+List.getD [a,b,c,d,e] 1 0)=true,inR .i64 (((((0*x+List.getD [a,b,c,d,e] 4 0)*x+List.getD [a,b,c,d,e] 3 0)*x+List.getD [a,b,c,d,e] 2 0)*x+List.getD [a,b,c,d,e] 1 0)*x)=true,inR .i64 (((((0*x+List.getD [a,b,c,d,e] 4 0)*x+List.getD [a,b,c,d,e] 3 0)*x+List.getD [a,b,c,d,e] 2 0)*x+List.getD [a,b,c,d,e] 1 0)*x+List.getD [a,b,c,d,e] 0 0)=true]:={}
end
def pv:List Int→Int→Int
  | [],_=>0
  | c :: l,x=>pv l x*x+c
theorem vb {v x c:Int} {k:Nat} (hv:v.natAbs+1≤1001 ^ k) (hx:x.natAbs≤1001) (hc:c.natAbs≤1000):(v*x).natAbs+1001≤1001 ^ (k+1)∧(v*x+c).natAbs+1≤1001 ^ (k+1):=by
  have h1:(v*x).natAbs≤v.natAbs*1001:=by rw [Int.natAbs_mul];exact Nat.mul_le_mul_left _ hx
  have h2:v.natAbs*1001+1001≤1001 ^ (k+1):=by rw [Nat.pow_succ];omega
  omega
theorem pow5 {k:Nat} (h:k≤5):1001 ^ k≤1005010010005001:=Nat.le_trans (Nat.pow_le_pow_right (by decide) h) (by decide)
theorem pv_le {x:Int} (hx:x.natAbs≤1001):∀(l:List Int),(∀c∈l,c.natAbs≤1000)→(pv l x).natAbs+1≤1001 ^ l.length
  | [],_=>by simp [pv]
  | c :: l,h=>(vb (pv_le hx l fun d hd=>h d (by simp [hd])) hx (h c (by simp))).2
def cnd (x:Int):Int→List Int→List Prop
  | _,[]=>[]
  | v,c :: l=>(inR IntKind.i64 (v*x)=true) :: (inR IntKind.i64 (v*x+c)=true) :: cnd x (v*x+c) l
theorem zkw {x:Int}:∀ {l:List Int} {v:Int} {k:Nat},v.natAbs+1≤1001 ^ k→x.natAbs≤1001→k+l.length≤5→(∀c∈l,c.natAbs≤1000)→AllC (cnd x v l)
  | [],_,_,_,_,_,_=>.nil
  | c :: l,v,k,hv,hx,hk,h=>by
    simp only [List.length_cons] at hk
    obtain ⟨h1,h2⟩:=vb hv hx (h c (by simp))
    have:=pow5 (k:=k+1) (by omega)
    exact .cons (inR64.2 (by omega)) (.cons (inR64.2 (by omega)) (zkw h2 hx (by omega) fun d hd=>h d (by simp [hd])))
def pPv (p:List Int) (x:Int):Prop:=2≤p.length∧p.length≤5∧(∀c∈p,c.natAbs≤1000)∧x.natAbs≤1001
theorem fval_fc (p:List Int) (x:Int) (h:pPv p x):FC Tryz.prog 157 [.sq p,.lit (.int .i64 x)] (.lit (.int .i64 (pv p x))):=by
  obtain ⟨h2,h5,ha,hx⟩:=h
  match p,h2,h5,ha,hx with
  | [a,b],_,_,ha,hx=>exact mZ okG (fv2_0 a b x) ((zkw (l:=[b,a]) (k:=0) (by decide) hx (by simp) (fun c hc=>ha c (by simp at hc ⊢;omega))))
  | [a,b,c],_,_,ha,hx=>exact mZ okG (fv3_0 a b c x) ((zkw (l:=[c,b,a]) (k:=0) (by decide) hx (by simp) (fun c hc=>ha c (by simp at hc ⊢;omega))))
  | [a,b,c,d],_,_,ha,hx=>exact mZ okG (fv4_0 a b c d x) ((zkw (l:=[d,c,b,a]) (k:=0) (by decide) hx (by simp) (fun c hc=>ha c (by simp at hc ⊢;omega))))
  | [a,b,c,d,e],_,_,ha,hx=>exact mZ okG (fv5_0 a b c d e x) ((zkw (l:=[e,d,c,b,a]) (k:=0) (by decide) hx (by simp) (fun c hc=>ha c (by simp at hc ⊢;omega))))
  | _ :: _ :: _ :: _ :: _ :: _ :: _,_,h5,_,_=>simp at h5
theorem zfQ {l:List Int} {n:Nat} (h:n<l.length):l.drop n=l.getD n 0 :: l.drop (n+1):=by
  rw [List.drop_eq_getElem_cons h];simp [List.getD,h]
theorem zgo (p:List Int) (x:Int) (hp:p.length≤5) (ha:∀c∈p,c.natAbs≤1000) (hx:x.natAbs≤1001):∀(n:Nat),n≤p.length→rv_L0 (zhX p x (pv (p.drop n) x) ((n:Int)-1)) (Ex.exit 0,zkb p x (pv p x) (-1))
  | 0,_=>by have:=rv_L0_0_1 p x (pv (p.drop 0) x) (((0:Nat):Int)-1) (by simp);exact this
  | n + 1,hn=>by
    have hlt:n<p.length:=by omega
    have e1:((n+1:Nat):Int)-1=(n:Int):=by omega
    have hv:=pv_le hx (p.drop (n+1)) fun c hc=>ha c (List.mem_of_mem_drop hc)
    have hg:(p.getD n 0).natAbs≤1000:=by
      rw [List.getD_eq_getElem?_getD,List.getElem?_eq_getElem hlt];exact ha _ (List.getElem_mem hlt)
    obtain ⟨b1,b2⟩:=vb hv hx hg
    have hk:(p.drop (n+1)).length+1≤5:=by simp;omega
    have:=pow5 hk
    have ih:=zgo p x hp ha hx n (by omega)
    rw [zfQ hlt] at ih
    rw [e1]
    refine rv_L0_0_0 p x _ _ (by omega) (by omega) (by omega) (by omega) (by omega) ?_ (by omega) ?_
    · rw [Int.toNat_natCast];omega
    · rw [Int.toNat_natCast];exact ih
theorem rvalue_fc (p:List Int) (x:Int) (h:pPv p x):FC Tryz.prog 147 [.sq p,.lit (.int .i64 x)] (.lit (.int .i64 (pv p x))):=by
  have l:=zgo p x h.2.1 h.2.2.1 h.2.2.2 p.length (Nat.le_refl _)
  rw [List.drop_length] at l
  exact rv_0 p x (pv p x) (-1) (by have:=h.2.1;omega) l
def ctrH:Ctr:=(157,cLI pPv (fun p x=>.lit (.int .i64 (pv p x)))) :: (147,cLI pPv (fun p x=>.lit (.int .i64 (pv p x)))) :: ctrG
theorem zjj:∀p∈ctrH,lZ Tryz.prog p.1 p.2:=CAll.cons (cLI_ok fval_fc) (CAll.cons (cLI_ok rvalue_fc) zm7)
theorem okH:(dZ Tryz.prog ctrH bw).OK:=QZ zjj
def cIP (p:List Int→Int→Prop) (r:List Int→Int→AV) (args:List AV):M AV:=match args with
  | [.lit (.int .i64 n),.pd [.sq l] 0]=>do
    tell (p l n)
    M.pure (r l n)
  | _=>fail 218
theorem cIP_ok {P:Program} {f:FuncId} {p:List Int→Int→Prop} {r:List Int→Int→AV} (h:∀l n,p l n→FC P f [.lit (.int .i64 n),.pd [.sq l] 0] (r l n)):lZ P f (cIP p r):=by
  intro args _
  unfold cIP
  split
  · exact Spec.bind (Spec.tell fun hp=>Spec.pure' (h _ _ hp))
  · exact Spec.fail
noncomputable section
theorem d1_0 (x:Int) (p:List Int) (h1:pPv p x):FC Tryz.prog 156 [.lit (.int .i64 x),.pd [.sq p] 0] (.lit (.bool (pv p x==0))):=fZ okH 60 [] (.c h1<|.e) [1]
theorem d2_0 (x:Int) (p:List Int) (h1:0<(p.length:Int)) (h2:0<p.length) (h3:¬(x=0)) (h4:r64 (Int.tdiv (p.getD 0 0) x)) (h5:x≠Int.tdiv (p.getD 0 0) x) (h6:1<(p.length:Int)) (h7:1<p.length) (h8:3<(p.length:Int)) (h9:3<p.length) (h10:r64 (x*p.getD 3 0)) (h11:r64 (p.getD 1 0-x*p.getD 3 0)) (h12:r64 (Int.tdiv (p.getD 0 0) x-x)) (h13:¬(Int.tdiv (p.getD 0 0) x-x=0)) (h14:r64 (Int.tdiv (p.getD 1 0-x*p.getD 3 0) (Int.tdiv (p.getD 0 0) x-x))) (h15:Int.tmod (p.getD 1 0-x*p.getD 3 0) (Int.tdiv (p.getD 0 0) x-x)=0) (h16:r64 (x+Int.tdiv (p.getD 0 0) x)) (h17:r64 (p.getD 3 0-Int.tdiv (p.getD 1 0-x*p.getD 3 0) (Int.tdiv (p.getD 0 0) x-x))) (h18:r64 (Int.tdiv (p.getD 1 0-x*p.getD 3 0) (Int.tdiv (p.getD 0 0) x-x)*(p.getD 3 0-Int.tdiv (p.getD 1 0-x*p.getD 3 0) (Int.tdiv (p.getD 0 0) x-x)))) (h19:r64 (x+Int.tdiv (p.getD 0 0) x+Int.tdiv (p.getD 1 0-x*p.getD 3 0) (Int.tdiv (p.getD 0 0) x-x)*(p.getD 3 0-Int.tdiv (p.getD 1 0-x*p.getD 3 0) (Int.tdiv (p.getD 0 0) x-x)))) (h20:2<(p.length:Int)) (h21:2<p.length):FC Tryz.prog 158 [.lit (.int .i64 x),.pd [.sq p] 0] (.lit (.bool (x+Int.tdiv (p.getD 0 0) x+Int.tdiv (p.getD 1 0-x*p.getD 3 0) (Int.tdiv (p.getD 0 0) x-x)*(p.getD 3 0-Int.tdiv (p.getD 1 0-x*p.getD 3 0) (Int.tdiv (p.getD 0 0) x-x))==p.getD 2 0))):=fZ okH 60 [1,1] (.t h1<|.t h2<|.y h3<|.i h4<|.c (bne_iff_ne.2 h5)<|.t h6<|.t h7<|.t h8<|.t h9<|.i h10<|.i h11<|.i h12<|.y h13<|.i h14<|.c (beq_iff_eq.2 h15)<|.i h16<|.i h17<|.i h18<|.i h19<|.t h20<|.t h21<|.e) [0,1,2,3,4,5,0,6,7,0,8,9,10,11,12,13,14,12,13,15,16,0,8,9,17,18,19,0,20,21]
theorem d2_1 (x:Int) (p:List Int) (h1:0<(p.length:Int)) (h2:0<p.length) (h3:¬(x=0)) (h4:r64 (Int.tdiv (p.getD 0 0) x)) (h5:x≠Int.tdiv (p.getD 0 0) x) (h6:1<(p.length:Int)) (h7:1<p.length) (h8:3<(p.length:Int)) (h9:3<p.length) (h10:r64 (x*p.getD 3 0)) (h11:r64 (p.getD 1 0-x*p.getD 3 0)) (h12:r64 (Int.tdiv (p.getD 0 0) x-x)) (h13:¬(Int.tdiv (p.getD 0 0) x-x=0)) (h14:r64 (Int.tdiv (p.getD 1 0-x*p.getD 3 0) (Int.tdiv (p.getD 0 0) x-x))) (h15:Int.tmod (p.getD 1 0-x*p.getD 3 0) (Int.tdiv (p.getD 0 0) x-x)≠0):FC Tryz.prog 158 [.lit (.int .i64 x),.pd [.sq p] 0] (.ff):=fZ okH 60 [1,0] (.t h1<|.t h2<|.y h3<|.i h4<|.c (bne_iff_ne.2 h5)<|.t h6<|.t h7<|.t h8<|.t h9<|.i h10<|.i h11<|.i h12<|.y h13<|.i h14<|.c (beq_false_of_ne h15)<|.e) [0,1,2,3,4,5,0,6,7,0,8,9,10,11,12,13,14,12,13,15]
theorem d2_2 (x:Int) (p:List Int) (h1:0<(p.length:Int)) (h2:0<p.length) (h3:¬(x=0)) (h4:r64 (Int.tdiv (p.getD 0 0) x)) (h5:x=Int.tdiv (p.getD 0 0) x) (h6:1<(p.length:Int)) (h7:1<p.length) (h8:3<(p.length:Int)) (h9:3<p.length) (h10:r64 (x*p.getD 3 0)) (h11:p.getD 1 0≠x*p.getD 3 0):FC Tryz.prog 158 [.lit (.int .i64 x),.pd [.sq p] 0] (.ff):=fZ okH 60 [0,1] (.t h1<|.t h2<|.y h3<|.i h4<|.c (bne_eq_false_iff_eq.2 h5)<|.t h6<|.t h7<|.t h8<|.t h9<|.i h10<|.c (bne_iff_ne.2 h11)<|.e) [0,1,2,3,4,5,0,6,7,0,8,9,10,11]
abbrev zkS (s:St) (r:Ex × St):Prop:=Loops 0 Tryz.prog (pZ Tryz.prog 158 0) s r
abbrev zdC (a:Int) (b:List Int) (c:Int):St:=⟨sp 83 [(0,aI a),(1,.pd [.sq b] 0),(7,aI c)],[],[]⟩
abbrev zjm (a:Int) (b:List Int):St:=⟨sp 83 [(3,.tt)],[],[]⟩
abbrev zjn (a:Int) (b:List Int) (c:Int):St:=⟨sp 83 [(0,aI a),(1,.pd [.sq b] 0),(7,aI c)],[],[]⟩
theorem d2_L0_0_0 (a:Int) (b:List Int) (d:Int) (h1:d≤3000) (h2:r64 (d*d)) (h3:3<(b.length:Int)) (h4:3<b.length) (h5:r64 (b.getD 3 0*d)) (h6:r64 (d*d-b.getD 3 0*d)) (h7:2<(b.length:Int)) (h8:2<b.length) (h9:r64 (d*d-b.getD 3 0*d+b.getD 2 0)) (h10:r64 (2*a)) (h11:r64 (d*d-b.getD 3 0*d+b.getD 2 0-2*a)) (h12:d*d-b.getD 3 0*d+b.getD 2 0-2*a=0):zkS (zdC a b d) (Ex.ret,(zjm a b)):=Loops.fin (LS.at okH 60 [] [3] [] [1,1] (.t h1<|.i h2<|.t h3<|.t h4<|.i h5<|.i h6<|.t h7<|.t h8<|.i h9<|.i h10<|.i h11<|.c (beq_iff_eq.2 h12)<|.e) [1,2,0,3,4,5,6,0,7,8,9,10,11,12]) (fun h=>nomatch h)
theorem d2_L0_0_1 (a:Int) (b:List Int) (d:Int) (h1:d≤3000) (h2:r64 (d*d)) (h3:3<(b.length:Int)) (h4:3<b.length) (h5:r64 (b.getD 3 0*d)) (h6:r64 (d*d-b.getD 3 0*d)) (h7:2<(b.length:Int)) (h8:2<b.length) (h9:r64 (d*d-b.getD 3 0*d+b.getD 2 0)) (h10:r64 (2*a)) (h11:r64 (d*d-b.getD 3 0*d+b.getD 2 0-2*a)) (h12:d*d-b.getD 3 0*d+b.getD 2 0-2*a≠0) (h13:r64 (d+1)) {r:Ex × St} (k:zkS (zdC a b (d+1)) r):zkS (zdC a b d) r:=Loops.go (LS.at okH 60 [] [0,1,7] [] [1,0] (.t h1<|.i h2<|.t h3<|.t h4<|.i h5<|.i h6<|.t h7<|.t h8<|.i h9<|.i h10<|.i h11<|.c (beq_false_of_ne h12)<|.i h13<|.e) [1,2,0,3,4,5,6,0,7,8,9,10,11,12,13]) k
theorem d2_L0_0_2 (a:Int) (b:List Int) (c:Int) (h1:¬(c≤3000)):zkS (zdC a b c) (Ex.exit 0,(zjn a b c)):=Loops.fin (LS.at okH 60 [] [0,1,7] [] [0] (.f h1<|.e) [1]) (fun h=>nomatch h)
theorem d2_3 (x:Int) (p:List Int) (h1:0<(p.length:Int)) (h2:0<p.length) (h3:¬(x=0)) (h4:r64 (Int.tdiv (p.getD 0 0) x)) (h5:x=Int.tdiv (p.getD 0 0) x) (h6:1<(p.length:Int)) (h7:1<p.length) (h8:3<(p.length:Int)) (h9:3<p.length) (h10:r64 (x*p.getD 3 0)) (h11:p.getD 1 0=x*p.getD 3 0) (hL1:zkS (zdC x p (-3000)) (Ex.ret,(zjm x p))):FC Tryz.prog 158 [.lit (.int .i64 x),.pd [.sq p] 0] (.tt):=fZ okH 60 [0,0] (.t h1<|.t h2<|.y h3<|.i h4<|.c (bne_eq_false_iff_eq.2 h5)<|.t h6<|.t h7<|.t h8<|.t h9<|.i h10<|.c (bne_eq_false_iff_eq.2 h11)<|.v [0,1,7] [] hL1<|.e) [0,1,2,3,4,5,0,6,7,0,8,9,10,11,0,12]
theorem d2_4 (x:Int) (p:List Int) (a:Int) (h1:0<(p.length:Int)) (h2:0<p.length) (h3:¬(x=0)) (h4:r64 (Int.tdiv (p.getD 0 0) x)) (h5:x=Int.tdiv (p.getD 0 0) x) (h6:1<(p.length:Int)) (h7:1<p.length) (h8:3<(p.length:Int)) (h9:3<p.length) (h10:r64 (x*p.getD 3 0)) (h11:p.getD 1 0=x*p.getD 3 0) (hL1:zkS (zdC x p (-3000)) (Ex.exit 0,(zjn x p a))):FC Tryz.prog 158 [.lit (.int .i64 x),.pd [.sq p] 0] (.ff):=fZ okH 60 [0,0] (.t h1<|.t h2<|.y h3<|.i h4<|.c (bne_eq_false_iff_eq.2 h5)<|.t h6<|.t h7<|.t h8<|.t h9<|.i h10<|.c (bne_eq_false_iff_eq.2 h11)<|.v [0,1,7] [] hL1<|.e) [0,1,2,3,4,5,0,6,7,0,8,9,10,11,0,12]
end
theorem zla {a b:Int} {A B:Nat} (ha:a.natAbs≤A) (hb:b.natAbs≤B):(a*b).natAbs≤A*B:=by
  rw [Int.natAbs_mul];exact Nat.mul_le_mul ha hb
theorem tdivB (a b:Int):(Int.tdiv a b).natAbs≤a.natAbs:=by
  rw [Int.natAbs_tdiv];exact Nat.div_le_self _ _
theorem zeT {p:List Int} (h:∀c∈p,c.natAbs≤1000) (i:Nat):(p.getD i 0).natAbs≤1000:=by
  rw [List.getD_eq_getElem?_getD]
  by_cases hi:i<p.length
  · rw [List.getElem?_eq_getElem hi];exact h _ (List.getElem_mem hi)
  · rw [List.getElem?_eq_none (by omega)];decide
def Q2 (p:List Int) (b:Int):Prop:=∃a:Int,b+Int.tdiv (p.getD 0 0) b+a*(p.getD 3 0-a)=p.getD 2 0∧a*Int.tdiv (p.getD 0 0) b+b*(p.getD 3 0-a)=p.getD 1 0
noncomputable def q2 (p:List Int) (b:Int):Bool:=@decide (Q2 p b) (Classical.propDecidable _)
theorem q2_t {p:List Int} {b:Int} (h:Q2 p b):q2 p b=true:=by unfold q2;exact @decide_eq_true _ (Classical.propDecidable _) h
theorem zqs {p:List Int} {b:Int} (h:¬Q2 p b):q2 p b=false:=by unfold q2;exact @decide_eq_false _ (Classical.propDecidable _) h
theorem q2_iff {p:List Int} {b:Int}:q2 p b=true↔Q2 p b:=by unfold q2;exact @decide_eq_true_iff _ (Classical.propDecidable _)
def pD2 (p:List Int) (b:Int):Prop:=p.length=5∧(∀c∈p,c.natAbs≤1000)∧b≠0∧b.natAbs≤1000
theorem d2_loop {p:List Int} {b:Int} (h:pD2 p b):∀(n:Nat) (t:Int),t+n=3001→-3000≤t →
    (∃a,t≤a∧a≤3000∧a*a-p.getD 3 0*a+p.getD 2 0-2*b=0)∧zkS (zdC b p t) (Ex.ret,zjm b p) ∨
    (¬ ∃a,t≤a∧a≤3000∧a*a-p.getD 3 0*a+p.getD 2 0-2*b=0)∧zkS (zdC b p t) (Ex.exit 0,zjn b p 3001)
  | 0,t,ht,_=>by
    obtain rfl:t=3001:=by omega
    exact .inr ⟨fun ⟨a,h1,h2,_⟩=>by omega,d2_L0_0_2 b p 3001 (by omega)⟩
  | n + 1,t,ht,hm=>by
    obtain ⟨hl,ha,h0,hb⟩:=h
    have g3:=zeT ha 3
    have g2:=zeT ha 2
    have b1:=zla (a:=t) (b:=t) (A:=3000) (B:=3000) (by omega) (by omega)
    have b2:=zla (a:=p.getD 3 0) (b:=t) (A:=1000) (B:=3000) g3 (by omega)
    by_cases e:t*t-p.getD 3 0*t+p.getD 2 0-2*b=0
    · exact .inl ⟨⟨t,by omega,by omega,e⟩,d2_L0_0_0 b p t (by omega) (by omega) (by omega) (by omega) (by omega) (by omega) (by omega) (by omega) (by omega) (by omega) (by omega) e⟩
    · have go:=fun r=>@d2_L0_0_1 b p t (by omega) (by omega) (by omega) (by omega) (by omega) (by omega) (by omega) (by omega) (by omega) (by omega) (by omega) e (by omega) r
      rcases d2_loop ⟨hl,ha,h0,hb⟩ n (t+1) (by omega) (by omega) with ⟨⟨a,h1,h2,h3⟩,k⟩ | ⟨hn,k⟩
      · exact .inl ⟨⟨a,by omega,h2,h3⟩,go _ k⟩
      · refine .inr ⟨fun ⟨a,h1,h2,h3⟩=>?_,go _ k⟩
        rcases Int.lt_or_eq_of_le h1 with h | h
        · exact hn ⟨a,by omega,h2,h3⟩
        · subst h;exact e h3
theorem zmj (p:List Int) (x:Int) (h:pPv p x):FC Tryz.prog 156 [.lit (.int .i64 x),.pd [.sq p] 0] (.lit (.bool (pv p x==0))):=d1_0 x p h
theorem zmk (p:List Int) (b:Int) (h:pD2 p b):FC Tryz.prog 158 [.lit (.int .i64 b),.pd [.sq p] 0] (.lit (.bool (q2 p b))):=by
  have h':=h
  obtain ⟨hl,ha,h0,hb⟩:=h'
  have g0:=zeT ha 0
  have g1:=zeT ha 1
  have g2:=zeT ha 2
  have g3:=zeT ha 3
  have bd:=tdivB (p.getD 0 0) b
  have bm:=zla hb g3
  by_cases e:b=Int.tdiv (p.getD 0 0) b
  · by_cases e1:p.getD 1 0=b*p.getD 3 0
    · rcases d2_loop h 6001 (-3000) (by omega) (by omega) with ⟨⟨a,h1,h2,h3⟩,k⟩ | ⟨hn,k⟩
      · have hq:Q2 p b:=⟨a,by rw [← e];grind,by rw [← e];grind⟩
        rw [q2_t hq]
        exact(d2_3 b p (by omega) (by omega) h0 (by omega) e (by omega) (by omega) (by omega) (by omega) (by omega) e1 k).res fun E v hv=>by cases hv;exact .lit _
      · have hq:¬Q2 p b:=fun ⟨a,h1,h2⟩=>by
          rw [← e] at h1 h2
          by_cases hr:-3000≤a∧a≤3000
          · exact hn ⟨a,hr.1,hr.2,by grind⟩
          · have k1:(a*(p.getD 3 0-a)).natAbs≤3000:=by omega
            rw [Int.natAbs_mul] at k1
            have k2:3001*2001≤a.natAbs*(p.getD 3 0-a).natAbs:=Nat.mul_le_mul (by omega) (by omega)
            omega
        rw [zqs hq]
        exact(d2_4 b p 3001 (by omega) (by omega) h0 (by omega) e (by omega) (by omega) (by omega) (by omega) (by omega) e1 k).res fun E v hv=>by cases hv;exact .lit _
    · have hq:¬Q2 p b:=fun ⟨a,h1,h2⟩=>by rw [← e] at h2;grind
      rw [zqs hq]
      exact(d2_2 b p (by omega) (by omega) h0 (by omega) e (by omega) (by omega) (by omega) (by omega) (by omega) e1).res fun E v hv=>by cases hv;exact .lit _
  · have e0:¬(Int.tdiv (p.getD 0 0) b-b=0):=by omega
    have bt:=tdivB (p.getD 1 0-b*p.getD 3 0) (Int.tdiv (p.getD 0 0) b-b)
    have hm:=Int.mul_tdiv_add_tmod (p.getD 1 0-b*p.getD 3 0) (Int.tdiv (p.getD 0 0) b-b)
    by_cases er:Int.tmod (p.getD 1 0-b*p.getD 3 0) (Int.tdiv (p.getD 0 0) b-b)=0
    · have bp:=zla (a:=Int.tdiv (p.getD 1 0-b*p.getD 3 0) (Int.tdiv (p.getD 0 0) b-b)) (b:=p.getD 3 0-Int.tdiv (p.getD 1 0-b*p.getD 3 0) (Int.tdiv (p.getD 0 0) b-b)) (A:=1001000) (B:=1002000) (by omega) (by omega)
      have k:=d2_0 b p (by omega) (by omega) h0 (by omega) e (by omega) (by omega) (by omega) (by omega) (by omega) (by omega) (by omega) e0 (by omega) er (by omega) (by omega) (by omega) (by omega) (by omega) (by omega)
      rw [er] at hm
      generalize Int.tdiv (p.getD 1 0-b*p.getD 3 0) (Int.tdiv (p.getD 0 0) b-b)=a0 at *
      have hq:q2 p b=(b+Int.tdiv (p.getD 0 0) b+a0*(p.getD 3 0-a0)==p.getD 2 0):=by
        rw [Bool.eq_iff_iff,q2_iff,beq_iff_eq]
        constructor
        · rintro ⟨a,h1,h2⟩
          have:(Int.tdiv (p.getD 0 0) b-b)*a=(Int.tdiv (p.getD 0 0) b-b)*a0:=by grind
          rw [← Int.eq_of_mul_eq_mul_left e0 this];exact h1
        · intro h1
          exact ⟨a0,h1,by grind⟩
      rw [hq];exact k
    · have hq:¬Q2 p b:=fun ⟨a,h1,h2⟩=>by
        apply er
        apply Int.tmod_eq_zero_of_dvd
        exact ⟨a,by grind⟩
      rw [zqs hq]
      exact(d2_1 b p (by omega) (by omega) h0 (by omega) e (by omega) (by omega) (by omega) (by omega) (by omega) (by omega) (by omega) e0 (by omega) er).res fun E v hv=>by cases hv;exact .lit _
noncomputable def ctrH2:Ctr:=(156,cIP pPv (fun p x=>.lit (.bool (pv p x==0)))) :: (158,cIP pD2 (fun p x=>.lit (.bool (q2 p x)))) :: ctrH
theorem ctrH2_all:∀p∈ctrH2,lZ Tryz.prog p.1 p.2:=CAll.cons (cIP_ok zmj) (CAll.cons (cIP_ok zmk) zjj)
theorem zbz:(dZ Tryz.prog ctrH2 bw).OK:=QZ ctrH2_all
noncomputable section
theorem dv_0 (p:List Int) (h1:r64 ((p.length:Int)-1)) (h2:(p.length:Int)-1=1):FC Tryz.prog 114 [.sq p] (.ff):=fZ zbz 60 [1] (.i h1<|.c (beq_iff_eq.2 h2)<|.e) [1,2]
theorem dv_1 (p:List Int) (h1:r64 ((p.length:Int)-1)) (h2:(p.length:Int)-1≠1) (h3:0<(p.length:Int)) (h4:0<p.length) (h5:p.getD 0 0=0):FC Tryz.prog 114 [.sq p] (.tt):=fZ zbz 60 [0,1] (.i h1<|.c (beq_false_of_ne h2)<|.t h3<|.t h4<|.c (beq_iff_eq.2 h5)<|.e) [1,2,0,3,4,5]
abbrev zbd (s:St) (r:Ex × St):Prop:=Loops 1 Tryz.prog (pZ Tryz.prog 155 0) s r
abbrev zar (a:Int) (b:List Int) (c:Int):St:=⟨sp 29 [(0,aI a),(1,.fn 156 [.ref 0 0]),(5,aI c)],[.flat [.sq b] true],[]⟩
abbrev zcz (a:Int) (b:List Int) (c:Int):St:=⟨sp 29 [(0,aI a),(1,.fn 156 [.ref 0 0]),(5,aI c)],[.flat [.sq b] false],[]⟩
abbrev zcY (a:Int) (b:List Int):St:=⟨sp 29 [(4,.tt)],[.flat [.sq b] false],[]⟩
abbrev zcZ (a:Int) (b:List Int) (c:Int):St:=⟨sp 29 [(0,aI a),(1,.fn 156 [.ref 0 0]),(5,aI c)],[.flat [.sq b] true],[]⟩
abbrev zc0 (a:Int) (b:List Int) (c:Int):St:=⟨sp 29 [(0,aI a),(1,.fn 156 [.ref 0 0]),(5,aI c)],[.flat [.sq b] false],[]⟩
theorem dv_L0_0_0 (a:Int) (b:List Int) (d:Int) (h1:r64 (0-a)) (h2:d≤if 0-a > a then 0-a else a) (h3:¬(d=0)) (h4:Int.tmod a d=0) (h5:pPv b d) (h6:pv b d=0):zbd (zar a b d) (Ex.ret,(zcY a b)):=Loops.fin (LS.at zbz 60 [] [4] [] [1,1,1] (.i h1<|.t h2<|.y h3<|.c (beq_iff_eq.2 h4)<|.c h5<|.c (beq_iff_eq.2 h6)<|.e) [1,2,3,4,5,6]) (fun h=>nomatch h)
theorem dv_L0_0_1 (a:Int) (b:List Int) (d:Int) (h1:r64 (0-a)) (h2:d≤if 0-a > a then 0-a else a) (h3:¬(d=0)) (h4:Int.tmod a d=0) (h5:pPv b d) (h6:pv b d≠0) (h7:r64 (0-d)) (h8:pPv b (0-d)) (h9:pv b (0-d)=0):zbd (zar a b d) (Ex.ret,(zcY a b)):=Loops.fin (LS.at zbz 60 [] [4] [] [1,1,0,1] (.i h1<|.t h2<|.y h3<|.c (beq_iff_eq.2 h4)<|.c h5<|.c (beq_false_of_ne h6)<|.i h7<|.c h8<|.c (beq_iff_eq.2 h9)<|.e) [1,2,3,4,5,6,7,8,9]) (fun h=>nomatch h)
theorem dv_L0_0_2 (a:Int) (b:List Int) (d:Int) (h1:r64 (0-a)) (h2:d≤if 0-a > a then 0-a else a) (h3:¬(d=0)) (h4:Int.tmod a d=0) (h5:pPv b d) (h6:pv b d≠0) (h7:r64 (0-d)) (h8:pPv b (0-d)) (h9:pv b (0-d)≠0) (h10:r64 (d+1)) {r:Ex × St} (k:zbd (zcz a b (d+1)) r):zbd (zar a b d) r:=Loops.go (LS.at zbz 60 [] [0,1,5] [] [1,1,0,0] (.i h1<|.t h2<|.y h3<|.c (beq_iff_eq.2 h4)<|.c h5<|.c (beq_false_of_ne h6)<|.i h7<|.c h8<|.c (beq_false_of_ne h9)<|.i h10<|.e) [1,2,3,4,5,6,7,8,9,10]) k
theorem dv_L0_0_3 (a:Int) (b:List Int) (d:Int) (h1:r64 (0-a)) (h2:d≤if 0-a > a then 0-a else a) (h3:¬(d=0)) (h4:Int.tmod a d≠0) (h5:r64 (d+1)) {r:Ex × St} (k:zbd (zar a b (d+1)) r):zbd (zar a b d) r:=Loops.go (LS.at zbz 60 [] [0,1,5] [] [1,0] (.i h1<|.t h2<|.y h3<|.c (beq_false_of_ne h4)<|.i h5<|.e) [1,2,3,4,5]) k
theorem dv_L0_0_4 (a:Int) (b:List Int) (c:Int) (h1:r64 (0-a)) (h2:¬(c≤if 0-a > a then 0-a else a)):zbd (zar a b c) (Ex.exit 0,(zcZ a b c)):=Loops.fin (LS.at zbz 60 [] [0,1,5] [] [0] (.i h1<|.f h2<|.e) [1,2]) (fun h=>nomatch h)
theorem dv_L0_1_0 (a:Int) (b:List Int) (d:Int) (h1:r64 (0-a)) (h2:d≤if 0-a > a then 0-a else a) (h3:¬(d=0)) (h4:Int.tmod a d=0) (h5:pPv b d) (h6:pv b d=0):zbd (zcz a b d) (Ex.ret,(zcY a b)):=Loops.fin (LS.at zbz 60 [] [4] [] [1,1,1] (.i h1<|.t h2<|.y h3<|.c (beq_iff_eq.2 h4)<|.c h5<|.c (beq_iff_eq.2 h6)<|.e) [1,2,3,4,5,6]) (fun h=>nomatch h)
theorem dv_L0_1_1 (a:Int) (b:List Int) (d:Int) (h1:r64 (0-a)) (h2:d≤if 0-a > a then 0-a else a) (h3:¬(d=0)) (h4:Int.tmod a d=0) (h5:pPv b d) (h6:pv b d≠0) (h7:r64 (0-d)) (h8:pPv b (0-d)) (h9:pv b (0-d)=0):zbd (zcz a b d) (Ex.ret,(zcY a b)):=Loops.fin (LS.at zbz 60 [] [4] [] [1,1,0,1] (.i h1<|.t h2<|.y h3<|.c (beq_iff_eq.2 h4)<|.c h5<|.c (beq_false_of_ne h6)<|.i h7<|.c h8<|.c (beq_iff_eq.2 h9)<|.e) [1,2,3,4,5,6,7,8,9]) (fun h=>nomatch h)
theorem dv_L0_1_2 (a:Int) (b:List Int) (d:Int) (h1:r64 (0-a)) (h2:d≤if 0-a > a then 0-a else a) (h3:¬(d=0)) (h4:Int.tmod a d=0) (h5:pPv b d) (h6:pv b d≠0) (h7:r64 (0-d)) (h8:pPv b (0-d)) (h9:pv b (0-d)≠0) (h10:r64 (d+1)) {r:Ex × St} (k:zbd (zcz a b (d+1)) r):zbd (zcz a b d) r:=Loops.go (LS.at zbz 60 [] [0,1,5] [] [1,1,0,0] (.i h1<|.t h2<|.y h3<|.c (beq_iff_eq.2 h4)<|.c h5<|.c (beq_false_of_ne h6)<|.i h7<|.c h8<|.c (beq_false_of_ne h9)<|.i h10<|.e) [1,2,3,4,5,6,7,8,9,10]) k
theorem dv_L0_1_3 (a:Int) (b:List Int) (d:Int) (h1:r64 (0-a)) (h2:d≤if 0-a > a then 0-a else a) (h3:¬(d=0)) (h4:Int.tmod a d≠0) (h5:r64 (d+1)) {r:Ex × St} (k:zbd (zcz a b (d+1)) r):zbd (zcz a b d) r:=Loops.go (LS.at zbz 60 [] [0,1,5] [] [1,0] (.i h1<|.t h2<|.y h3<|.c (beq_false_of_ne h4)<|.i h5<|.e) [1,2,3,4,5]) k
theorem dv_L0_1_4 (a:Int) (b:List Int) (c:Int) (h1:r64 (0-a)) (h2:¬(c≤if 0-a > a then 0-a else a)):zbd (zcz a b c) (Ex.exit 0,(zc0 a b c)):=Loops.fin (LS.at zbz 60 [] [0,1,5] [] [0] (.i h1<|.f h2<|.e) [1,2]) (fun h=>nomatch h)
theorem dv_2 (p:List Int) (h1:r64 ((p.length:Int)-1)) (h2:(p.length:Int)-1≠1) (h3:0<(p.length:Int)) (h4:0<p.length) (h5:p.getD 0 0≠0) (hL1:zbd (zar (p.getD 0 0) p (1)) (Ex.ret,(zcY (p.getD 0 0) p))):FC Tryz.prog 114 [.sq p] (.tt):=fZ zbz 60 [0,0] (.i h1<|.c (beq_false_of_ne h2)<|.t h3<|.t h4<|.c (beq_false_of_ne h5)<|.v [0,1,5] [] hL1<|.e) [1,2,0,3,4,5,0,3,4,0,6]
theorem dv_3 (p:List Int) (a:Int) (h1:r64 ((p.length:Int)-1)) (h2:(p.length:Int)-1≠1) (h3:0<(p.length:Int)) (h4:0<p.length) (h5:p.getD 0 0≠0) (hL1:zbd (zar (p.getD 0 0) p (1)) (Ex.exit 0,(zcZ (p.getD 0 0) p a))) (h7:(p.length:Int)-1<4):FC Tryz.prog 114 [.sq p] (.ff):=fZ zbz 60 [0,0,1] (.i h1<|.c (beq_false_of_ne h2)<|.t h3<|.t h4<|.c (beq_false_of_ne h5)<|.v [0,1,5] [] hL1<|.t h7<|.e) [1,2,0,3,4,5,0,3,4,0,6,7]
abbrev zb3 (s:St) (r:Ex × St):Prop:=Loops 1 Tryz.prog (pZ Tryz.prog 155 0) s r
abbrev zbj (a:Int) (b:List Int) (c:Int):St:=⟨sp 29 [(0,aI a),(1,.fn 158 [.ref 0 0]),(5,aI c)],[.flat [.sq b] true],[]⟩
abbrev zcA (a:Int) (b:List Int) (c:Int):St:=⟨sp 29 [(0,aI a),(1,.fn 158 [.ref 0 0]),(5,aI c)],[.flat [.sq b] false],[]⟩
abbrev zc1 (a:Int) (b:List Int):St:=⟨sp 29 [(4,.tt)],[.flat [.sq b] false],[]⟩
abbrev zgA (a:Int) (b:List Int) (c:Int):St:=⟨sp 29 [(0,aI a),(1,.fn 158 [.ref 0 0]),(5,aI c)],[.flat [.sq b] true],[]⟩
abbrev zeQ (a:Int) (b:List Int) (c:Int):St:=⟨sp 29 [(0,aI a),(1,.fn 158 [.ref 0 0]),(5,aI c)],[.flat [.sq b] false],[]⟩
theorem dv_L1_0_0 (a:Int) (b:List Int) (d:Int) (h1:r64 (0-a)) (h2:d≤if 0-a > a then 0-a else a) (h3:¬(d=0)) (h4:Int.tmod a d=0) (h5:pD2 b d) (h6:q2 b d=true):zb3 (zbj a b d) (Ex.ret,(zc1 a b)):=Loops.fin (LS.at zbz 60 [] [4] [] [1,1,1] (.i h1<|.t h2<|.y h3<|.c (beq_iff_eq.2 h4)<|.c h5<|.c h6<|.e) [1,2,3,4,5,6]) (fun h=>nomatch h)
theorem dv_L1_0_1 (a:Int) (b:List Int) (d:Int) (h1:r64 (0-a)) (h2:d≤if 0-a > a then 0-a else a) (h3:¬(d=0)) (h4:Int.tmod a d=0) (h5:pD2 b d) (h6:q2 b d=false) (h7:r64 (0-d)) (h8:pD2 b (0-d)) (h9:q2 b (0-d)=true):zb3 (zbj a b d) (Ex.ret,(zc1 a b)):=Loops.fin (LS.at zbz 60 [] [4] [] [1,1,0,1] (.i h1<|.t h2<|.y h3<|.c (beq_iff_eq.2 h4)<|.c h5<|.c h6<|.i h7<|.c h8<|.c h9<|.e) [1,2,3,4,5,6,7,8,9]) (fun h=>nomatch h)
theorem dv_L1_0_2 (a:Int) (b:List Int) (d:Int) (h1:r64 (0-a)) (h2:d≤if 0-a > a then 0-a else a) (h3:¬(d=0)) (h4:Int.tmod a d=0) (h5:pD2 b d) (h6:q2 b d=false) (h7:r64 (0-d)) (h8:pD2 b (0-d)) (h9:q2 b (0-d)=false) (h10:r64 (d+1)) {r:Ex × St} (k:zb3 (zcA a b (d+1)) r):zb3 (zbj a b d) r:=Loops.go (LS.at zbz 60 [] [0,1,5] [] [1,1,0,0] (.i h1<|.t h2<|.y h3<|.c (beq_iff_eq.2 h4)<|.c h5<|.c h6<|.i h7<|.c h8<|.c h9<|.i h10<|.e) [1,2,3,4,5,6,7,8,9,10]) k
theorem dv_L1_0_3 (a:Int) (b:List Int) (d:Int) (h1:r64 (0-a)) (h2:d≤if 0-a > a then 0-a else a) (h3:¬(d=0)) (h4:Int.tmod a d≠0) (h5:r64 (d+1)) {r:Ex × St} (k:zb3 (zbj a b (d+1)) r):zb3 (zbj a b d) r:=Loops.go (LS.at zbz 60 [] [0,1,5] [] [1,0] (.i h1<|.t h2<|.y h3<|.c (beq_false_of_ne h4)<|.i h5<|.e) [1,2,3,4,5]) k
theorem dv_L1_0_4 (a:Int) (b:List Int) (c:Int) (h1:r64 (0-a)) (h2:¬(c≤if 0-a > a then 0-a else a)):zb3 (zbj a b c) (Ex.exit 0,(zgA a b c)):=Loops.fin (LS.at zbz 60 [] [0,1,5] [] [0] (.i h1<|.f h2<|.e) [1,2]) (fun h=>nomatch h)
theorem dv_L1_1_0 (a:Int) (b:List Int) (d:Int) (h1:r64 (0-a)) (h2:d≤if 0-a > a then 0-a else a) (h3:¬(d=0)) (h4:Int.tmod a d=0) (h5:pD2 b d) (h6:q2 b d=true):zb3 (zcA a b d) (Ex.ret,(zc1 a b)):=Loops.fin (LS.at zbz 60 [] [4] [] [1,1,1] (.i h1<|.t h2<|.y h3<|.c (beq_iff_eq.2 h4)<|.c h5<|.c h6<|.e) [1,2,3,4,5,6]) (fun h=>nomatch h)
theorem dv_L1_1_1 (a:Int) (b:List Int) (d:Int) (h1:r64 (0-a)) (h2:d≤if 0-a > a then 0-a else a) (h3:¬(d=0)) (h4:Int.tmod a d=0) (h5:pD2 b d) (h6:q2 b d=false) (h7:r64 (0-d)) (h8:pD2 b (0-d)) (h9:q2 b (0-d)=true):zb3 (zcA a b d) (Ex.ret,(zc1 a b)):=Loops.fin (LS.at zbz 60 [] [4] [] [1,1,0,1] (.i h1<|.t h2<|.y h3<|.c (beq_iff_eq.2 h4)<|.c h5<|.c h6<|.i h7<|.c h8<|.c h9<|.e) [1,2,3,4,5,6,7,8,9]) (fun h=>nomatch h)
theorem dv_L1_1_2 (a:Int) (b:List Int) (d:Int) (h1:r64 (0-a)) (h2:d≤if 0-a > a then 0-a else a) (h3:¬(d=0)) (h4:Int.tmod a d=0) (h5:pD2 b d) (h6:q2 b d=false) (h7:r64 (0-d)) (h8:pD2 b (0-d)) (h9:q2 b (0-d)=false) (h10:r64 (d+1)) {r:Ex × St} (k:zb3 (zcA a b (d+1)) r):zb3 (zcA a b d) r:=Loops.go (LS.at zbz 60 [] [0,1,5] [] [1,1,0,0] (.i h1<|.t h2<|.y h3<|.c (beq_iff_eq.2 h4)<|.c h5<|.c h6<|.i h7<|.c h8<|.c h9<|.i h10<|.e) [1,2,3,4,5,6,7,8,9,10]) k
theorem dv_L1_1_3 (a:Int) (b:List Int) (d:Int) (h1:r64 (0-a)) (h2:d≤if 0-a > a then 0-a else a) (h3:¬(d=0)) (h4:Int.tmod a d≠0) (h5:r64 (d+1)) {r:Ex × St} (k:zb3 (zcA a b (d+1)) r):zb3 (zcA a b d) r:=Loops.go (LS.at zbz 60 [] [0,1,5] [] [1,0] (.i h1<|.t h2<|.y h3<|.c (beq_false_of_ne h4)<|.i h5<|.e) [1,2,3,4,5]) k
theorem dv_L1_1_4 (a:Int) (b:List Int) (c:Int) (h1:r64 (0-a)) (h2:¬(c≤if 0-a > a then 0-a else a)):zb3 (zcA a b c) (Ex.exit 0,(zeQ a b c)):=Loops.fin (LS.at zbz 60 [] [0,1,5] [] [0] (.i h1<|.f h2<|.e) [1,2]) (fun h=>nomatch h)
theorem dv_4 (p:List Int) (a:Int) (h1:r64 ((p.length:Int)-1)) (h2:(p.length:Int)-1≠1) (h3:0<(p.length:Int)) (h4:0<p.length) (h5:p.getD 0 0≠0) (hL1:zbd (zar (p.getD 0 0) p (1)) (Ex.exit 0,(zcZ (p.getD 0 0) p a))) (h7:¬((p.length:Int)-1<4)) (hL2:zb3 (zbj (p.getD 0 0) p (1)) (Ex.ret,(zc1 (p.getD 0 0) p))):FC Tryz.prog 114 [.sq p] (.tt):=fZ zbz 60 [0,0,0] (.i h1<|.c (beq_false_of_ne h2)<|.t h3<|.t h4<|.c (beq_false_of_ne h5)<|.v [0,1,5] [] hL1<|.f h7<|.v [0,1,5] [] hL2<|.e) [1,2,0,3,4,5,0,3,4,0,6,7,0,3,4,0,8]
theorem dv_5 (p:List Int) (a b:Int) (h1:r64 ((p.length:Int)-1)) (h2:(p.length:Int)-1≠1) (h3:0<(p.length:Int)) (h4:0<p.length) (h5:p.getD 0 0≠0) (hL1:zbd (zar (p.getD 0 0) p (1)) (Ex.exit 0,(zcZ (p.getD 0 0) p a))) (h7:¬((p.length:Int)-1<4)) (hL2:zb3 (zbj (p.getD 0 0) p (1)) (Ex.exit 0,(zgA (p.getD 0 0) p b))):FC Tryz.prog 114 [.sq p] (.ff):=fZ zbz 60 [0,0,0] (.i h1<|.c (beq_false_of_ne h2)<|.t h3<|.t h4<|.c (beq_false_of_ne h5)<|.v [0,1,5] [] hL1<|.f h7<|.v [0,1,5] [] hL2<|.e) [1,2,0,3,4,5,0,3,4,0,6,7,0,3,4,0,8]
theorem dv_6 (p:List Int) (a b:Int) (h1:r64 ((p.length:Int)-1)) (h2:(p.length:Int)-1≠1) (h3:0<(p.length:Int)) (h4:0<p.length) (h5:p.getD 0 0≠0) (hL1:zbd (zar (p.getD 0 0) p (1)) (Ex.exit 0,(zcZ (p.getD 0 0) p a))) (h7:¬((p.length:Int)-1<4)) (hL2:zb3 (zbj (p.getD 0 0) p (1)) (Ex.exit 0,(zeQ (p.getD 0 0) p b))):FC Tryz.prog 114 [.sq p] (.ff):=fZ zbz 60 [0,0,0] (.i h1<|.c (beq_false_of_ne h2)<|.t h3<|.t h4<|.c (beq_false_of_ne h5)<|.v [0,1,5] [] hL1<|.f h7<|.v [0,1,5] [] hL2<|.e) [1,2,0,3,4,5,0,3,4,0,6,7,0,3,4,0,8]
theorem dv_7 (p:List Int) (a:Int) (h1:r64 ((p.length:Int)-1)) (h2:(p.length:Int)-1≠1) (h3:0<(p.length:Int)) (h4:0<p.length) (h5:p.getD 0 0≠0) (hL1:zbd (zar (p.getD 0 0) p (1)) (Ex.exit 0,(zc0 (p.getD 0 0) p a))) (h7:(p.length:Int)-1<4):FC Tryz.prog 114 [.sq p] (.ff):=fZ zbz 60 [0,0,1] (.i h1<|.c (beq_false_of_ne h2)<|.t h3<|.t h4<|.c (beq_false_of_ne h5)<|.v [0,1,5] [] hL1<|.t h7<|.e) [1,2,0,3,4,5,0,3,4,0,6,7]
abbrev zgq (s:St) (r:Ex × St):Prop:=Loops 1 Tryz.prog (pZ Tryz.prog 155 0) s r
abbrev zbA (a:Int) (b:List Int) (c:Int):St:=⟨sp 29 [(0,aI a),(1,.fn 158 [.ref 0 0]),(5,aI c)],[.flat [.sq b] false],[]⟩
abbrev zgB (a:Int) (b:List Int):St:=⟨sp 29 [(4,.tt)],[.flat [.sq b] false],[]⟩
abbrev zgC (a:Int) (b:List Int) (c:Int):St:=⟨sp 29 [(0,aI a),(1,.fn 158 [.ref 0 0]),(5,aI c)],[.flat [.sq b] false],[]⟩
theorem dv_L2_0_0 (a:Int) (b:List Int) (d:Int) (h1:r64 (0-a)) (h2:d≤if 0-a > a then 0-a else a) (h3:¬(d=0)) (h4:Int.tmod a d=0) (h5:pD2 b d) (h6:q2 b d=true):zgq (zbA a b d) (Ex.ret,(zgB a b)):=Loops.fin (LS.at zbz 60 [] [4] [] [1,1,1] (.i h1<|.t h2<|.y h3<|.c (beq_iff_eq.2 h4)<|.c h5<|.c h6<|.e) [1,2,3,4,5,6]) (fun h=>nomatch h)
theorem dv_L2_0_1 (a:Int) (b:List Int) (d:Int) (h1:r64 (0-a)) (h2:d≤if 0-a > a then 0-a else a) (h3:¬(d=0)) (h4:Int.tmod a d=0) (h5:pD2 b d) (h6:q2 b d=false) (h7:r64 (0-d)) (h8:pD2 b (0-d)) (h9:q2 b (0-d)=true):zgq (zbA a b d) (Ex.ret,(zgB a b)):=Loops.fin (LS.at zbz 60 [] [4] [] [1,1,0,1] (.i h1<|.t h2<|.y h3<|.c (beq_iff_eq.2 h4)<|.c h5<|.c h6<|.i h7<|.c h8<|.c h9<|.e) [1,2,3,4,5,6,7,8,9]) (fun h=>nomatch h)
theorem dv_L2_0_2 (a:Int) (b:List Int) (d:Int) (h1:r64 (0-a)) (h2:d≤if 0-a > a then 0-a else a) (h3:¬(d=0)) (h4:Int.tmod a d=0) (h5:pD2 b d) (h6:q2 b d=false) (h7:r64 (0-d)) (h8:pD2 b (0-d)) (h9:q2 b (0-d)=false) (h10:r64 (d+1)) {r:Ex × St} (k:zgq (zbA a b (d+1)) r):zgq (zbA a b d) r:=Loops.go (LS.at zbz 60 [] [0,1,5] [] [1,1,0,0] (.i h1<|.t h2<|.y h3<|.c (beq_iff_eq.2 h4)<|.c h5<|.c h6<|.i h7<|.c h8<|.c h9<|.i h10<|.e) [1,2,3,4,5,6,7,8,9,10]) k
theorem dv_L2_0_3 (a:Int) (b:List Int) (d:Int) (h1:r64 (0-a)) (h2:d≤if 0-a > a then 0-a else a) (h3:¬(d=0)) (h4:Int.tmod a d≠0) (h5:r64 (d+1)) {r:Ex × St} (k:zgq (zbA a b (d+1)) r):zgq (zbA a b d) r:=Loops.go (LS.at zbz 60 [] [0,1,5] [] [1,0] (.i h1<|.t h2<|.y h3<|.c (beq_false_of_ne h4)<|.i h5<|.e) [1,2,3,4,5]) k
theorem dv_L2_0_4 (a:Int) (b:List Int) (c:Int) (h1:r64 (0-a)) (h2:¬(c≤if 0-a > a then 0-a else a)):zgq (zbA a b c) (Ex.exit 0,(zgC a b c)):=Loops.fin (LS.at zbz 60 [] [0,1,5] [] [0] (.i h1<|.f h2<|.e) [1,2]) (fun h=>nomatch h)
theorem dv_8 (p:List Int) (a:Int) (h1:r64 ((p.length:Int)-1)) (h2:(p.length:Int)-1≠1) (h3:0<(p.length:Int)) (h4:0<p.length) (h5:p.getD 0 0≠0) (hL1:zbd (zar (p.getD 0 0) p (1)) (Ex.exit 0,(zc0 (p.getD 0 0) p a))) (h7:¬((p.length:Int)-1<4)) (hL2:zgq (zbA (p.getD 0 0) p (1)) (Ex.ret,(zgB (p.getD 0 0) p))):FC Tryz.prog 114 [.sq p] (.tt):=fZ zbz 60 [0,0,0] (.i h1<|.c (beq_false_of_ne h2)<|.t h3<|.t h4<|.c (beq_false_of_ne h5)<|.v [0,1,5] [] hL1<|.f h7<|.v [0,1,5] [] hL2<|.e) [1,2,0,3,4,5,0,3,4,0,6,7,0,3,4,0,8]
theorem dv_9 (p:List Int) (a b:Int) (h1:r64 ((p.length:Int)-1)) (h2:(p.length:Int)-1≠1) (h3:0<(p.length:Int)) (h4:0<p.length) (h5:p.getD 0 0≠0) (hL1:zbd (zar (p.getD 0 0) p (1)) (Ex.exit 0,(zc0 (p.getD 0 0) p a))) (h7:¬((p.length:Int)-1<4)) (hL2:zgq (zbA (p.getD 0 0) p (1)) (Ex.exit 0,(zgC (p.getD 0 0) p b))):FC Tryz.prog 114 [.sq p] (.ff):=fZ zbz 60 [0,0,0] (.i h1<|.c (beq_false_of_ne h2)<|.t h3<|.t h4<|.c (beq_false_of_ne h5)<|.v [0,1,5] [] hL1<|.f h7<|.v [0,1,5] [] hL2<|.e) [1,2,0,3,4,5,0,3,4,0,6,7,0,3,4,0,8]
theorem re_0 (p:List Int) (h1:r64 ((p.length:Int)-1)) (h2:(p.length:Int)-1=1):FC Tryz.prog 102 [.sq p] (.ff):=fZ zbz 60 [1] (.i h1<|.c (beq_iff_eq.2 h2)<|.e) [1,2]
abbrev ziy (s:St) (r:Ex × St):Prop:=Loops 0 Tryz.prog (pZ Tryz.prog 102 0) s r
abbrev zcD (a:List Int) (b c:Int):St:=⟨sp 78 [(0,.sq a),(3,aI b),(4,aI c)],[],[]⟩
abbrev zj1 (a:List Int) (b:Int):St:=⟨sp 78 [(2,.tt)],[],[]⟩
abbrev zfc (a:List Int) (b c:Int):St:=⟨sp 78 [(0,.sq a),(3,aI b),(4,aI c)],[],[]⟩
theorem re_L0_0_0 (a:List Int) (b d:Int) (h1:d≤1001) (h2:pPv a d) (h3:pv a d=0):ziy (zcD a b d) (Ex.ret,(zj1 a b)):=Loops.fin (LS.at zbz 60 [] [2] [] [1,1] (.t h1<|.c h2<|.c (beq_iff_eq.2 h3)<|.e) [1,2,3]) (fun h=>nomatch h)
theorem re_L0_0_1 (a:List Int) (b d:Int) (h1:d≤1001) (h2:pPv a d) (h3:pv a d≠0) (h4:r64 (d+1)) {r:Ex × St} (k:ziy (zcD a b (d+1)) r):ziy (zcD a b d) r:=Loops.go (LS.at zbz 60 [] [0,3,4] [] [1,0] (.t h1<|.c h2<|.c (beq_false_of_ne h3)<|.i h4<|.e) [1,2,3,4]) k
theorem re_L0_0_2 (a:List Int) (b c:Int) (h1:¬(c≤1001)):ziy (zcD a b c) (Ex.exit 0,(zfc a b c)):=Loops.fin (LS.at zbz 60 [] [0,3,4] [] [0] (.f h1<|.e) [1]) (fun h=>nomatch h)
theorem re_1 (p:List Int) (h1:r64 ((p.length:Int)-1)) (h2:(p.length:Int)-1≠1) (hL1:ziy (zcD p ((p.length:Int)-1) (-1001)) (Ex.ret,(zj1 p ((p.length:Int)-1)))):FC Tryz.prog 102 [.sq p] (.tt):=fZ zbz 60 [0] (.i h1<|.c (beq_false_of_ne h2)<|.v [0,3,4] [] hL1<|.e) [1,2,0,3]
abbrev zfd (s:St) (r:Ex × St):Prop:=Loops 0 Tryz.prog (pZ Tryz.prog 102 1) s r
abbrev za7 (a:List Int) (b c:Int):St:=⟨sp 78 [(0,.sq a),(3,aI b),(5,aI c)],[],[]⟩
abbrev zj3 (a:List Int) (b:Int):St:=⟨sp 78 [(2,.tt)],[],[]⟩
abbrev zfe (a:List Int) (b c:Int):St:=⟨sp 78 [(0,.sq a),(3,aI b),(5,aI c)],[],[]⟩
theorem re_L3_0_0 (a:List Int) (b d:Int) (h1:d≤1000) (h2:b=4) (h3:d=0) (h4:r64 (d+1)) {r:Ex × St} (k:zfd (za7 a b (d+1)) r):zfd (za7 a b d) r:=Loops.go (LS.at zbz 60 [] [0,3,5] [] [1,1,1] (.t h1<|.c (beq_iff_eq.2 h2)<|.c (beq_iff_eq.2 h3)<|.i h4<|.e) [1,2,3,4]) k
theorem re_L3_0_1 (a:List Int) (b d:Int) (h1:d≤1000) (h2:b=4) (h3:d≠0) (h4:0<(a.length:Int)) (h5:0<a.length) (h6:¬(d=0)) (h7:Int.tmod (a.getD 0 0) d≠0) (h8:r64 (d+1)) {r:Ex × St} (k:zfd (za7 a b (d+1)) r):zfd (za7 a b d) r:=Loops.go (LS.at zbz 60 [] [0,3,5] [] [1,1,0,1] (.t h1<|.c (beq_iff_eq.2 h2)<|.c (beq_false_of_ne h3)<|.t h4<|.t h5<|.y h6<|.c (bne_iff_ne.2 h7)<|.i h8<|.e) [1,2,3,0,4,5,6,7,8]) k
abbrev zhK (s:St) (r:Ex × St):Prop:=Loops 0 Tryz.prog (pZ Tryz.prog 102 2) s r
abbrev zb8 (a:List Int) (b c d:Int):St:=⟨sp 78 [(0,.sq a),(3,aI b),(5,aI c),(6,aI d)],[],[]⟩
abbrev zj2 (a:List Int) (b c:Int):St:=⟨sp 78 [(2,.tt)],[],[]⟩
abbrev zgL (a:List Int) (b c d:Int):St:=⟨sp 78 [(0,.sq a),(3,aI b),(5,aI c),(6,aI d)],[],[]⟩
theorem re_L2_0_0 (a:List Int) (b d f:Int) (h1:f≤2002) (h2:3<(a.length:Int)) (h3:3<a.length) (h4:r64 (a.getD 3 0-f)) (h5:2<(a.length:Int)) (h6:2<a.length) (h7:r64 (a.getD 2 0-d)) (h8:r64 (f*(a.getD 3 0-f))) (h9:r64 (a.getD 2 0-d-f*(a.getD 3 0-f))) (h10:r64 (d*(a.getD 2 0-d-f*(a.getD 3 0-f)))) (h11:0<(a.length:Int)) (h12:0<a.length) (h13:d*(a.getD 2 0-d-f*(a.getD 3 0-f))=a.getD 0 0) (h14:r64 (f*(a.getD 2 0-d-f*(a.getD 3 0-f)))) (h15:r64 (d*(a.getD 3 0-f))) (h16:r64 (f*(a.getD 2 0-d-f*(a.getD 3 0-f))+d*(a.getD 3 0-f))) (h17:1<(a.length:Int)) (h18:1<a.length) (h19:f*(a.getD 2 0-d-f*(a.getD 3 0-f))+d*(a.getD 3 0-f)=a.getD 1 0):zhK (zb8 a b d f) (Ex.ret,(zj2 a b d)):=Loops.fin (LS.at zbz 60 [] [2] [] [1,1,1] (.t h1<|.t h2<|.t h3<|.i h4<|.t h5<|.t h6<|.i h7<|.i h8<|.i h9<|.i h10<|.t h11<|.t h12<|.c (beq_iff_eq.2 h13)<|.i h14<|.i h15<|.i h16<|.t h17<|.t h18<|.c (beq_iff_eq.2 h19)<|.e) [1,0,2,3,4,0,5,6,7,8,9,10,0,11,12,13,14,15,16,0,17,18,19]) (fun h=>nomatch h)
theorem re_L2_0_1 (a:List Int) (b d f:Int) (h1:f≤2002) (h2:3<(a.length:Int)) (h3:3<a.length) (h4:r64 (a.getD 3 0-f)) (h5:2<(a.length:Int)) (h6:2<a.length) (h7:r64 (a.getD 2 0-d)) (h8:r64 (f*(a.getD 3 0-f))) (h9:r64 (a.getD 2 0-d-f*(a.getD 3 0-f))) (h10:r64 (d*(a.getD 2 0-d-f*(a.getD 3 0-f)))) (h11:0<(a.length:Int)) (h12:0<a.length) (h13:d*(a.getD 2 0-d-f*(a.getD 3 0-f))=a.getD 0 0) (h14:r64 (f*(a.getD 2 0-d-f*(a.getD 3 0-f)))) (h15:r64 (d*(a.getD 3 0-f))) (h16:r64 (f*(a.getD 2 0-d-f*(a.getD 3 0-f))+d*(a.getD 3 0-f))) (h17:1<(a.length:Int)) (h18:1<a.length) (h19:f*(a.getD 2 0-d-f*(a.getD 3 0-f))+d*(a.getD 3 0-f)≠a.getD 1 0) (h20:r64 (f+1)) {r:Ex × St} (k:zhK (zb8 a b d (f+1)) r):zhK (zb8 a b d f) r:=Loops.go (LS.at zbz 60 [] [0,3,5,6] [] [1,1,0] (.t h1<|.t h2<|.t h3<|.i h4<|.t h5<|.t h6<|.i h7<|.i h8<|.i h9<|.i h10<|.t h11<|.t h12<|.c (beq_iff_eq.2 h13)<|.i h14<|.i h15<|.i h16<|.t h17<|.t h18<|.c (beq_false_of_ne h19)<|.i h20<|.e) [1,0,2,3,4,0,5,6,7,8,9,10,0,11,12,13,14,15,16,0,17,18,19,20]) k
theorem re_L2_0_2 (a:List Int) (b d f:Int) (h1:f≤2002) (h2:3<(a.length:Int)) (h3:3<a.length) (h4:r64 (a.getD 3 0-f)) (h5:2<(a.length:Int)) (h6:2<a.length) (h7:r64 (a.getD 2 0-d)) (h8:r64 (f*(a.getD 3 0-f))) (h9:r64 (a.getD 2 0-d-f*(a.getD 3 0-f))) (h10:r64 (d*(a.getD 2 0-d-f*(a.getD 3 0-f)))) (h11:0<(a.length:Int)) (h12:0<a.length) (h13:d*(a.getD 2 0-d-f*(a.getD 3 0-f))≠a.getD 0 0) (h14:r64 (f+1)) {r:Ex × St} (k:zhK (zb8 a b d (f+1)) r):zhK (zb8 a b d f) r:=Loops.go (LS.at zbz 60 [] [0,3,5,6] [] [1,0] (.t h1<|.t h2<|.t h3<|.i h4<|.t h5<|.t h6<|.i h7<|.i h8<|.i h9<|.i h10<|.t h11<|.t h12<|.c (beq_false_of_ne h13)<|.i h14<|.e) [1,0,2,3,4,0,5,6,7,8,9,10,0,11,12,13,14]) k
theorem re_L2_0_3 (a:List Int) (b c d:Int) (h1:¬(d≤2002)):zhK (zb8 a b c d) (Ex.exit 4,(zgL a b c d)):=Loops.fin (LS.at zbz 60 [] [0,3,5,6] [] [0] (.f h1<|.e) [1]) (fun h=>nomatch h)
theorem re_L3_0_2 (a:List Int) (b d:Int) (h1:d≤1000) (h2:b=4) (h3:d≠0) (h4:0<(a.length:Int)) (h5:0<a.length) (h6:¬(d=0)) (h7:Int.tmod (a.getD 0 0) d=0) (hL1:zhK (zb8 a b d (-2002)) (Ex.ret,(zj2 a b d))):zfd (za7 a b d) (Ex.ret,(zj3 a b)):=Loops.fin (LS.at zbz 60 [] [2] [] [1,1,0,0] (.t h1<|.c (beq_iff_eq.2 h2)<|.c (beq_false_of_ne h3)<|.t h4<|.t h5<|.y h6<|.c (bne_eq_false_iff_eq.2 h7)<|.v [0,3,5,6] [] hL1<|.e) [1,2,3,0,4,5,6,7,0,8]) (fun h=>nomatch h)
theorem re_L3_0_3 (a:List Int) (b d f:Int) (h1:d≤1000) (h2:b=4) (h3:d≠0) (h4:0<(a.length:Int)) (h5:0<a.length) (h6:¬(d=0)) (h7:Int.tmod (a.getD 0 0) d=0) (hL1:zhK (zb8 a b d (-2002)) (Ex.exit 4,(zgL a b d f))) (h9:r64 (d+1)) {r:Ex × St} (k:zfd (za7 a b (d+1)) r):zfd (za7 a b d) r:=Loops.go (LS.at zbz 60 [] [0,3,5] [] [1,1,0,0] (.t h1<|.c (beq_iff_eq.2 h2)<|.c (beq_false_of_ne h3)<|.t h4<|.t h5<|.y h6<|.c (bne_eq_false_iff_eq.2 h7)<|.v [0,3,5,6] [] hL1<|.i h9<|.e) [1,2,3,0,4,5,6,7,0,8,9]) k
theorem re_L3_0_4 (a:List Int) (b d:Int) (h1:d≤1000) (h2:b≠4):zfd (za7 a b d) (Ex.exit 2,(zfe a b d)):=Loops.fin (LS.at zbz 60 [] [0,3,5] [] [1,0] (.t h1<|.c (beq_false_of_ne h2)<|.e) [1,2]) (fun h=>nomatch h)
theorem re_L3_0_5 (a:List Int) (b c:Int) (h1:¬(c≤1000)):zfd (za7 a b c) (Ex.exit 2,(zfe a b c)):=Loops.fin (LS.at zbz 60 [] [0,3,5] [] [0] (.f h1<|.e) [1]) (fun h=>nomatch h)
theorem re_2 (p:List Int) (a:Int) (h1:r64 ((p.length:Int)-1)) (h2:(p.length:Int)-1≠1) (hL1:ziy (zcD p ((p.length:Int)-1) (-1001)) (Ex.exit 0,(zfc p ((p.length:Int)-1) a))) (hL2:zfd (za7 p ((p.length:Int)-1) (-1000)) (Ex.ret,(zj3 p ((p.length:Int)-1)))):FC Tryz.prog 102 [.sq p] (.tt):=fZ zbz 60 [0] (.i h1<|.c (beq_false_of_ne h2)<|.v [0,3,4] [] hL1<|.v [0,3,5] [] hL2<|.e) [1,2,0,3,0,4]
theorem re_3 (p:List Int) (a b:Int) (h1:r64 ((p.length:Int)-1)) (h2:(p.length:Int)-1≠1) (hL1:ziy (zcD p ((p.length:Int)-1) (-1001)) (Ex.exit 0,(zfc p ((p.length:Int)-1) a))) (hL2:zfd (za7 p ((p.length:Int)-1) (-1000)) (Ex.exit 2,(zfe p ((p.length:Int)-1) b))):FC Tryz.prog 102 [.sq p] (.ff):=fZ zbz 60 [0] (.i h1<|.c (beq_false_of_ne h2)<|.v [0,3,4] [] hL1<|.v [0,3,5] [] hL2<|.e) [1,2,0,3,0,4]
end
theorem zeA {R:Type} (B:Int→R→Prop) (G:Int→Prop) (lo hi:Int) (e0:R) (e2:Int→R) (h0:∀t,lo≤t→t≤hi→G t→B t e0) (h1:∀t,lo≤t→t≤hi→¬G t→∀r,B (t+1) r→B t r) (h2:B (hi+1) (e2 (hi+1))) :
    ∀(n:Nat) (t:Int),t+n=hi+1→lo≤t→(∃a,t≤a∧a≤hi∧G a)∧B t e0∨(¬ ∃a,t≤a∧a≤hi∧G a)∧B t (e2 (hi+1))
  | 0,t,ht,_=>by
    obtain rfl:t=hi+1:=by omega
    exact .inr ⟨fun ⟨a,h1,h2,_⟩=>by omega,h2⟩
  | n + 1,t,ht,hm=>by
    by_cases e:G t
    · exact .inl ⟨⟨t,by omega,by omega,e⟩,h0 t hm (by omega) e⟩
    · have go:=h1 t hm (by omega) e
      rcases zeA B G lo hi e0 e2 h0 h1 h2 n (t+1) (by omega) (by omega) with ⟨⟨a,h1,h2,h3⟩,k⟩ | ⟨hn,k⟩
      · exact .inl ⟨⟨a,by omega,h2,h3⟩,go _ k⟩
      · refine .inr ⟨fun ⟨a,h1,h2,h3⟩=>?_,go _ k⟩
        rcases Int.lt_or_eq_of_le h1 with h | h
        · exact hn ⟨a,by omega,h2,h3⟩
        · subst h;exact e h3
theorem zji {R:Type} (A B:Int→R→Prop) (G:Int→Prop) (lo hi:Int) (e0:R) (e1 e2:Int→R) (hB:∀(n:Nat) (t:Int),t+n=hi+1→lo≤t→(∃a,t≤a∧a≤hi∧G a)∧B t e0∨(¬ ∃a,t≤a∧a≤hi∧G a)∧B t (e2 (hi+1)))
    (h0:∀t,lo≤t→t≤hi→G t→A t e0) (h1:∀t,lo≤t→t≤hi→¬G t→(∀r,B (t+1) r→A t r)∨(∀r,A (t+1) r→A t r)) (h2:A (hi+1) (e1 (hi+1))) :
    ∀(n:Nat) (t:Int),t+n=hi+1→lo≤t→(∃a,t≤a∧a≤hi∧G a)∧A t e0∨(¬ ∃a,t≤a∧a≤hi∧G a)∧(A t (e1 (hi+1))∨A t (e2 (hi+1)))
  | 0,t,ht,_=>by
    obtain rfl:t=hi+1:=by omega
    exact .inr ⟨fun ⟨a,h1,h2,_⟩=>by omega,.inl h2⟩
  | n + 1,t,ht,hm=>by
    have up:(¬ ∃a,t+1≤a∧a≤hi∧G a)→¬G t→¬ ∃a,t≤a∧a≤hi∧G a:=fun hn e ⟨a,h1,h2,h3⟩=>by
      rcases Int.lt_or_eq_of_le h1 with h | h
      · exact hn ⟨a,by omega,h2,h3⟩
      · subst h;exact e h3
    by_cases e:G t
    · exact .inl ⟨⟨t,by omega,by omega,e⟩,h0 t hm (by omega) e⟩
    · rcases h1 t hm (by omega) e with go | go
      · rcases hB n (t+1) (by omega) (by omega) with ⟨⟨a,h1,h2,h3⟩,k⟩ | ⟨hn,k⟩
        · exact .inl ⟨⟨a,by omega,h2,h3⟩,go _ k⟩
        · exact .inr ⟨up hn e,.inr (go _ k)⟩
      · rcases zji A B G lo hi e0 e1 e2 hB h0 h1 h2 n (t+1) (by omega) (by omega) with ⟨⟨a,h1,h2,h3⟩,k⟩ | ⟨hn,k | k⟩
        · exact .inl ⟨⟨a,by omega,h2,h3⟩,go _ k⟩
        · exact .inr ⟨up hn e,.inl (go _ k)⟩
        · exact .inr ⟨up hn e,.inr (go _ k)⟩
def Red (p:List Int):Prop:=p.length≠2∧((∃x,pv p x=0)∨p.length=5∧∃b,b≠0∧b∣p.getD 0 0∧Q2 p b)
noncomputable def red (p:List Int):Bool:=@decide (Red p) (Classical.propDecidable _)
theorem zpl {p:List Int} (h:Red p):AV.lit (.bool (red p))=.lit (.bool true):=by unfold red;rw [@decide_eq_true _ (Classical.propDecidable _) h]
theorem ziz {p:List Int} (h:¬Red p):AV.lit (.bool (red p))=.lit (.bool false):=by unfold red;rw [@decide_eq_false _ (Classical.propDecidable _) h]
def zdd (p:List Int):Prop:=2≤p.length∧p.length≤5∧(∀c∈p,c.natAbs≤1000)
instance tRed {p:List Int}:Tst (zdd p):=⟨false,fun h=>by cases h⟩
theorem pv_dvd {p:List Int} {x:Int} (h:pv p x=0):x∣p.getD 0 0:=by
  cases p with
  | nil=>simp
  | cons c l=>exact ⟨- pv l x,by simp only [pv] at h;simp;grind⟩
theorem zmG {p:List Int} (h:p.getD 0 0=0):pv p 0=0:=by
  cases p with
  | nil=>rfl
  | cons c l=>simp only [pv];simp at h;omega
theorem dvdB {x a:Int} (h:x∣a) (h0:a≠0):x.natAbs≤a.natAbs:=Nat.le_of_dvd (by omega) (Int.natAbs_dvd_natAbs.2 h)
theorem ttT {P:Program} {f:FuncId} {a:List AV} {b:Bool} (h:FC P f a .tt) (e:AV.lit (.bool b)=.lit (.bool true)):FC P f a (.lit (.bool b)):=by rw [e];exact h.res fun E v hv=>by cases hv;exact .lit _
theorem ffF {P:Program} {f:FuncId} {a:List AV} {b:Bool} (h:FC P f a .ff) (e:AV.lit (.bool b)=.lit (.bool false)):FC P f a (.lit (.bool b)):=by rw [e];exact h.res fun E v hv=>by cases hv;exact .lit _
def Dv (n:Int) (H:Int→Prop) (t:Int):Prop:=Int.tmod n t=0∧(H t∨H (0-t))
theorem dv_ex {n:Int} (h0:n≠0) {H:Int→Prop} {m:Int} (hm:m=(if 0-n > n then 0-n else n)):(∃a,1≤a∧a≤m∧Dv n H a)↔∃b,b≠0∧b∣n∧H b:=by
  constructor
  · rintro ⟨a,h1,h2,h3,h4⟩
    have hd:=Int.dvd_of_tmod_eq_zero h3
    rcases h4 with h | h
    · exact ⟨a,by omega,hd,h⟩
    · exact ⟨0-a,by omega,by obtain ⟨c,hc⟩:=hd;exact ⟨-c,by rw [hc];grind⟩,h⟩
  · rintro ⟨b,h1,h2,h3⟩
    have hb:=dvdB h2 h0
    have hm':(m:Int)=n.natAbs:=by subst hm;split<;>omega
    rcases Int.lt_or_le 0 b with h | h
    · exact ⟨b,by omega,by omega,Int.tmod_eq_zero_of_dvd h2,.inl h3⟩
    · refine ⟨-b,by omega,by omega,Int.tmod_eq_zero_of_dvd ((Int.neg_dvd).2 h2),.inr ?_⟩
      rwa [show 0 - -b=b by omega]
theorem dv0 {p:List Int} (h:zdd p) (h0:p.getD 0 0≠0) {m:Int} (hm:m=(if 0-p.getD 0 0 > p.getD 0 0 then 0-p.getD 0 0 else p.getD 0 0)) :
    (∃b,b≠0∧b∣p.getD 0 0∧pv p b=0)∧zbd (zar (p.getD 0 0) p 1) (Ex.ret,zcY (p.getD 0 0) p) ∨
    (¬ ∃b,b≠0∧b∣p.getD 0 0∧pv p b=0)∧(zbd (zar (p.getD 0 0) p 1) (Ex.exit 0,zcZ (p.getD 0 0) p (m+1))∨zbd (zar (p.getD 0 0) p 1) (Ex.exit 0,zc0 (p.getD 0 0) p (m+1))):=by
  obtain ⟨h2,h5,ha⟩:=h
  have g0:=zeT ha 0
  have hm':(m:Int)=(p.getD 0 0).natAbs:=by subst hm;split<;>omega
  have pp:∀t:Int,t.natAbs≤1000→pPv p t:=fun t ht=>⟨h2,h5,ha,by omega⟩
  rw [← dv_ex h0 hm]
  refine zji (fun t=>zbd (zar (p.getD 0 0) p t)) (fun t=>zbd (zcz (p.getD 0 0) p t)) (Dv (p.getD 0 0) fun t=>pv p t=0) 1 m (Ex.ret,zcY (p.getD 0 0) p) (fun t=>(Ex.exit 0,zcZ (p.getD 0 0) p t)) (fun t=>(Ex.exit 0,zc0 (p.getD 0 0) p t)) ?_ ?_ ?_ ?_ m.toNat 1 (by omega) (by omega)
  · refine zeA (fun t=>zbd (zcz (p.getD 0 0) p t)) _ 1 m _ (fun t=>(Ex.exit 0,zc0 (p.getD 0 0) p t)) ?_ ?_ ?_
    · rintro t t1 t2 ⟨k1,k2⟩
      by_cases k3:pv p t=0
      · exact dv_L0_1_0 _ _ t (by omega) (by omega) (by omega) k1 (pp _ (by omega)) k3
      · exact dv_L0_1_1 _ _ t (by omega) (by omega) (by omega) k1 (pp _ (by omega)) k3 (by omega) (pp _ (by omega)) (k2.resolve_left k3)
    · intro t t1 t2 hn r k
      by_cases k1:Int.tmod (p.getD 0 0) t=0
      · have n1:pv p t≠0:=fun e=>hn ⟨k1,.inl e⟩
        have n2:pv p (0-t)≠0:=fun e=>hn ⟨k1,.inr e⟩
        exact dv_L0_1_2 _ _ t (by omega) (by omega) (by omega) k1 (pp _ (by omega)) n1 (by omega) (pp _ (by omega)) n2 (by omega) k
      · exact dv_L0_1_3 _ _ t (by omega) (by omega) (by omega) k1 (by omega) k
    · exact dv_L0_1_4 _ _ _ (by omega) (by omega)
  · rintro t t1 t2 ⟨k1,k2⟩
    by_cases k3:pv p t=0
    · exact dv_L0_0_0 _ _ t (by omega) (by omega) (by omega) k1 (pp _ (by omega)) k3
    · exact dv_L0_0_1 _ _ t (by omega) (by omega) (by omega) k1 (pp _ (by omega)) k3 (by omega) (pp _ (by omega)) (k2.resolve_left k3)
  · intro t t1 t2 hn
    by_cases k1:Int.tmod (p.getD 0 0) t=0
    · have n1:pv p t≠0:=fun e=>hn ⟨k1,.inl e⟩
      have n2:pv p (0-t)≠0:=fun e=>hn ⟨k1,.inr e⟩
      exact .inl fun r k=>dv_L0_0_2 _ _ t (by omega) (by omega) (by omega) k1 (pp _ (by omega)) n1 (by omega) (pp _ (by omega)) n2 (by omega) k
    · exact .inr fun r k=>dv_L0_0_3 _ _ t (by omega) (by omega) (by omega) k1 (by omega) k
  · exact dv_L0_0_4 _ _ _ (by omega) (by omega)
theorem dv1 {p:List Int} (h:zdd p) (hl:p.length=5) (h0:p.getD 0 0≠0) {m:Int} (hm:m=(if 0-p.getD 0 0 > p.getD 0 0 then 0-p.getD 0 0 else p.getD 0 0)) :
    (∃b,b≠0∧b∣p.getD 0 0∧Q2 p b)∧zb3 (zbj (p.getD 0 0) p 1) (Ex.ret,zc1 (p.getD 0 0) p) ∨
    (¬ ∃b,b≠0∧b∣p.getD 0 0∧Q2 p b)∧(zb3 (zbj (p.getD 0 0) p 1) (Ex.exit 0,zgA (p.getD 0 0) p (m+1))∨zb3 (zbj (p.getD 0 0) p 1) (Ex.exit 0,zeQ (p.getD 0 0) p (m+1))):=by
  obtain ⟨h2,_,ha⟩:=h
  have h5:=hl
  have g0:=zeT ha 0
  have hm':(m:Int)=(p.getD 0 0).natAbs:=by subst hm;split<;>omega
  have pp:∀t:Int,t≠0→t.natAbs≤1000→pD2 p t:=fun t h1 ht=>⟨h5,ha,h1,ht⟩
  rw [← dv_ex h0 hm]
  refine zji (fun t=>zb3 (zbj (p.getD 0 0) p t)) (fun t=>zb3 (zcA (p.getD 0 0) p t)) (Dv (p.getD 0 0) fun t=>Q2 p t) 1 m (Ex.ret,zc1 (p.getD 0 0) p) (fun t=>(Ex.exit 0,zgA (p.getD 0 0) p t)) (fun t=>(Ex.exit 0,zeQ (p.getD 0 0) p t)) ?_ ?_ ?_ ?_ m.toNat 1 (by omega) (by omega)
  · refine zeA (fun t=>zb3 (zcA (p.getD 0 0) p t)) _ 1 m _ (fun t=>(Ex.exit 0,zeQ (p.getD 0 0) p t)) ?_ ?_ ?_
    · rintro t t1 t2 ⟨k1,k2⟩
      by_cases k3:Q2 p t
      · exact dv_L1_1_0 _ _ t (by omega) (by omega) (by omega) k1 (pp _ (by omega) (by omega)) (q2_t k3)
      · exact dv_L1_1_1 _ _ t (by omega) (by omega) (by omega) k1 (pp _ (by omega) (by omega)) (zqs k3) (by omega) (pp _ (by omega) (by omega)) (q2_t (k2.resolve_left k3))
    · intro t t1 t2 hn r k
      by_cases k1:Int.tmod (p.getD 0 0) t=0
      · have n1:=zqs fun(e:Q2 p t)=>hn ⟨k1,.inl e⟩
        have n2:=zqs fun(e:Q2 p (0-t))=>hn ⟨k1,.inr e⟩
        exact dv_L1_1_2 _ _ t (by omega) (by omega) (by omega) k1 (pp _ (by omega) (by omega)) n1 (by omega) (pp _ (by omega) (by omega)) n2 (by omega) k
      · exact dv_L1_1_3 _ _ t (by omega) (by omega) (by omega) k1 (by omega) k
    · exact dv_L1_1_4 _ _ _ (by omega) (by omega)
  · rintro t t1 t2 ⟨k1,k2⟩
    by_cases k3:Q2 p t
    · exact dv_L1_0_0 _ _ t (by omega) (by omega) (by omega) k1 (pp _ (by omega) (by omega)) (q2_t k3)
    · exact dv_L1_0_1 _ _ t (by omega) (by omega) (by omega) k1 (pp _ (by omega) (by omega)) (zqs k3) (by omega) (pp _ (by omega) (by omega)) (q2_t (k2.resolve_left k3))
  · intro t t1 t2 hn
    by_cases k1:Int.tmod (p.getD 0 0) t=0
    · have n1:=zqs fun(e:Q2 p t)=>hn ⟨k1,.inl e⟩
      have n2:=zqs fun(e:Q2 p (0-t))=>hn ⟨k1,.inr e⟩
      exact .inl fun r k=>dv_L1_0_2 _ _ t (by omega) (by omega) (by omega) k1 (pp _ (by omega) (by omega)) n1 (by omega) (pp _ (by omega) (by omega)) n2 (by omega) k
    · exact .inr fun r k=>dv_L1_0_3 _ _ t (by omega) (by omega) (by omega) k1 (by omega) k
  · exact dv_L1_0_4 _ _ _ (by omega) (by omega)
theorem dv2 {p:List Int} (h:zdd p) (hl:p.length=5) (h0:p.getD 0 0≠0) {m:Int} (hm:m=(if 0-p.getD 0 0 > p.getD 0 0 then 0-p.getD 0 0 else p.getD 0 0)) :
    (∃b,b≠0∧b∣p.getD 0 0∧Q2 p b)∧zgq (zbA (p.getD 0 0) p 1) (Ex.ret,zgB (p.getD 0 0) p) ∨
    (¬ ∃b,b≠0∧b∣p.getD 0 0∧Q2 p b)∧zgq (zbA (p.getD 0 0) p 1) (Ex.exit 0,zgC (p.getD 0 0) p (m+1)):=by
  obtain ⟨h2,_,ha⟩:=h
  have g0:=zeT ha 0
  have hm':(m:Int)=(p.getD 0 0).natAbs:=by subst hm;split<;>omega
  have pp:∀t:Int,t≠0→t.natAbs≤1000→pD2 p t:=fun t h1 ht=>⟨hl,ha,h1,ht⟩
  rw [← dv_ex h0 hm]
  refine zeA (fun t=>zgq (zbA (p.getD 0 0) p t)) (Dv (p.getD 0 0) fun t=>Q2 p t) 1 m _ (fun t=>(Ex.exit 0,zgC (p.getD 0 0) p t)) ?_ ?_ ?_ m.toNat 1 (by omega) (by omega)
  · rintro t t1 t2 ⟨k1,k2⟩
    by_cases k3:Q2 p t
    · exact dv_L2_0_0 _ _ t (by omega) (by omega) (by omega) k1 (pp _ (by omega) (by omega)) (q2_t k3)
    · exact dv_L2_0_1 _ _ t (by omega) (by omega) (by omega) k1 (pp _ (by omega) (by omega)) (zqs k3) (by omega) (pp _ (by omega) (by omega)) (q2_t (k2.resolve_left k3))
  · intro t t1 t2 hn r k
    by_cases k1:Int.tmod (p.getD 0 0) t=0
    · have n1:=zqs fun(e:Q2 p t)=>hn ⟨k1,.inl e⟩
      have n2:=zqs fun(e:Q2 p (0-t))=>hn ⟨k1,.inr e⟩
      exact dv_L2_0_2 _ _ t (by omega) (by omega) (by omega) k1 (pp _ (by omega) (by omega)) n1 (by omega) (pp _ (by omega) (by omega)) n2 (by omega) k
    · exact dv_L2_0_3 _ _ t (by omega) (by omega) (by omega) k1 (by omega) k
  · exact dv_L2_0_4 _ _ _ (by omega) (by omega)
theorem zon (p:List Int) (h:zdd p):FC Tryz.prog 114 [.sq p] (.lit (.bool (red p))):=by
  have h':=h
  obtain ⟨h2,h5,ha⟩:=h'
  have g0:=zeT ha 0
  by_cases e2:p.length=2
  · exact ffF (dv_0 p (by omega) (by omega)) (ziz fun k=>k.1 e2)
  by_cases e0:p.getD 0 0=0
  · exact ttT (dv_1 p (by omega) (by omega) (by omega) (by omega) e0) (zpl ⟨e2,.inl ⟨0,zmG e0⟩⟩)
  have q1:-9223372036854775808≤(p.length:Int)-1∧(p.length:Int)-1≤9223372036854775807:=by omega
  have q2:(p.length:Int)-1≠1:=by omega
  have q3:(0:Int)<p.length:=by omega
  have q4:0<p.length:=by omega
  have q5:p.length=5→¬((p.length:Int)-1<4):=fun h=>by omega
  have q6:p.length≠5→(p.length:Int)-1<4:=fun h=>by omega
  have hr:(∃x,pv p x=0)↔∃b,b≠0∧b∣p.getD 0 0∧pv p b=0:=
    ⟨fun ⟨x,hx⟩=>⟨x,fun e=>e0 (by have:=pv_dvd hx;rw [e] at this;exact Int.zero_dvd.1 this),pv_dvd hx,hx⟩,fun ⟨b,_,_,hb⟩=>⟨b,hb⟩⟩
  rcases dv0 h e0 rfl with ⟨ex,k⟩ | ⟨nx,k⟩
  · exact ttT (dv_2 p q1 q2 q3 q4 e0 k) (zpl ⟨e2,.inl (hr.2 ex)⟩)
  by_cases e5:p.length=5
  · rcases k with k | k
    · rcases dv1 h e5 e0 rfl with ⟨ex,j⟩ | ⟨ny,j⟩
      · exact ttT (dv_4 p _ q1 q2 q3 q4 e0 k (q5 e5) j) (zpl ⟨e2,.inr ⟨e5,ex⟩⟩)
      · have nr:¬Red p:=fun r=>r.2.elim (fun hx=>nx (hr.1 hx)) fun hx=>ny hx.2
        rcases j with j | j
        · exact ffF (dv_5 p _ _ q1 q2 q3 q4 e0 k (q5 e5) j) (ziz nr)
        · exact ffF (dv_6 p _ _ q1 q2 q3 q4 e0 k (q5 e5) j) (ziz nr)
    · rcases dv2 h e5 e0 rfl with ⟨ex,j⟩ | ⟨ny,j⟩
      · exact ttT (dv_8 p _ q1 q2 q3 q4 e0 k (q5 e5) j) (zpl ⟨e2,.inr ⟨e5,ex⟩⟩)
      · exact ffF (dv_9 p _ _ q1 q2 q3 q4 e0 k (q5 e5) j) (ziz fun r=>r.2.elim (fun hx=>nx (hr.1 hx)) fun hx=>ny hx.2)
  · have nr:¬Red p:=fun r=>r.2.elim (fun hx=>nx (hr.1 hx)) fun hx=>e5 hx.1
    rcases k with k | k
    · exact ffF (dv_3 p _ q1 q2 q3 q4 e0 k (q6 e5)) (ziz nr)
    · exact ffF (dv_7 p _ q1 q2 q3 q4 e0 k (q6 e5)) (ziz nr)
def Eq2 (p:List Int) (b a:Int):Prop:=b*(p.getD 2 0-b-a*(p.getD 3 0-a))=p.getD 0 0∧a*(p.getD 2 0-b-a*(p.getD 3 0-a))+b*(p.getD 3 0-a)=p.getD 1 0
theorem re2 {p:List Int} (hl:p.length=5) (ha:∀c∈p,c.natAbs≤1000) {b:Int} (hb:b.natAbs≤1000) :
    (∃a,-2002≤a∧a≤2002∧Eq2 p b a)∧zhK (zb8 p 4 b (-2002)) (Ex.ret,zj2 p 4 b)∨(¬ ∃a,-2002≤a∧a≤2002∧Eq2 p b a)∧zhK (zb8 p 4 b (-2002)) (Ex.exit 4,zgL p 4 b 2003):=by
  have g0:=zeT ha 0
  have g1:=zeT ha 1
  have g2:=zeT ha 2
  have g3:=zeT ha 3
  refine zeA (fun t=>zhK (zb8 p 4 b t)) (Eq2 p b) (-2002) 2002 _ (fun t=>(Ex.exit 4,zgL p 4 b t)) ?_ ?_ ?_ 4005 (-2002) (by omega) (by omega)
  · rintro t t1 t2 ⟨k1,k2⟩
    have m1:=zla (a:=t) (b:=p.getD 3 0-t) (A:=2002) (B:=3002) (by omega) (by omega)
    have m2:=zla (a:=b) (b:=p.getD 2 0-b-t*(p.getD 3 0-t)) (A:=1000) (B:=6012004) (by omega) (by omega)
    have m3:=zla (a:=t) (b:=p.getD 2 0-b-t*(p.getD 3 0-t)) (A:=2002) (B:=6012004) (by omega) (by omega)
    have m4:=zla (a:=b) (b:=p.getD 3 0-t) (A:=1000) (B:=3002) (by omega) (by omega)
    exact re_L2_0_0 p 4 b t (by omega) (by omega) (by omega) (by omega) (by omega) (by omega) (by omega) (by omega) (by omega) (by omega) (by omega) (by omega) k1 (by omega) (by omega) (by omega) (by omega) (by omega) k2
  · intro t t1 t2 hn r k
    have m1:=zla (a:=t) (b:=p.getD 3 0-t) (A:=2002) (B:=3002) (by omega) (by omega)
    have m2:=zla (a:=b) (b:=p.getD 2 0-b-t*(p.getD 3 0-t)) (A:=1000) (B:=6012004) (by omega) (by omega)
    have m3:=zla (a:=t) (b:=p.getD 2 0-b-t*(p.getD 3 0-t)) (A:=2002) (B:=6012004) (by omega) (by omega)
    have m4:=zla (a:=b) (b:=p.getD 3 0-t) (A:=1000) (B:=3002) (by omega) (by omega)
    by_cases k1:b*(p.getD 2 0-b-t*(p.getD 3 0-t))=p.getD 0 0
    · exact re_L2_0_1 p 4 b t (by omega) (by omega) (by omega) (by omega) (by omega) (by omega) (by omega) (by omega) (by omega) (by omega) (by omega) (by omega) k1 (by omega) (by omega) (by omega) (by omega) (by omega) (fun k2=>hn ⟨k1,k2⟩) (by omega) k
    · exact re_L2_0_2 p 4 b t (by omega) (by omega) (by omega) (by omega) (by omega) (by omega) (by omega) (by omega) (by omega) (by omega) (by omega) (by omega) k1 (by omega) k
  · exact re_L2_0_3 p 4 b _ (by omega)
theorem eq2_iff {p:List Int} (ha:∀c∈p,c.natAbs≤1000) (h0:p.getD 0 0≠0) {b:Int} (hb0:b≠0) (hd:b∣p.getD 0 0):(∃a,-2002≤a∧a≤2002∧Eq2 p b a)↔Q2 p b:=by
  have g0:=zeT ha 0
  have g2:=zeT ha 2
  have g3:=zeT ha 3
  have hm:=Int.mul_tdiv_cancel' hd
  have hb:=dvdB hd h0
  have hq:=tdivB (p.getD 0 0) b
  constructor
  · rintro ⟨a,_,_,k1,k2⟩
    have e:p.getD 2 0-b-a*(p.getD 3 0-a)=Int.tdiv (p.getD 0 0) b:=Int.eq_of_mul_eq_mul_left hb0 (by rw [k1,hm])
    rw [e] at k2
    exact ⟨a,by omega,k2⟩
  · rintro ⟨a,k1,k2⟩
    have e:p.getD 2 0-b-a*(p.getD 3 0-a)=Int.tdiv (p.getD 0 0) b:=by omega
    have hr:-2002≤a∧a≤2002:=by
      by_cases hr:-2002≤a∧a≤2002
      · exact hr
      · have m1:(a*(p.getD 3 0-a)).natAbs≤3000:=by omega
        rw [Int.natAbs_mul] at m1
        have m2:2003*1003≤a.natAbs*(p.getD 3 0-a).natAbs:=Nat.mul_le_mul (by omega) (by omega)
        omega
    exact ⟨a,hr.1,hr.2,by rw [Eq2,e];exact ⟨hm,k2⟩⟩
theorem re0 {p:List Int} (h:zdd p) (n:Int):(∃x,pv p x=0)∧ziy (zcD p n (-1001)) (Ex.ret,zj1 p n)∨(¬ ∃x,pv p x=0)∧ziy (zcD p n (-1001)) (Ex.exit 0,zfc p n 1002):=by
  obtain ⟨h2,h5,ha⟩:=h
  have g0:=zeT ha 0
  have pp:∀t:Int,t.natAbs≤1001→pPv p t:=fun t ht=>⟨h2,h5,ha,by omega⟩
  have hr:(∃x,pv p x=0)↔∃x,-1001≤x∧x≤1001∧pv p x=0:=by
    constructor
    · rintro ⟨x,hx⟩
      by_cases e:p.getD 0 0=0
      · exact ⟨0,by omega,by omega,zmG e⟩
      · have:=dvdB (pv_dvd hx) e
        exact ⟨x,by omega,by omega,hx⟩
    · rintro ⟨x,_,_,hx⟩;exact ⟨x,hx⟩
  rw [hr]
  refine zeA (fun t=>ziy (zcD p n t)) (fun x=>pv p x=0) (-1001) 1001 _ (fun t=>(Ex.exit 0,zfc p n t)) ?_ ?_ ?_ 2003 (-1001) (by omega) (by omega)
  · intro t t1 t2 k;exact re_L0_0_0 p n t (by omega) (pp t (by omega)) k
  · intro t t1 t2 k r j;exact re_L0_0_1 p n t (by omega) (pp t (by omega)) k (by omega) j
  · exact re_L0_0_2 p n _ (by omega)
theorem re3 {p:List Int} (h:zdd p) (hl:p.length=5) (h0:p.getD 0 0≠0):(∃b,b≠0∧b∣p.getD 0 0∧Q2 p b)∧zfd (za7 p 4 (-1000)) (Ex.ret,zj3 p 4)∨(¬ ∃b,b≠0∧b∣p.getD 0 0∧Q2 p b)∧zfd (za7 p 4 (-1000)) (Ex.exit 2,zfe p 4 1001):=by
  obtain ⟨h2,h5,ha⟩:=h
  have g0:=zeT ha 0
  have hr:(∃b,b≠0∧b∣p.getD 0 0∧Q2 p b)↔∃b,-1000≤b∧b≤1000∧(b≠0∧b∣p.getD 0 0∧Q2 p b):=
    ⟨fun ⟨b,k⟩=>⟨b,by have:=dvdB k.2.1 h0;omega,by have:=dvdB k.2.1 h0;omega,k⟩,fun ⟨b,_,_,k⟩=>⟨b,k⟩⟩
  rw [hr]
  refine zeA (fun t=>zfd (za7 p 4 t)) (fun b=>b≠0∧b∣p.getD 0 0∧Q2 p b) (-1000) 1000 _ (fun t=>(Ex.exit 2,zfe p 4 t)) ?_ ?_ ?_ 2001 (-1000) (by omega) (by omega)
  · rintro t t1 t2 ⟨k1,k2,k3⟩
    rcases re2 hl ha (b:=t) (by omega) with ⟨ex,j⟩ | ⟨nx,j⟩
    · exact re_L3_0_2 p 4 t (by omega) rfl k1 (by omega) (by omega) k1 (Int.tmod_eq_zero_of_dvd k2) j
    · exact absurd ((eq2_iff ha h0 k1 k2).2 k3) nx
  · intro t t1 t2 hn r k
    by_cases k1:t=0
    · exact re_L3_0_0 p 4 t (by omega) rfl k1 (by omega) k
    by_cases k2:Int.tmod (p.getD 0 0) t=0
    · rcases re2 hl ha (b:=t) (by omega) with ⟨ex,j⟩ | ⟨nx,j⟩
      · exact absurd ⟨k1,Int.dvd_of_tmod_eq_zero k2,(eq2_iff ha h0 k1 (Int.dvd_of_tmod_eq_zero k2)).1 ex⟩ hn
      · exact re_L3_0_3 p 4 t _ (by omega) rfl k1 (by omega) (by omega) k1 k2 j (by omega) k
    · exact re_L3_0_1 p 4 t (by omega) rfl k1 (by omega) (by omega) k1 k2 (by omega) k
  · exact re_L3_0_5 p 4 _ (by omega)
theorem zkq (p:List Int) (h:zdd p):FC Tryz.prog 102 [.sq p] (.lit (.bool (red p))):=by
  have h':=h
  obtain ⟨h2,h5,ha⟩:=h'
  by_cases e2:p.length=2
  · exact ffF (re_0 p (by omega) (by omega)) (ziz fun k=>k.1 e2)
  rcases re0 h ((p.length:Int)-1) with ⟨ex,k⟩ | ⟨nx,k⟩
  · exact ttT (re_1 p (by omega) (by omega) k) (zpl ⟨e2,.inl ex⟩)
  have e0:p.getD 0 0≠0:=fun e=>nx ⟨0,zmG e⟩
  by_cases e5:p.length=5
  · have e4:(p.length:Int)-1=4:=by omega
    have r2:=fun t4=>re_2 p t4 (by omega) (by omega)
    have r3:=fun t4 t5=>re_3 p t4 t5 (by omega) (by omega)
    rw [e4] at k r2 r3
    rcases re3 h e5 e0 with ⟨ex,j⟩ | ⟨ny,j⟩
    · exact ttT (r2 _ k j) (zpl ⟨e2,.inr ⟨e5,ex⟩⟩)
    · exact ffF (r3 _ _ k j) (ziz fun r=>r.2.elim nx fun hx=>ny hx.2)
  · exact ffF (re_3 p _ _ (by omega) (by omega) k (re_L3_0_4 p _ _ (by omega) (by omega))) (ziz fun r=>r.2.elim nx fun hx=>e5 hx.1)
noncomputable def ctrH3:Ctr:=(114,cL zdd (fun p=>.lit (.bool (red p)))) :: (102,cL zdd (fun p=>.lit (.bool (red p)))) :: ctrH
theorem zkH:∀p∈ctrH3,lZ Tryz.prog p.1 p.2:=CAll.cons (zjf zon) (CAll.cons (zjf zkq) zjj)
abbrev kdW:List (TypeId × EK):=[(100,.whole)]
theorem zix:(dZ Tryz.prog ctrH3 bw [] kdW).OK:=OZ zcM mixed zkH zcF
noncomputable section
abbrev zlu (s:St) (r:Ex × St):Prop:=Loops 1 Tryz.prog (pZ Tryz.prog 105 0) s r
abbrev zmF (a:List Int) (b c d e:Int):St:=⟨sp 20 [(3,aN),(7,.sq a),(8,aI b),(9,aI 0)],[.flat [.sq a,aI c,aI d,aI e] true],[]⟩
abbrev zhC (a:List Int) (b c d e:Int) (f:Nat) (g:Int) (i:List Int):St:=⟨sp 20 [(3,.own 1 0 f 2),(7,.sq a),(8,aI b),(9,aI g)],[.flat [.sq a,aI c,aI d,aI e] true,.lst EK.whole i true],[]⟩
abbrev po_L0_E0 (a:List Int) (b c d e:Int):St:=⟨sp 20 [(3,aN),(7,.sq a),(8,aI b),(9,aI 0)],[.flat [.sq a,aI c,aI d,aI e] true],[]⟩
abbrev zjT (a:List Int) (b c d e:Int) (f:Nat) (g:Int) (i:List Int):St:=⟨sp 20 [(3,.own 1 0 f 2),(7,.sq a),(8,aI b),(9,aI g)],[.flat [.sq a,aI c,aI d,aI e] true,.lst EK.whole i true],[]⟩
theorem po_L0_0_0 (a:List Int) (b d f g:Int) (h1:0<b) (h2:0<(a.length:Int)) (h3:0<a.length) (h4:bZ (a.getD 0 0)) (h5:1≤List.length [a.getD 0 0]) (h6:0<(List.take 1 [a.getD 0 0]).length) (h7:(List.take 1 [a.getD 0 0]).length*32≤140737488355328) (h8:(List.take 1 [a.getD 0 0]).length≤4611686018427387904) {r:Ex × St} (k:zlu (zhC a b d f g (1) (1) ([a.getD 0 0])) r):zlu (zmF a b d f g) r:=Loops.go (LS.at zix 60 [2] [3,7,8,9] [] [1] (.t h1<|.t h2<|.t h3<|.c h4<|.c h5<|.t h6<|.t h7<|.t h8<|.e) [1,0,2,3,4,0,5,6,7,8,0]) k
theorem po_L0_0_1 (a:List Int) (b c d g:Int) (h1:¬(0<b)):zlu (zmF a b c d g) (Ex.exit 0,(po_L0_E0 a b c d g)):=Loops.fin (LS.at zix 60 [] [3,7,8,9] [] [0] (.f h1<|.e) [1]) (fun h=>nomatch h)
theorem po_L0_1_0 (a:List Int) (b d f g:Int) (j:Nat) (l:Int) (m:List Int) (h1:l<b) (h2:0≤l) (h3:l<(a.length:Int)) (h4:l.toNat<a.length) (h5:bZ (a.getD l.toNat 0)) (h6:1≤List.length [a.getD l.toNat 0]) (h7:(j+(List.take 1 [a.getD l.toNat 0]).length)*32≤140737488355328) (h8:j+(List.take 1 [a.getD l.toNat 0]).length≤4611686018427387904) (h9:j≤m.length) (h10:r64 (l+1)) {r:Ex × St} (k:zlu (zhC a b d f g (j+(List.take 1 [a.getD l.toNat 0]).length) (l+1) (m.take j++List.take 1 [a.getD l.toNat 0])) r):zlu (zhC a b d f g j l m) r:=Loops.go (LS.at zix 60 [3] [3,7,8,9] [] [1] (.t h1<|.t h2<|.t h3<|.t h4<|.c h5<|.c h6<|.t h7<|.t h8<|.t h9<|.i h10<|.e) [1,2,3,4,5,0,6,7,8,9,10]) k
theorem po_L0_1_1 (a:List Int) (b c d g:Int) (i:Nat) (j:Int) (l:List Int) (h1:¬(j<b)):zlu (zhC a b c d g i j l) (Ex.exit 0,(zjT a b c d g i j l)):=Loops.fin (LS.at zix 60 [1] [3,7,8,9] [] [0] (.f h1<|.e) [1]) (fun h=>nomatch h)
theorem po_1 (p:List Int) (a b c:Int) (d:Nat) (f:Int) (g:List Int) (hL1:zlu (zmF p ((p.length:Int)) a b c) (Ex.exit 0,(zjT p ((p.length:Int)) a b c d f g))) (h2:d≤g.length):FC Tryz.prog 105 [.agg [.sq p,.lit (.int .i64 a),.lit (.int .i64 b),.lit (.int .i64 c)]] (.lst EK.whole (g.take d)):=fZ zix 60 [] (.v [3,7,8,9] [] hL1<|.c h2<|.e) [0,1,2]
abbrev ziq (s:St) (r:Ex × St):Prop:=Loops 0 Tryz.prog (pZ Tryz.prog 192 0) s r
abbrev zhk (a:List Int) (b c:Int):St:=⟨sp 24 [(3,aN),(6,.lst EK.whole a),(7,aI b),(8,aI c)],[],[]⟩
abbrev zhl (a:List Int) (b:Int) (c:Nat) (d:Int) (e:List Int):St:=⟨sp 24 [(3,.own 0 0 c 2),(6,.lst EK.whole a),(7,aI b),(8,aI d)],[.lst EK.whole e true],[]⟩
abbrev zgz (a:List Int) (b:Int) (c:Nat) (d:Int) (e:List Int):St:=⟨sp 24 [(3,.own 0 0 c 2),(6,.lst EK.whole a),(7,aI b),(8,aI d)],[.lst EK.whole e true],[]⟩
theorem dr_L0_0_0 (a:List Int) (b d:Int) (h1:d<b) (h2:0≤d) (h3:d<(a.length:Int)) (h4:d > 0) (h5:bZ d) (h6:decide (a.getD d.toNat (EK.dflt EK.whole)<OfNat.ofNat 0)=decide (a.getD d.toNat (EK.dflt EK.whole)<0)) (h7:pDD (a.getD d.toNat (EK.dflt EK.whole)) d) (h8:1≤List.length [a.getD d.toNat (EK.dflt EK.whole)*d]) (h9:0<(List.take 1 [a.getD d.toNat (EK.dflt EK.whole)*d]).length) (h10:(List.take 1 [a.getD d.toNat (EK.dflt EK.whole)*d]).length*32≤140737488355328) (h11:(List.take 1 [a.getD d.toNat (EK.dflt EK.whole)*d]).length≤4611686018427387904) (h12:r64 (d+1)) {r:Ex × St} (k:ziq (zhl a b (1) (d+1) ([a.getD d.toNat (EK.dflt EK.whole)*d])) r):ziq (zhk a b d) r:=Loops.go (LS.at zix 60 [2] [3,6,7,8] [] [1,1] (.t h1<|.t h2<|.t h3<|.t h4<|.c h5<|.c h6<|.c h7<|.c h8<|.t h9<|.t h10<|.t h11<|.i h12<|.e) [1,2,3,4,5,6,0,7,0,8,9,10,11,12]) k
theorem dr_L0_0_1 (a:List Int) (b c:Int) (h1:c<b) (h2:0≤c) (h3:c<(a.length:Int)) (h4:¬(c > 0)) (h5:r64 (c+1)) {r:Ex × St} (k:ziq (zhk a b (c+1)) r):ziq (zhk a b c) r:=Loops.go (LS.at zix 60 [] [3,6,7,8] [] [1,0] (.t h1<|.t h2<|.t h3<|.f h4<|.i h5<|.e) [1,2,3,4,5]) k
theorem dr_L0_1_0 (a:List Int) (b:Int) (d:Nat) (f:Int) (g:List Int) (h1:f<b) (h2:0≤f) (h3:f<(a.length:Int)) (h4:f > 0) (h5:bZ f) (h6:decide (a.getD f.toNat (EK.dflt EK.whole)<OfNat.ofNat 0)=decide (a.getD f.toNat (EK.dflt EK.whole)<0)) (h7:pDD (a.getD f.toNat (EK.dflt EK.whole)) f) (h8:1≤List.length [a.getD f.toNat (EK.dflt EK.whole)*f]) (h9:(d+(List.take 1 [a.getD f.toNat (EK.dflt EK.whole)*f]).length)*32≤140737488355328) (h10:d+(List.take 1 [a.getD f.toNat (EK.dflt EK.whole)*f]).length≤4611686018427387904) (h11:d≤g.length) (h12:r64 (f+1)) {r:Ex × St} (k:ziq (zhl a b (d+(List.take 1 [a.getD f.toNat (EK.dflt EK.whole)*f]).length) (f+1) (g.take d++List.take 1 [a.getD f.toNat (EK.dflt EK.whole)*f])) r):ziq (zhl a b d f g) r:=Loops.go (LS.at zix 60 [3] [3,6,7,8] [] [1,1] (.t h1<|.t h2<|.t h3<|.t h4<|.c h5<|.c h6<|.c h7<|.c h8<|.t h9<|.t h10<|.t h11<|.i h12<|.e) [1,2,3,4,5,6,0,7,0,8,9,10,11,12]) k
theorem dr_L0_1_2 (a:List Int) (b:Int) (c:Nat) (d:Int) (g:List Int) (h1:¬(d<b)):ziq (zhl a b c d g) (Ex.exit 0,(zgz a b c d g)):=Loops.fin (LS.at zix 60 [0] [3,6,7,8] [] [0] (.f h1<|.e) [1]) (fun h=>nomatch h)
theorem dr_1 (p:List Int) (a:Nat) (b:Int) (d:List Int) (hL1:ziq (zhk p ((p.length:Int)) (0)) (Ex.exit 0,(zgz p ((p.length:Int)) a b d))) (h2:a≤d.length):FC Tryz.prog 192 [.lst .whole p] (.lst EK.whole (d.take a)):=fZ zix 60 [] (.v [3,6,7,8] [] hL1<|.c h2<|.e) [0,1,2]
end
theorem znX {l:List Int} {k:Nat} (h:k<l.length):List.take k (List.take k l)++List.take 1 [l.getD k 0]=l.take (k+1):=by
  rw [List.take_take,Nat.min_self,List.take_succ_eq_append_getElem h]
  simp [List.getD,h]
theorem flB {x:Int} (h:x.natAbs≤1000):bZ x:=by unfold bZ;omega
theorem po_loop {p:List Int} (h:zdd p) (a b c:Int):∀(n k:Nat),k+n=p.length→1≤k→zlu (zhC p p.length a b c k k (p.take k)) (Ex.exit 0,zjT p p.length a b c p.length p.length p)
  | 0,k,hk,_=>by
    obtain rfl:k=p.length:=by omega
    have:=po_L0_1_1 p p.length a b c p.length p.length (p.take p.length) (by omega)
    rw [List.take_length] at this ⊢
    exact this
  | n+1,k,hk,h1=>by
    have hlt:k<p.length:=by omega
    have hl:=h.2.1
    have ih:=po_loop h a b c n (k+1) (by omega) (by omega)
    rw [← znX hlt] at ih
    have hg:=zeT h.2.2 k
    have e:Int.toNat (k:Int)=k:=by omega
    refine po_L0_1_0 p p.length a b c k k (p.take k) (by omega) (by omega) (by omega) (by omega) (flB (by rw [e];exact hg)) (by simp) (by simp;omega) (by simp;omega) (by simp;omega) (by omega) ?_
    rw [e]
    exact ih
theorem zhD (p:List Int) (a b c:Int) (h:zdd p):FC Tryz.prog 105 [.agg [.sq p,.lit (.int .i64 a),.lit (.int .i64 b),.lit (.int .i64 c)]] (.lst .whole p):=by
  have hl:=h.1
  have hg:=zeT h.2.2 0
  have k:=po_loop h a b c (p.length-1) 1 (by omega) (by omega)
  have e1:p.take 1=[p.getD 0 0]:=by
    rw [← znX (k:=0) (by omega)];rfl
  have s:=po_L0_0_0 p p.length a b c (by omega) (by omega) (by omega) (flB hg) (by simp) (by simp) (by simp) (by simp) (by rw [e1] at k;exact k)
  have:=po_1 p a b c p.length p.length p s (by omega)
  rw [List.take_length] at this
  exact this
def der (p:List Int):List Int:=(List.range (p.length-1)).map fun i=>p.getD (i+1) 0*((i+1:Nat):Int)
theorem der_get {p:List Int} {k:Nat} (h:k+1<p.length):(der p).getD k 0=p.getD (k+1) 0*((k+1:Nat):Int):=by
  unfold der
  rw [List.getD_eq_getElem?_getD,List.getElem?_map,List.getElem?_range (by omega)]
  rfl
theorem zeB (p:List Int):(der p).length=p.length-1:=by simp [der]
theorem dr_loop {p:List Int} (h:zdd p):∀(n k:Nat),k+n=p.length→2≤k→ziq (zhl p p.length (k-1) k ((der p).take (k-1))) (Ex.exit 0,zgz p p.length (p.length-1) p.length (der p))
  | 0,k,hk,_=>by
    obtain rfl:k=p.length:=by omega
    have:=dr_L0_1_2 p p.length (p.length-1) p.length ((der p).take (p.length-1)) (by omega)
    rw [← zeB,List.take_length] at this ⊢
    exact this
  | n+1,k,hk,h2=>by
    have hlt:k<p.length:=by omega
    have hl:=h.2.1
    obtain ⟨j,rfl⟩:∃j,k=j+1:=⟨k-1,by omega⟩
    have ih:=dr_loop h n (j+1+1) (by omega) (by omega)
    have hd:j<(der p).length:=by rw [zeB];omega
    rw [show j+1+1-1=j+1 by omega,← znX hd,der_get hlt] at ih
    have hg:=zeT h.2.2 (j+1)
    have e:Int.toNat ((j+1:Nat):Int)=j+1:=by omega
    have s1:Sz 3 (p.getD (j+1) 0):=by unfold Sz;omega
    have s2:Sz 3 ((j+1:Nat):Int):=by unfold Sz;omega
    have hD:pDD (p.getD (j+1) 0) ((j+1:Nat):Int):=⟨vZ s1 (by decide),vZ s2 (by decide)⟩
    rw [show j+1-1=j by omega]
    refine dr_L0_1_0 p p.length j ((j+1:Nat):Int) ((der p).take j) (by omega) (by omega) (by omega) (by omega) (by unfold bZ;omega) rfl (by rw [e];exact hD) (by simp) (by simp;omega) (by simp;omega) (by simp;omega) (by omega) ?_
    rw [e]
    exact ih
theorem zom (p:List Int) (h:zdd p):FC Tryz.prog 192 [.lst .whole p] (.lst .whole (der p)):=by
  have hl:=h.1
  have hg:=zeT h.2.2 1
  have k:=dr_loop h (p.length-2) 2 (by omega) (by omega)
  have s1:Sz 3 (p.getD 1 0):=by unfold Sz;omega
  have hD:pDD (p.getD 1 0) 1:=⟨vZ s1 (by decide),vZ (k:=3) (by unfold Sz;omega) (by decide)⟩
  have e1:(der p).take 1=[p.getD 1 0*1]:=by
    have hd:0<(der p).length:=by rw [zeB];omega
    have:=znX hd
    rw [der_get (by omega)] at this
    rw [← this];rfl
  have s0:ziq (zhk p p.length 1) (Ex.exit 0,zgz p p.length (p.length-1:Nat) p.length (der p)):=
    dr_L0_0_0 p p.length 1 (by omega) (by omega) (by omega) (by omega) (by unfold bZ;omega) rfl hD (by simp) (by simp) (by simp) (by simp) (by omega) (by rw [show(2:Nat)-1=1 by rfl,e1] at k;exact k)
  have s:=dr_L0_0_1 p p.length 0 (by omega) (by omega) (by omega) (by omega) (by omega) s0
  have:=dr_1 p (p.length-1:Nat) p.length (der p) s (by rw [zeB];omega)
  rw [← zeB,List.take_length] at this
  exact this
end Go.Proofs.YtloaeinogiplbaaGreatDoor
end
section
namespace Go.Kf
set_option linter.unusedVariables false
set_option linter.unusedSimpArgs false
def agC (q:List Int) (sq first:Int) (shift i:Nat) (x:Int):Int:=if shift≤i then x*sq + -(first*q.getD (i-shift) 0) else x*sq
def agR (q:List Int) (sq first:Int) (shift:Nat) (r:List Int):Nat→List Int
  | 0=>r
  | i+1=>(agR q sq first shift r i).set i (agC q sq first shift i (r.getD i 0))
theorem zg3 (q:List Int) (sq first:Int) (shift:Nat) (r:List Int):∀i,(agR q sq first shift r i).length=r.length
  | 0=>rfl
  | i+1=>by simp [agR,zg3 q sq first shift r i]
theorem zg2 (q:List Int) (sq first:Int) (shift:Nat) (r:List Int):∀i j,i≤r.length→(agR q sq first shift r i).getD j 0=if j<i then agC q sq first shift j (r.getD j 0) else r.getD j 0
  | 0,j,_=>by simp [agR]
  | i + 1,j,h=>by
    have ih:=zg2 q sq first shift r i j (by omega)
    have hl:=zg3 q sq first shift r i
    unfold agR
    by_cases hj:j=i
    · subst hj
      rw [if_pos (by omega),List.getD_eq_getElem?_getD,List.getElem?_set_self (by omega)];rfl
    · rw [List.getD_eq_getElem?_getD,List.getElem?_set_ne (by omega),← List.getD_eq_getElem?_getD,ih]
      by_cases h1:j<i
      · rw [if_pos h1,if_pos (by omega)]
      · rw [if_neg h1,if_neg (by omega)]
def cutN (r:List Int):Nat→Nat
  | 0=>0
  | m+1=>if r.getD m 0=0 then cutN r m else m+1
theorem zhg (r:List Int):∀n,cutN r n≤n
  | 0=>Nat.le_refl _
  | m+1=>by
    unfold cutN
    split
    · exact Nat.le_succ_of_le (zhg r m)
    · exact Nat.le_refl _
def agN (q:List Int):Nat→Nat→List Int→Nat × List Int
  | 0,n,r=>(n,r)
  | k + 1,n,r=>if q.length≤n then
      let t:=q.getD (q.length-1) 0
      let r':=agR q (t*t) (r.getD (n-1) 0*t) (n-q.length) r n
      agN q k (cutN r' n) r'
    else(n,r)
def ngR (r:List Int):Nat→List Int
  | 0=>r
  | i+1=>(ngR r i).set i (-(r.getD i 0))
theorem zfU (r:List Int):∀i,(ngR r i).length=r.length
  | 0=>rfl
  | i+1=>by simp [ngR,zfU r i]
theorem zjL (r:List Int):∀i j,i≤r.length→(ngR r i).getD j 0=if j<i then -(r.getD j 0) else r.getD j 0
  | 0,j,_=>by simp [ngR]
  | i + 1,j,h=>by
    have ih:=zjL r i j (by omega)
    have hl:=zfU r i
    unfold ngR
    by_cases hj:j=i
    · subst hj
      rw [if_pos (by omega),List.getD_eq_getElem?_getD,List.getElem?_set_self (by omega)];rfl
    · rw [List.getD_eq_getElem?_getD,List.getElem?_set_ne (by omega),← List.getD_eq_getElem?_getD,ih]
      by_cases h1:j<i
      · rw [if_pos h1,if_pos (by omega)]
      · rw [if_neg h1,if_neg (by omega)]
def agst (p q:List Int):List Int:=(ngR (agN q p.length p.length p).2 (agN q p.length p.length p).1).take (agN q p.length p.length p).1
end Go.Kf
end
section
open Go Go.Ev Go.RowKit
namespace Go.Proofs.YtloaeinogiplbaaGreatDoor
open Go.Proofs
set_option maxRecDepth 100000
set_option maxHeartbeats 1000000
set_option linter.unusedVariables false
set_option linter.unusedSimpArgs false
noncomputable section
abbrev ag_L2 (s:St) (r:Ex × St):Prop:=Loops 4 Tryz.prog (pZ Tryz.prog 193 0) s r
abbrev zg4 (a:List Int) (b c:Int) (d:Nat) (e:List Int):St:=⟨sp 93 [(1,.lst EK.whole a),(5,.own 1 0 d 2),(6,.ref 2 0),(7,.ref 3 0)],[.dead,.lst EK.whole e true,.flat [aD b,.wd b] true,.flat [aD c,.wd c] true],[3,2,1,0]⟩
abbrev zjc (a:List Int) (b c:Int) (d:Nat) (e:List Int):St:=⟨sp 93 [(1,.lst EK.whole a),(5,.own 1 0 d 2),(6,.ref 2 0),(7,.ref 3 0)],[.dead,.lst EK.whole e true,.flat [aD b,.wd b] true,.flat [aD c,.wd c] true],[3,2,1,0]⟩
abbrev zjb (s:St) (r:Ex × St):Prop:=Loops 5 Tryz.prog (pZ Tryz.prog 193 1) s r
abbrev zcT (a:List Int) (b:Nat) (c d e f g i:Int) (j:List Int):St:=⟨sp 93 [(1,.lst EK.whole a),(5,.own 1 0 b 2),(6,.ref 2 0),(7,.ref 3 0),(8,.ref 4 0),(9,aI c),(42,aI d),(43,aI i)],[.dead,.lst EK.whole j true,.flat [aD e,.wd e] true,.flat [aD f,.wd f] true,.flat [aD g,.wd g] true],[0,1,2,3]⟩
abbrev zeJ (a:List Int) (b:Nat) (c d e f g i:Int) (j:List Int):St:=⟨sp 93 [(1,.lst EK.whole a),(5,.own 1 0 b 2),(6,.ref 2 0),(7,.ref 3 0),(8,.ref 4 0),(9,aI c),(42,aI d),(43,aI i)],[.dead,.lst EK.whole j true,.flat [aD e,.wd e] true,.flat [aD f,.wd f] true,.flat [aD g,.wd g] true],[0,1,2,3]⟩
theorem ag_L0_0_0 (a:List Int) (b:Nat) (d f g j l m:Int) (n:List Int) (h1:m<f) (h2:0≤m) (h3:m<(b:Int)) (h4:m.toNat<n.length) (h5:decide (n.getD m.toNat (EK.dflt EK.whole)<OfNat.ofNat 0)=decide (n.getD m.toNat (EK.dflt EK.whole)<0)) (h6:pDD (n.getD m.toNat (EK.dflt EK.whole)) j) (h7:m≥d) (h8:r64 (m-d)) (h9:0≤m-d) (h10:m-d<(a.length:Int)) (h11:m.toNat<(n.set m.toNat (n.getD m.toNat (EK.dflt EK.whole)*j)).length) (h12:decide (a.getD (m-d).toNat (EK.dflt EK.whole)<OfNat.ofNat 0)=decide (a.getD (m-d).toNat (EK.dflt EK.whole)<0)) (h13:pDD l (a.getD (m-d).toNat (EK.dflt EK.whole))) (h14:decide ((n.set m.toNat (n.getD m.toNat (EK.dflt EK.whole)*j)).getD m.toNat (EK.dflt EK.whole)<OfNat.ofNat 0)=decide ((n.set m.toNat (n.getD m.toNat (EK.dflt EK.whole)*j)).getD m.toNat (EK.dflt EK.whole)<0)) (h15:pDD ((n.set m.toNat (n.getD m.toNat (EK.dflt EK.whole)*j)).getD m.toNat (EK.dflt EK.whole)) (-(l*a.getD (m-d).toNat (EK.dflt EK.whole)))) (h16:r64 (m+1)) {r:Ex × St} (k:zjb (zcT a b d f g j l (m+1) ((n.set m.toNat (n.getD m.toNat (EK.dflt EK.whole)*j)).set m.toNat ((n.set m.toNat (n.getD m.toNat (EK.dflt EK.whole)*j)).getD m.toNat (EK.dflt EK.whole) + -(l*a.getD (m-d).toNat (EK.dflt EK.whole))))) r):zjb (zcT a b d f g j l m n) r:=Loops.go (LS.at zix 60 [] [1,5,6,7,8,9,42,43] [0,1,2,3] [1,1] (.t h1<|.t h2<|.t h3<|.t h4<|.c h5<|.c h6<|.t h7<|.i h8<|.t h9<|.t h10<|.t h11<|.c h12<|.c h13<|.c h14<|.c h15<|.i h16<|.e) [1,2,3,4,5,0,6,2,3,4,0,7,2,3,8,9,10,11,0,12,13,0,0,14,0,15,2,3,11,0,0,12,13,11,0,0,14,0,15,2,3,11,0,0,0,11,14,0,15,2,3,11,0,0,0,16]) k
theorem ag_L0_0_1 (a:List Int) (b:Nat) (d g j l m n:Int) (o:List Int) (h1:n<g) (h2:0≤n) (h3:n<(b:Int)) (h4:n.toNat<o.length) (h5:decide (o.getD n.toNat (EK.dflt EK.whole)<OfNat.ofNat 0)=decide (o.getD n.toNat (EK.dflt EK.whole)<0)) (h6:pDD (o.getD n.toNat (EK.dflt EK.whole)) l) (h7:¬(n≥d)) (h8:r64 (n+1)) {r:Ex × St} (k:zjb (zcT a b d g j l m (n+1) (o.set n.toNat (o.getD n.toNat (EK.dflt EK.whole)*l))) r):zjb (zcT a b d g j l m n o) r:=Loops.go (LS.at zix 60 [] [1,5,6,7,8,9,42,43] [0,1,2,3] [1,0] (.t h1<|.t h2<|.t h3<|.t h4<|.c h5<|.c h6<|.f h7<|.i h8<|.e) [1,2,3,4,5,0,6,2,3,4,0,7,8]) k
theorem ag_L0_0_2 (a:List Int) (b:Nat) (c d g i j l:Int) (m:List Int) (h1:¬(l<d)):zjb (zcT a b c d g i j l m) (Ex.exit 2,(zeJ a b c d g i j l m)):=Loops.fin (LS.at zix 60 [] [1,5,6,7,8,9,42,43] [0,1,2,3] [0] (.f h1<|.e) [1]) (fun h=>nomatch h)
abbrev zn6 (s:St) (r:Ex × St):Prop:=Loops 5 Tryz.prog (pZ Tryz.prog 219 0) s r
abbrev zfJ (a:List Int) (b c d:Int) (e:Nat):St:=⟨sp 22 [(0,.own 1 0 e 2)],[.dead,.lst EK.whole a true,.flat [aD b,.wd b] true,.flat [aD c,.wd c] true,.flat [aD d,.wd d] true],[0,1,2,3]⟩
abbrev zeK (a:List Int) (b c d:Int) (e:Nat):St:=⟨sp 22 [(0,.own 1 0 e 2)],[.dead,.lst EK.whole a true,.flat [aD b,.wd b] true,.flat [aD c,.wd c] true,.flat [aD d,.wd d] true],[0,1,2,3]⟩
theorem ag_L1_0_0 (a:List Int) (b d f:Int) (g:Nat) (h1:(g:Int) > 0) (h2:r64 ((g:Int)-1)) (h3:0≤(g:Int)-1) (h4:(g:Int)-1<(g:Int)) (h5:((g:Int)-1).toNat<a.length) (h6:decide (a.getD ((g:Int)-1).toNat (EK.dflt EK.whole)<OfNat.ofNat 0)=decide (a.getD ((g:Int)-1).toNat (EK.dflt EK.whole)<0)) (h7:(a.getD ((g:Int)-1).toNat (EK.dflt EK.whole)).sign=0) (h8:(g:Int)-1≤(g:Int)) {r:Ex × St} (k:zn6 (zfJ a b d f ((g:Int)-1).toNat) r):zn6 (zfJ a b d f g) r:=Loops.go (LS.at zix 60 [] [0] [0,1,2,3] [1,1] (.t h1<|.i h2<|.t h3<|.t h4<|.t h5<|.c h6<|.c (beq_iff_eq.2 h7)<|.t h8<|.e) [1,2,3,4,5,6,0,7,2,3,8]) k
theorem ag_L1_0_1 (a:List Int) (b d f:Int) (g:Nat) (h1:(g:Int) > 0) (h2:r64 ((g:Int)-1)) (h3:0≤(g:Int)-1) (h4:(g:Int)-1<(g:Int)) (h5:((g:Int)-1).toNat<a.length) (h6:decide (a.getD ((g:Int)-1).toNat (EK.dflt EK.whole)<OfNat.ofNat 0)=decide (a.getD ((g:Int)-1).toNat (EK.dflt EK.whole)<0)) (h7:(a.getD ((g:Int)-1).toNat (EK.dflt EK.whole)).sign≠0):zn6 (zfJ a b d f g) (Ex.exit 0,(zeK a b d f g)):=Loops.fin (LS.at zix 60 [] [0] [0,1,2,3] [1,0] (.t h1<|.i h2<|.t h3<|.t h4<|.t h5<|.c h6<|.c (beq_false_of_ne h7)<|.e) [1,2,3,4,5,6,0,7]) (fun h=>nomatch h)
theorem ag_L1_0_2 (a:List Int) (b c d:Int) (g:Nat) (h1:¬((g:Int) > 0)):zn6 (zfJ a b c d g) (Ex.exit 0,(zeK a b c d g)):=Loops.fin (LS.at zix 60 [] [0] [0,1,2,3] [0] (.f h1<|.e) [1]) (fun h=>nomatch h)
theorem ag_L2_0_0 (a:List Int) (b d:Int) (f:Nat) (g:List Int) (j:Int) (l:List Int) (m:Nat) (h1:(f:Int)≥(a.length:Int)) (h2:r64 ((f:Int)-1)) (h3:0≤(f:Int)-1) (h4:(f:Int)-1<(f:Int)) (h5:((f:Int)-1).toNat<g.length) (h6:decide (g.getD ((f:Int)-1).toNat (EK.dflt EK.whole)<OfNat.ofNat 0)=decide (g.getD ((f:Int)-1).toNat (EK.dflt EK.whole)<0)) (h7:pDD (g.getD ((f:Int)-1).toNat (EK.dflt EK.whole)) b) (h8:r64 ((f:Int)-(a.length:Int))) (hL1:zjb (zcT a f ((f:Int)-(a.length:Int)) ((f:Int)) b d (g.getD ((f:Int)-1).toNat (EK.dflt EK.whole)*b) (0) g) (Ex.exit 2,(zeJ a f ((f:Int)-(a.length:Int)) ((f:Int)) b d (g.getD ((f:Int)-1).toNat (EK.dflt EK.whole)*b) j l))) (hL2:zn6 (zfJ l b d (g.getD ((f:Int)-1).toNat (EK.dflt EK.whole)*b) f) (Ex.exit 0,(zeK l b d (g.getD ((f:Int)-1).toNat (EK.dflt EK.whole)*b) m))) {r:Ex × St} (k:ag_L2 (zg4 a b d m l) r):ag_L2 (zg4 a b d f g) r:=Loops.go (LS.at zix 60 [] [1,5,6,7] [3,2,1,0] [1] (.t h1<|.i h2<|.t h3<|.t h4<|.t h5<|.c h6<|.c h7<|.i h8<|.v [1,5,6,7,8,9,42,43] [0,1,2,3] hL1<|.v [0] [0,1,2,3] hL2<|.e) [1,2,3,4,5,6,0,7,6,0,7,0,8,0,9,0,10]) k
theorem ag_L2_0_1 (a:List Int) (b c:Int) (d:Nat) (g:List Int) (h1:¬((d:Int)≥(a.length:Int))):ag_L2 (zg4 a b c d g) (Ex.exit 0,(zjc a b c d g)):=Loops.fin (LS.at zix 60 [] [1,5,6,7] [3,2,1,0] [0] (.f h1<|.e) [1]) (fun h=>nomatch h)
abbrev zn7 (s:St) (r:Ex × St):Prop:=Loops 4 Tryz.prog (pZ Tryz.prog 193 2) s r
abbrev zfK (a:Nat) (b c d e:Int) (f:List Int):St:=⟨sp 93 [(5,.own 1 0 a 2),(79,aI b),(80,aI e)],[.dead,.lst EK.whole f true,.flat [aD c,.wd c] true,.flat [aD d,.wd d] true],[3,2,1,0]⟩
abbrev zgv (a:Nat) (b c d e:Int) (f:List Int):St:=⟨sp 93 [(5,.own 1 0 a 2),(79,aI b),(80,aI e)],[.dead,.lst EK.whole f true,.flat [aD c,.wd c] true,.flat [aD d,.wd d] true],[3,2,1,0]⟩
theorem ag_L3_0_0 (a:Nat) (b d f g:Int) (j:List Int) (h1:g<b) (h2:0≤g) (h3:g<(a:Int)) (h4:g.toNat<j.length) (h5:decide (j.getD g.toNat (EK.dflt EK.whole)<OfNat.ofNat 0)=decide (j.getD g.toNat (EK.dflt EK.whole)<0)) (h6:r64 (g+1)) {r:Ex × St} (k:zn7 (zfK a b d f (g+1) (j.set g.toNat (-j.getD g.toNat (EK.dflt EK.whole)))) r):zn7 (zfK a b d f g j) r:=Loops.go (LS.at zix 60 [] [5,79,80] [3,2,1,0] [1] (.t h1<|.t h2<|.t h3<|.t h4<|.c h5<|.i h6<|.e) [1,2,3,4,5,0,2,3,4,0,6]) k
theorem ag_L3_0_1 (a:Nat) (b c d g:Int) (i:List Int) (h1:¬(g<b)):zn7 (zfK a b c d g i) (Ex.exit 4,(zgv a b c d g i)):=Loops.fin (LS.at zix 60 [] [5,79,80] [3,2,1,0] [0] (.f h1<|.e) [1]) (fun h=>nomatch h)
theorem ag_0 (p q:List Int) (a:Nat) (b:List Int) (d:Int) (f:List Int) (h1:p≠[]) (h2:(0+p.length)*32≤140737488355328) (h3:0+p.length≤4611686018427387904) (h4:r64 ((q.length:Int)-1)) (h5:0≤(q.length:Int)-1) (h6:(q.length:Int)-1<(q.length:Int)) (h7:decide (q.getD ((q.length:Int)-1).toNat (EK.dflt EK.whole)<OfNat.ofNat 0)=decide (q.getD ((q.length:Int)-1).toNat (EK.dflt EK.whole)<0)) (h8:pDD (q.getD ((q.length:Int)-1).toNat (EK.dflt EK.whole)) (q.getD ((q.length:Int)-1).toNat (EK.dflt EK.whole))) (hL1:ag_L2 (zg4 q (q.getD ((q.length:Int)-1).toNat (EK.dflt EK.whole)) (q.getD ((q.length:Int)-1).toNat (EK.dflt EK.whole)*q.getD ((q.length:Int)-1).toNat (EK.dflt EK.whole)) (0+p.length) (List.take 0 []++p)) (Ex.exit 0,(zjc q (q.getD ((q.length:Int)-1).toNat (EK.dflt EK.whole)) (q.getD ((q.length:Int)-1).toNat (EK.dflt EK.whole)*q.getD ((q.length:Int)-1).toNat (EK.dflt EK.whole)) a b))) (hL2:zn7 (zfK a ((a:Int)) (q.getD ((q.length:Int)-1).toNat (EK.dflt EK.whole)) (q.getD ((q.length:Int)-1).toNat (EK.dflt EK.whole)*q.getD ((q.length:Int)-1).toNat (EK.dflt EK.whole)) (0) b) (Ex.exit 4,(zgv a ((a:Int)) (q.getD ((q.length:Int)-1).toNat (EK.dflt EK.whole)) (q.getD ((q.length:Int)-1).toNat (EK.dflt EK.whole)*q.getD ((q.length:Int)-1).toNat (EK.dflt EK.whole)) d f))) (h11:a≤f.length):FC Tryz.prog 193 [.lst .whole p,.lst .whole q] (.lst EK.whole (f.take a)):=fZ zix 60 [] (.c (congrArg Bool.not (zbo h1))<|.t h2<|.t h3<|.i h4<|.t h5<|.t h6<|.c h7<|.c h8<|.v [1,5,6,7] [3,2,1,0] hL1<|.v [5,79,80] [3,2,1,0] hL2<|.c h11<|.e) [1,2,3,0,4,5,6,7,7,8,0,9,0,10,11]
end
open Go.Kf
theorem getD_agR {q r:List Int} {sq first:Int} {shift i:Nat} (h:i≤r.length):(agR q sq first shift r i).getD i 0=r.getD i 0:=by
  rw [zg2 _ _ _ _ _ _ _ h,if_neg (Nat.lt_irrefl i)]
theorem getDsetS {l:List Int} {i:Nat} {v:Int} (h:i<l.length):(l.set i v).getD i 0=v:=by
  rw [List.getD_eq_getElem?_getD,List.getElem?_set_self h];rfl
theorem ag_l0 {q r:List Int} {n shift:Nat} {top sq first t9:Int} {k:Nat} (hn:n≤r.length) (hm:n≤100000) (h9:t9=(shift:Int)) (hs:shift+q.length=n) (hk:k≤400000) (hr:∀j,Sz k (r.getD j 0)) (hsq:Sz k sq) (hf:Sz k first) (hq:∀j,Sz k (q.getD j 0)) :
    ∀(m i:Nat),i+m=n→zjb (zcT q n t9 n top sq first i (agR q sq first shift r i)) (Ex.exit 2,zeJ q n t9 n top sq first n (agR q sq first shift r n))
  | 0,i,hi=>by
    obtain rfl:i=n:=by omega
    exact ag_L0_0_2 q i t9 i top sq first i _ (by omega)
  | m + 1, i,hi=>by
    have hlen:=zg3 q sq first shift r i
    have hg:=getD_agR (q:=q) (sq:=sq) (first:=first) (shift:=shift) (r:=r) (i:=i) (by omega)
    have ih:=ag_l0 (top:=top) hn hm h9 hs hk hr hsq hf hq m (i+1) (by omega)
    have fz:∀ {z:Int} {j:Nat},Sz j z→j≤1048576→zaK z:=fun h h2=>vZ h h2
    have e1:Int.toNat (i:Int)=i:=rfl
    by_cases hsh:shift≤i
    · have e2:Int.toNat ((i:Int)-t9)=i-shift:=by omega
      have hset:((agR q sq first shift r i).set i (r.getD i 0*sq)).getD i 0=r.getD i 0*sq:=getDsetS (by omega)
      have key:agR q sq first shift r (i+1)=((agR q sq first shift r i).set i (r.getD i 0*sq)).set i (r.getD i 0*sq + -(first*q.getD (i-shift) 0)):=by
        rw [List.set_set]
        show(agR q sq first shift r i).set i (agC q sq first shift i (r.getD i 0))=_
        unfold agC;rw [if_pos hsh]
      rw [key] at ih
      have go:=@ag_L0_0_0 q n t9 n top sq first i (agR q sq first shift r i) (by omega) (by omega) (by omega) (by rw [e1,hlen];omega) rfl (by rw [e1];show pDD ((agR q sq first shift r i).getD i 0) sq;rw [hg];exact ⟨fz (hr i) (by omega),fz hsq (by omega)⟩) (by omega) (by omega) (by omega) (by omega)
        (by rw [List.length_set,e1,hlen];omega) rfl (by rw [e2];exact ⟨fz hf (by omega),fz (hq _) (by omega)⟩) rfl
        (by
          rw [e1,e2]
          show pDD (((agR q sq first shift r i).set i ((agR q sq first shift r i).getD i 0*sq)).getD i 0) (-(first*q.getD (i-shift) 0))
          rw [hg,hset]
          exact ⟨fz ((hr i).mul hsq) (by omega),fz ((hf.mul (hq _)).neg) (by omega)⟩) (by omega) (Ex.exit 2,zeJ q n t9 n top sq first n (agR q sq first shift r n))
      rw [e1,e2] at go
      refine go ?_
      show zjb (zcT q n t9 n top sq first ((i:Int)+1) (((agR q sq first shift r i).set i ((agR q sq first shift r i).getD i 0*sq)).set i (((agR q sq first shift r i).set i ((agR q sq first shift r i).getD i 0*sq)).getD i 0 + -(first*q.getD (i-shift) 0)))) _
      rw [hg,hset]
      exact ih
    · have key:agR q sq first shift r (i+1)=(agR q sq first shift r i).set i (r.getD i 0*sq):=by
        show(agR q sq first shift r i).set i (agC q sq first shift i (r.getD i 0))=_
        unfold agC;rw [if_neg hsh]
      rw [key] at ih
      have go:=@ag_L0_0_1 q n t9 n top sq first i (agR q sq first shift r i) (by omega) (by omega) (by omega) (by rw [e1,hlen];omega) rfl (by rw [e1];show pDD ((agR q sq first shift r i).getD i 0) sq;rw [hg];exact ⟨fz (hr i) (by omega),fz hsq (by omega)⟩) (by omega) (by omega) (Ex.exit 2,zeJ q n t9 n top sq first n (agR q sq first shift r n))
      rw [e1] at go
      refine go ?_
      show zjb (zcT q n t9 n top sq first ((i:Int)+1) ((agR q sq first shift r i).set i ((agR q sq first shift r i).getD i 0*sq))) _
      rw [hg]
      exact ih
theorem ag_l1 {r:List Int} {a b c:Int}:∀(n:Nat),n≤r.length→n≤100000→zn6 (zfJ r a b c n) (Ex.exit 0,zeK r a b c (cutN r n))
  | 0,_,_=>ag_L1_0_2 r a b c 0 (by omega)
  | n + 1,h,hm=>by
    have e1:Int.toNat (((n+1:Nat):Int)-1)=n:=by omega
    unfold cutN
    by_cases hz:r.getD n 0=0
    · rw [if_pos hz]
      have ih:=ag_l1 (r:=r) (a:=a) (b:=b) (c:=c) n (by omega) (by omega)
      have go:=@ag_L1_0_0 r a b c (n+1) (by omega) (by omega) (by omega) (by omega) (by omega) rfl (by rw [e1];show Int.sign (r.getD n 0)=0;rw [hz];rfl) (by omega) (Ex.exit 0,zeK r a b c (cutN r n))
      rw [e1] at go
      exact go ih
    · rw [if_neg hz]
      exact ag_L1_0_1 r a b c (n+1) (by omega) (by omega) (by omega) (by omega) (by omega) rfl (by rw [e1];show Int.sign (r.getD n 0)≠0;exact fun h0=>hz (Int.sign_eq_zero_iff_zero.1 h0))
theorem ag_l3 {r:List Int} {n:Nat} {a b:Int} (hn:n≤r.length) (hm:n≤100000):∀(m i:Nat),i+m=n→zn7 (zfK n n a b i (ngR r i)) (Ex.exit 4,zgv n n a b n (ngR r n))
  | 0,i,hi=>by
    obtain rfl:i=n:=by omega
    exact ag_L3_0_1 i i a b i _ (by omega)
  | m+1,i,hi=>by
    have hlen:=zfU r i
    have hg:(ngR r i).getD i 0=r.getD i 0:=by rw [zjL _ _ _ (by omega),if_neg (Nat.lt_irrefl i)]
    have ih:=ag_l3 (a:=a) (b:=b) hn hm m (i+1) (by omega)
    have e1:Int.toNat (i:Int)=i:=rfl
    have go:=@ag_L3_0_0 n n a b i (ngR r i) (by omega) (by omega) (by omega) (by rw [e1,hlen];omega) rfl (by omega) (Ex.exit 4,zgv n n a b n (ngR r n))
    rw [e1] at go
    refine go ?_
    show zn7 (zfK n n a b ((i:Int)+1) ((ngR r i).set i (-((ngR r i).getD i 0)))) _
    rw [hg]
    exact ih
theorem agC_sz {q:List Int} {sq first x:Int} {shift i a b c d m:Nat} (hx:Sz a x) (hs:Sz b sq) (hf:Sz c first) (hq:∀j,Sz d (q.getD j 0)) (h1:a+b<m) (h2:c+d<m):Sz m (agC q sq first shift i x):=by
  unfold agC
  split
  · exact Sz.add (hx.mul hs) ((hf.mul (hq _)).neg) h1 h2
  · exact(hx.mul hs).mono (by omega)
theorem agR_sz {q r:List Int} {sq first:Int} {shift n a b c d m:Nat} (hn:n≤r.length) (hr:∀j,Sz a (r.getD j 0)) (hs:Sz b sq) (hf:Sz c first) (hq:∀j,Sz d (q.getD j 0)) (h1:a+b<m) (h2:c+d<m) (j:Nat):Sz m ((agR q sq first shift r n).getD j 0):=by
  rw [zg2 _ _ _ _ _ _ _ hn]
  split
  · exact agC_sz (hr j) hs hf hq h1 h2
  · exact(hr j).mono (by omega)
theorem znb {r:List Int} {n:Nat} (h:r.getD n 0=0):cutN r (n+1)≤n:=by
  unfold cutN;rw [if_pos h];exact zhg r n
theorem ag_l2 {q:List Int} {d:Nat} (hq0:1≤q.length) (hq:∀j,Sz d (q.getD j 0)):∀(k n:Nat) (r:List Int) (a:Nat),n≤k→n≤r.length→n≤1000→(∀j,Sz a (r.getD j 0))→a+k*(2*d+1)≤300000→d≤50000 →
    ag_L2 (zg4 q (q.getD (q.length-1) 0) (q.getD (q.length-1) 0*q.getD (q.length-1) 0) n r) (Ex.exit 0,zjc q (q.getD (q.length-1) 0) (q.getD (q.length-1) 0*q.getD (q.length-1) 0) (agN q k n r).1 (agN q k n r).2) ∧
      (agN q k n r).1≤(agN q k n r).2.length∧(agN q k n r).1≤n∧(agN q k n r).2.length=r.length∧(q.length≤n→(agN q k n r).1<q.length)∧(∀j,Sz (a+k*(2*d+1)) ((agN q k n r).2.getD j 0))
  | k, n,r,a,hk,hn,hm,hr,hs,hd=>by
    by_cases hc:q.length≤n
    · obtain ⟨k,rfl⟩:∃j,k=j+1:=⟨k-1,by omega⟩
      obtain ⟨m,rfl⟩:∃j,n=j+1:=⟨n-1,by omega⟩
      have hmul:(k+1)*(2*d+1)=k*(2*d+1)+(2*d+1):=Nat.succ_mul _ _
      have ht:=hq (q.length-1)
      generalize htt:q.getD (q.length-1) 0=t at ht
      have hsq:Sz (d+d) (t*t):=ht.mul ht
      have hf:Sz (a+d) (r.getD m 0*t):=(hr m).mul ht
      have hR:∀j,Sz (a+(2*d+1)) ((agR q (t*t) (r.getD m 0*t) (m+1-q.length) r (m+1)).getD j 0):=agR_sz hn hr hsq hf hq (by omega) (by omega)
      have hl:=zg3 q (t*t) (r.getD m 0*t) (m+1-q.length) r (m+1)
      have htop:(agR q (t*t) (r.getD m 0*t) (m+1-q.length) r (m+1)).getD m 0=0:=by
        rw [zg2 _ _ _ _ _ _ _ hn,if_pos (by omega)]
        unfold agC
        rw [if_pos (by omega),show m-(m+1-q.length)=q.length-1 by omega,htt]
        grind
      have hcut:=znb htop
      have hcut2:=zhg (agR q (t*t) (r.getD m 0*t) (m+1-q.length) r (m+1)) (m+1)
      have e:agN q (k+1) (m+1) r=agN q k (cutN (agR q (t*t) (r.getD m 0*t) (m+1-q.length) r (m+1)) (m+1)) (agR q (t*t) (r.getD m 0*t) (m+1-q.length) r (m+1)):=by
        conv=>lhs;unfold agN
        rw [if_pos hc]
        simp only [htt,Nat.add_sub_cancel]
      obtain ⟨i1,i2,i3,i4,i5,i6⟩:=ag_l2 hq0 hq k (cutN (agR q (t*t) (r.getD m 0*t) (m+1-q.length) r (m+1)) (m+1)) (agR q (t*t) (r.getD m 0*t) (m+1-q.length) r (m+1)) (a+(2*d+1)) (by omega) (by omega) (by omega) hR (by omega) hd
      rw [htt] at i1
      rw [e]
      have e1:Int.toNat (((m+1:Nat):Int)-1)=m:=by omega
      have fz:∀ {z:Int} {j:Nat},Sz j z→j≤1048576→zaK z:=fun h h2=>vZ h h2
      have L0:=ag_l0 (q:=q) (r:=r) (n:=m+1) (shift:=m+1-q.length) (top:=t) (sq:=t*t) (first:=r.getD m 0*t) (t9:=((m+1:Nat):Int)-(q.length:Int)) (k:=a+d+d+d) hn (by omega) (by omega) (by omega) (by omega)
        (fun j=>(hr j).mono (by omega)) (hsq.mono (by omega)) (hf.mono (by omega)) (fun j=>(hq j).mono (by omega)) (m+1) 0 (by omega)
      have L1:=ag_l1 (r:=agR q (t*t) (r.getD m 0*t) (m+1-q.length) r (m+1)) (a:=t) (b:=t*t) (c:=r.getD m 0*t) (m+1) (by omega) (by omega)
      have go:=@ag_L2_0_0 q t (t*t) (m+1) r ((m+1:Nat):Int) (agR q (t*t) (r.getD m 0*t) (m+1-q.length) r (m+1)) (cutN (agR q (t*t) (r.getD m 0*t) (m+1-q.length) r (m+1)) (m+1)) (by omega) (by omega) (by omega) (by omega) (by omega) rfl
        (by rw [e1];exact ⟨fz (hr m) (by omega),fz ht (by omega)⟩) (by omega) (by rw [e1];exact L0) (by rw [e1];exact L1)
      refine ⟨?_,i2,by omega,by omega,fun _=>?_,fun j=>?_⟩
      · exact go i1
      · by_cases h2:q.length≤cutN (agR q (t*t) (r.getD m 0*t) (m+1-q.length) r (m+1)) (m+1)
        · exact i5 h2
        · omega
      · rw [hmul,← Nat.add_assoc,Nat.add_right_comm];exact i6 j
    · have e:agN q k n r=(n,r):=by
        cases k with
        | zero=>rfl
        | succ k=>unfold agN;rw [if_neg hc]
      rw [e]
      exact ⟨ag_L2_0_1 q _ _ n r (by omega),hn,Nat.le_refl _,rfl,fun h=>absurd h hc,fun j=>(hr j).mono (Nat.le_add_right _ _)⟩
def pAg (p q:List Int):Prop:=(∃a d:Nat,(∀j,Sz a (p.getD j 0))∧(∀j,Sz d (q.getD j 0))∧a+p.length*(2*d+1)≤300000∧d≤50000)∧p≠[]∧p.length≤1000∧1≤q.length∧q.length≤1000
instance tAg {p q:List Int}:Tst (pAg p q):=⟨false,fun h=>by cases h⟩
theorem zn8 (p q:List Int) (h:pAg p q):FC Tryz.prog 193 [.lst .whole p,.lst .whole q] (.lst .whole (agst p q)):=by
  obtain ⟨⟨a,d,hp,hq,h1,h2⟩,hne,hpl,hq0,hql⟩:=h
  obtain ⟨i1,i2,i3,i4,i5,i6⟩:=ag_l2 hq0 hq p.length p.length p a (Nat.le_refl _) (Nat.le_refl _) hpl hp h1 h2
  have L3:=ag_l3 (r:=(agN q p.length p.length p).2) (n:=(agN q p.length p.length p).1) (a:=q.getD (q.length-1) 0) (b:=q.getD (q.length-1) 0*q.getD (q.length-1) 0) i2 (by omega) (agN q p.length p.length p).1 0 (by omega)
  have e1:Int.toNat ((q.length:Int)-1)=q.length-1:=by omega
  have ht:=hq (q.length-1)
  have hf:zaK (q.getD (q.length-1) 0):=vZ ht (by omega)
  have:=ag_0 p q (agN q p.length p.length p).1 (agN q p.length p.length p).2 ((agN q p.length p.length p).1:Int) (ngR (agN q p.length p.length p).2 (agN q p.length p.length p).1) hne (by omega) (by omega) (by omega) (by omega) (by omega) rfl
    (by rw [e1];exact ⟨hf,hf⟩) (by rw [e1,Nat.zero_add];exact i1) (by rw [e1];exact L3) (by rw [zfU];exact i2)
  exact this
abbrev kdR:List (TypeId × EK):=[(100,.whole),(22,.sl (.int .i64))]
noncomputable def ctrH4:Ctr:=(193,cD2 (.sl .whole) (.sl .whole) pAg (fun p q=>.lst .whole (Go.Kf.agst p q))) :: ctrH3
theorem zkI:∀p∈ctrH4,lZ Tryz.prog p.1 p.2:=CAll.cons (zg7 zn8) zkH
theorem okKR:(dZ Tryz.prog ctrH4 bw [] kdR).OK:=OZ zcM mixed zkI zcF
noncomputable section
abbrev ziZ (s:St) (r:Ex × St):Prop:=Loops 0 Tryz.prog (pZ Tryz.prog 188 0) s r
abbrev zec (a:List (List Int)) (b:Int):St:=⟨sp 22 [(0,.lst (EK.sl (.int .i64)) a),(3,aI b)],[],[]⟩
abbrev zd0 (a:List (List Int)) (b:Int):St:=⟨sp 22 [(0,.lst (EK.sl (.int .i64)) a),(3,aI b)],[],[]⟩
theorem zp6 (a:List (List Int)) (b:Int) (h1:b > 0) (h2:r64 (b-1)) (h3:0≤b-1) (h4:b-1<(a.length:Int)) (h5:pX (a.getD (b-1).toNat (EK.dflt (EK.sl (.int .i64))))) (h6:(vl (a.getD (b-1).toNat (EK.dflt (EK.sl (.int .i64))))).sign=0) {r:Ex × St} (k:ziZ (zec a (b-1)) r):ziZ (zec a b) r:=Loops.go (LS.at okKR 60 [] [0,3] [] [1,1] (.t h1<|.i h2<|.t h3<|.t h4<|.c h5<|.c (beq_iff_eq.2 h6)<|.e) [1,2,3,4,5,6,2]) k
theorem zp7 (a:List (List Int)) (b:Int) (h1:b > 0) (h2:r64 (b-1)) (h3:0≤b-1) (h4:b-1<(a.length:Int)) (h5:pX (a.getD (b-1).toNat (EK.dflt (EK.sl (.int .i64))))) (h6:(vl (a.getD (b-1).toNat (EK.dflt (EK.sl (.int .i64))))).sign≠0):ziZ (zec a b) (Ex.exit 0,(zd0 a b)):=Loops.fin (LS.at okKR 60 [] [0,3] [] [1,0] (.t h1<|.i h2<|.t h3<|.t h4<|.c h5<|.c (beq_false_of_ne h6)<|.e) [1,2,3,4,5,6]) (fun h=>nomatch h)
theorem zp8 (a:List (List Int)) (b:Int) (h1:¬(b > 0)):ziZ (zec a b) (Ex.exit 0,(zd0 a b)):=Loops.fin (LS.at okKR 60 [] [0,3] [] [0] (.f h1<|.e) [1]) (fun h=>nomatch h)
theorem rsh_0 (p:List (List Int)) (a:Int) (hL1:ziZ (zec p ((p.length:Int))) (Ex.exit 0,(zd0 p a))) (h2:0≤a) (h3:a≤(p.length:Int)):FC Tryz.prog 188 [.lst (.sl (.int .i64)) p] (.lst (EK.sl (.int .i64)) ((p.take a.toNat).drop 0)):=fZ okKR 60 [] (.v [0,3] [] hL1<|.t h2<|.t h3<|.e) [0,1,0,2,3]
end
open Go.Kf
def vls (p:List (List Int)):List Int:=p.map vl
theorem zaY (p:List (List Int)) (i:Nat):vl (p.getD i [])=(vls p).getD i 0:=by
  simp only [vls,List.getD_eq_getElem?_getD,List.getElem?_map]
  cases p[i]? <;> rfl
def pSh (p:List (List Int)):Prop:=p.length≤1000∧∀l∈p,pX l
instance tSh {p:List (List Int)}:Tst (pSh p):=⟨false,fun h=>by cases h⟩
theorem pSh_get {p:List (List Int)} (h:pSh p) {i:Nat} (hi:i<p.length):pX (p.getD i []):=by
  rw [List.getD_eq_getElem?_getD,List.getElem?_eq_getElem hi];exact h.2 _ (List.getElem_mem hi)
theorem znN {p:List (List Int)} (h:pSh p):∀(n:Nat),n≤p.length→ziZ (zec p n) (Ex.exit 0,zd0 p (cutN (vls p) n))
  | 0,_=>zp8 p _ (by omega)
  | n + 1,hn=>by
    have hl:=h.1
    have e1:Int.toNat (((n+1:Nat):Int)-1)=n:=by omega
    have e2:((n+1:Nat):Int)-1=(n:Int):=by omega
    have hx:=pSh_get h (i:=n) (by omega)
    unfold cutN
    rw [← zaY]
    by_cases hz:vl (p.getD n [])=0
    · rw [if_pos hz]
      have ih:=znN h n (by omega)
      have go:=@zp6 p ((n+1:Nat):Int) (by omega) (by omega) (by omega) (by omega) (by rw [e1];exact hx) (by rw [e1];show Int.sign (vl (p.getD n []))=0;rw [hz];rfl) (Ex.exit 0,zd0 p (cutN (vls p) n))
      rw [e2] at go
      exact go ih
    · rw [if_neg hz]
      exact zp7 p _ (by omega) (by omega) (by omega) (by omega) (by rw [e1];exact hx) (by rw [e1];show Int.sign (vl (p.getD n []))≠0;exact fun h0=>hz (Int.sign_eq_zero_iff_zero.1 h0))
theorem rshort_fc (p:List (List Int)) (h:pSh p):FC Tryz.prog 188 [.lst (.sl (.int .i64)) p] (.lst (.sl (.int .i64)) (p.take (cutN (vls p) p.length))):=by
  have hc:=zhg (vls p) p.length
  have:=rsh_0 p (cutN (vls p) p.length:Nat) (znN h p.length (Nat.le_refl _)) (by omega) (by omega)
  exact this
noncomputable def ctrH5:Ctr:=(188,cD1 (.sl (.sl (.int .i64))) pSh (fun p=>.lst (.sl (.int .i64)) (p.take (cutN (vls p) p.length)))) :: ctrH4
theorem zkJ:∀p∈ctrH5,lZ Tryz.prog p.1 p.2:=CAll.cons (ziD rshort_fc) zkI
theorem zdK:(dZ Tryz.prog ctrH5 bw [] kdR).OK:=OZ zcM mixed zkJ zcF
end Go.Proofs.YtloaeinogiplbaaGreatDoor
end
