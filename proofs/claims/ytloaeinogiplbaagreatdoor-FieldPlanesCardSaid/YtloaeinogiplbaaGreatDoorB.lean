/- Part of a proof about a given program: see the last module of the claim. -/
import Derived.Test.YtloaeinogiplbaaGreatDoorA
section
namespace Go.Ev
section
variable {g:Cfg} {n0:Nat→Prop} {st:St} {o:Oper}
def CR (E:Env) (cs:List AV) (arr:Array Value):Prop:=cs.length=arr.size∧∀i,i<cs.length→Rd E (cs.getD i .junk) (arr.getD i undef)
theorem zbk {cs vc:List AV} {off:Nat} (h:off+vc.length≤cs.length):(over cs off vc).length=cs.length:=by
  unfold over;simp;omega
theorem znx {cs vc:List AV} {off:Nat} (h:off+vc.length≤cs.length) (i:Nat) :
    (over cs off vc).getD i .junk=if off≤i∧i<off+vc.length then vc.getD (i-off) .junk else cs.getD i .junk:=by
  unfold over
  simp only [List.getD]
  have hl:(cs.take off).length=off:=by simp;omega
  by_cases h1:i<off
  · rw [if_neg (by omega),List.append_assoc,List.getElem?_append_left (by omega),List.getElem?_take,if_pos h1]
  · by_cases h2:i<off+vc.length
    · rw [if_pos ⟨by omega,h2⟩,List.append_assoc,List.getElem?_append_right (by omega),hl,List.getElem?_append_left (by omega)]
    · rw [if_neg (by omega),List.getElem?_append_right (by simp;omega),List.getElem?_drop]
      congr 2
      simp;omega
theorem znh (off:Nat):∀(vs:List Value) (k:Nat) (arr:Array Value),
    ((vs.zipIdx k).foldl (fun(cs:Array Value) (p:Value × Nat)=>cs.setIfInBounds (off+p.2) p.1) arr).size=arr.size ∧
    ∀i,off+k+vs.length≤arr.size→((vs.zipIdx k).foldl (fun(cs:Array Value) (p:Value × Nat)=>cs.setIfInBounds (off+p.2) p.1) arr).getD i undef =
      if off+k≤i∧i<off+k+vs.length then vs.getD (i-(off+k)) undef else arr.getD i undef
  | [],k,arr=>⟨rfl,fun i _=>by simp;omega⟩
  | v :: vs,k,arr=>by
    obtain ⟨h1,h2⟩:=znh off vs (k+1) (arr.setIfInBounds (off+k) v)
    refine ⟨by simpa using h1,fun i hle=>?_⟩
    have hle':off+k+(vs.length+1)≤arr.size:=by simpa using hle
    simp only [List.zipIdx_cons,List.foldl_cons]
    rw [h2 i (by simp;omega)]
    by_cases hi:off+(k+1)≤i∧i<off+(k+1)+vs.length
    · rw [if_pos hi,if_pos ⟨by omega,by simp;omega⟩]
      obtain ⟨m,hm⟩:∃m,i-(off+k)=m+1:=⟨i-(off+k)-1,by omega⟩
      rw [hm,List.getD_cons_succ]
      congr 1;omega
    · rw [if_neg hi]
      by_cases he:i=off+k
      · subst he
        rw [if_pos ⟨by omega,by simp⟩,Nat.sub_self,List.getD_cons_zero]
        have:off+k<arr.size:=by omega
        simp [Array.getD_eq_getD_getElem?,this]
      · rw [if_neg (by simp;omega)]
        simp [Array.getD_eq_getD_getElem?,Array.getElem?_setIfInBounds_ne (Ne.symm he)]
theorem zfF {E : Env} {x : AV} {vc:List AV} {v:Value} (hx:zi7 x=some vc) (h:Rd E x v):CR E vc v.cells:=by
  have one : ∀ {y : AV} {u : Value},Rd E y u→(∀us,u≠.agg us)→CR E [y] u.cells:=by
    intro y u hr hne
    have hc:u.cells = #[u]:=by cases u<;>first | rfl | exact absurd rfl (hne _)
    rw [hc]
    exact ⟨rfl, fun i hi => by have:i=0:=by simpa using hi
                               subst this;exact hr⟩
  unfold zi7 at hx
  split at hx<;>first | (cases hx;done) | skip
  · cases hx;cases h with | agg hl hr=>exact ⟨hl,hr⟩
  · rename_i a
    cases hx;cases h
    refine ⟨by simp [Value.cells],fun i hi=>?_⟩
    have hi':i<a.size:=by simpa using hi
    have:(a.toList.map AV.lit).getD i .junk=.lit (a.getD i undef):=by simp [List.getD,hi']
    rw [this];exact .lit _
  · cases hx
    refine one h ?_
    intro us he
    subst he
    cases h<;>first | (simp_all;done) | (rename_i h1;obtain ⟨_,_,h2,_,_⟩:=zi2 h1;cases h2)
theorem zhm {E:Env} {place:Nat→Option (Nat × Nat)}:∀ {parts:List (Nat × AV)} {vparts:List (Nat × Value)} {cs:List AV} {arr:Array Value} {cs':List AV},
    zis place cs parts=some cs'→CR E cs arr→parts.length=vparts.length →
    (∀i:Nat,∀p q,parts[i]? = some p→vparts[i]? = some q→p.1=q.1∧Rd E p.2 q.2)→∃arr',Instr.fill place arr vparts=some arr'∧CR E cs' arr'
  | [],[],cs,arr,cs',h,hcr,_,_=>by
    cases h
    exact ⟨arr,rfl,hcr⟩
  | [],_ :: _,_,_,_,_,_,hl,_=>by simp at hl
  | _ :: _,[],_,_,_,_,_,hl,_=>by simp at hl
  | (i, x) :: parts,(j,v) :: vparts,cs,arr,cs',h,hcr,hl,hp=>by
    obtain ⟨hij,hxv⟩:=hp 0 (i,x) (j,v) rfl rfl
    simp only at hij hxv
    subst hij
    unfold zis at h
    split at h
    · rename_i off size vc hpl hvc
      split at h
      · rename_i hc
        obtain ⟨c1,c2⟩:=hc
        obtain ⟨v1,v2⟩:=zfF hvc hxv
        have hsz:v.cells.size=size:=by omega
        obtain ⟨f1,f2⟩:=znh off v.cells.toList 0 arr
        have hcr':CR E (over cs off vc) (v.cells.toList.zipIdx.foldl (fun(cs:Array Value) (p:Value × Nat)=>cs.setIfInBounds (off+p.2) p.1) arr):=by
          refine ⟨by rw [zbk c2,f1];exact hcr.1,fun k hk=>?_⟩
          rw [zbk c2] at hk
          rw [znx c2,f2 k (by simp;have:=hcr.1;omega)]
          have e1:v.cells.toList.length=vc.length:=by simp;omega
          rw [e1]
          by_cases hin:off≤k∧k<off+vc.length
          · rw [if_pos hin,if_pos (by simpa using hin)]
            have:=v2 (k-off) (by omega)
            have e2:v.cells.toList.getD (k-(off+0)) undef=v.cells.getD (k-off) undef:=by simp [List.getD,Array.getD_eq_getD_getElem?]
            rw [e2];exact this
          · rw [if_neg hin,if_neg (by simpa using hin)]
            exact hcr.2 k hk
        obtain ⟨arr',g1,g2⟩:=zhm (place:=place) h hcr' (by simpa using hl) (fun n p q h1 h2=>hp (n+1) p q h1 h2)
        refine ⟨arr',?_,g2⟩
        unfold Instr.fill
        rw [hpl]
        have e3:¬((v.cells.size != size||decide (off+v.cells.size > arr.size))=true):=by
          have:=hcr.1
          simp [hsz];omega
        simp only [ne_eq,decide_not,Bool.or_eq_true] at e3 ⊢
        rw [if_neg (by simp [hsz];have:=hcr.1;omega)]
        rw [← g1]
        congr 1
        rw [← Array.foldl_toList]
        simp
      · cases h
    · cases h
end
end Go.Ev
end
section
namespace Go.Ev
open Go.RowKit (Below)
section
variable {g:Cfg} {n0:Nat→Prop} {st:St} {o:Oper}
theorem zhB {g:Cfg} (hg:g.OK):∀ {fs:List Field} {pl:List (Nat × Nat)},zjR g (fs.map fun f=>(f.type,f.offset))=some pl →
    ∀w,(fs.mapM (m:=Sem) fun f=>do pure (f.offset,← sizeOf f.type)).run g.P w=.ok pl w
  | [],pl,h,w=>by cases h;rfl
  | f :: fs,pl,h,w=>by
    simp only [List.map_cons,zjR] at h
    split at h
    · rename_i ti l h1 h2
      cases h
      obtain ⟨i,d,z,k1,k2,k3,rfl⟩:=zh2 h1
      have ih:=zhB hg h2 w
      simp only [List.mapM_cons,Sem.run_bind,tZ k1,Result.andThen_ok,Sem.run_pure,ih]
    · cases h
theorem zd9 {E:Env} {tm:Fm} {a:Act} (hf:Fr E tm a.tmps):∀(parts:List (Nat × Operand)),
    (ze0 tm parts).length=(parts.map fun(i,x)=>(i,a.eval x)).length ∧
    ∀i:Nat,∀p q,(ze0 tm parts)[i]? = some p→(parts.map fun(i,x)=>(i,a.eval x))[i]? = some q→p.1=q.1∧Rd E p.2 q.2
  | []=>⟨rfl,fun i p q h=>by simp [ze0] at h⟩
  | (j,x) :: l=>by
    obtain ⟨h1,h2⟩:=zd9 hf l
    refine ⟨by simp [ze0,h1],fun i p q hp hq=>?_⟩
    cases i with
    | zero=>
      simp [ze0] at hp hq
      subst hp;subst hq
      exact ⟨rfl,hf.eval x⟩
    | succ i=>
      simp only [ze0,List.getElem?_cons_succ,List.map_cons] at hp hq
      exact h2 i p q hp hq
theorem zmP {E:Env} (z:Value):CR E (z.cells.toList.map AV.lit) z.cells:=by
  refine ⟨by simp,fun i hi=>?_⟩
  have hi':i<z.cells.size:=by simpa using hi
  have:(z.cells.toList.map AV.lit).getD i .junk=.lit (z.cells.getD i undef):=by simp [List.getD,hi']
  rw [this];exact .lit _
theorem zog (hg:g.OK) {t:TypeId} {parts:Array (Nat × Operand)} (ho:o.op=.build t parts) :
    Spec (buildA g t (ze0 st.tm parts.toList)) fun v=>PureOK g.P n0 st o v:=by
  refine zaV fun E a hf=>?_
  obtain ⟨p1,p2⟩:=zd9 hf parts.toList
  have hex:∀w,(execOp a.eval o).run g.P w=(do pure (.value (← Instr.build t (parts.map fun(i,x)=>(i,a.eval x)))):Sem Next).run g.P w:=by
    intro w;simp only [execOp,ho]
  have htl:(parts.map fun(i,x)=>(i,a.eval x)).toList=parts.toList.map fun(i,x)=>(i,a.eval x):=by simp
  unfold buildA
  refine Spec.bind (wZ hg fun i d z hi hd hz=>?_)
  dsimp only
  split
  · rename_i fs htk
    obtain ⟨fields,rfl,rfl⟩:=zh4 htk
    refine Spec.bind (Spec.ofOpt fun pl hpl=>Spec.bind (Spec.ofOpt fun cs hcs=>Spec.pure' ?_))
    obtain ⟨arr',f1,f2⟩:=zhm hcs (zmP (E:=E) z) p1 p2
    refine ⟨.agg arr',.agg f2.1 f2.2,fun w=>?_⟩
    have hm:(fields.mapM (m:=Sem) fun f=>do pure (f.offset,← sizeOf f.type)).run g.P w=.ok pl.toArray w:=by
      have:=zhB hg hpl w
      rw [← Array.toArray_toList (xs:=fields),List.mapM_toArray]
      simp only [Sem.run_map,this,Result.andThen_ok]
    rw [hex]
    simp only [Instr.build,Sem.run_bind,zaf hi hz,Result.andThen_ok,run_underlying hd]
    rw [hm]
    simp only [Result.andThen_ok,htl]
    have e1:(fun(x:Nat)=>pl.toArray[x]?)=fun(x:Nat)=>pl[x]?:=by funext x;simp
    rw [e1,f1]
    rfl
  · rename_i n e htk
    have hd':=zlV htk;subst hd'
    refine Spec.bind (wZ hg fun i2 d2 z2 hi2 hd2 _=>?_)
    refine Spec.bind (Spec.ofOpt fun cs hcs=>Spec.pure' ?_)
    obtain ⟨arr',f1,f2⟩:=zhm hcs (zmP (E:=E) z) p1 p2
    refine ⟨.agg arr',.agg f2.1 f2.2,fun w=>?_⟩
    rw [hex]
    simp only [Instr.build,Sem.run_bind,zaf hi hz,Result.andThen_ok,run_underlying hd,tZ hi2,htl,f1,Sem.run_pure]
  · exact Spec.fail
def RowFits (E:Env) (row:Row) (c:Array Value):Prop:=
  match row with
  | .dead=>True
  | .flat cs _=>cs.length≤c.size∧∀i,i<cs.length→Rd E (cs.getD i .junk) (c.getD i undef)
  | .ints l _=>l.length≤c.size∧∀i,i<l.length→c[i]? = some (.int .i64 (l.getD i 0))
  | .lst k l _=>(hZ k l).length≤c.size∧∀i,i<(hZ k l).length→Rd E ((hZ k l).getD i .junk) (c.getD i undef)
theorem RowFits.ext {E E':Env} (h:Ext E E') {row:Row} {c:Array Value} (hr:RowFits E row c):RowFits E' row c:=by
  cases row with
  | dead=>trivial
  | ints l b=>exact hr
  | flat cs b=>exact ⟨hr.1,fun i hi=>(hr.2 i hi).ext h⟩
  | lst k l b=>exact ⟨hr.1,fun i hi=>(hr.2 i hi).ext h⟩
theorem zfq {E:Env} {row:Row} {b:Nat} {c:Array Value} {e:TypeId} (hb:E.heap[b]? = some (.cells c e (0,0))) (h:RowFits E row c):RowAt E row b:=by
  cases row with
  | dead=>trivial
  | ints l lv=>exact ⟨c,e,hb,h.1,h.2⟩
  | flat cs lv=>exact ⟨c,e,hb,h.1,h.2⟩
  | lst k l lv=>exact ⟨c,e,hb,h.1,h.2⟩
theorem RowAt.ext {E E':Env} (h:Ext E E') {row:Row} {b:Nat} (hh:E'.heap[b]? = E.heap[b]?) (hr:RowAt E row b):RowAt E' row b:=by
  cases row with
  | dead=>trivial
  | ints l lv=>
    obtain ⟨c,e,hb,h1,h2⟩:=hr
    exact ⟨c,e,by rw [hh];exact hb,h1,h2⟩
  | flat cs lv=>
    obtain ⟨c,e,hb,h1,h2⟩:=hr
    exact ⟨c,e,by rw [hh];exact hb,h1,fun i hi=>(h2 i hi).ext h⟩
  | lst k l lv=>
    obtain ⟨c,e,hb,h1,h2⟩:=hr
    exact ⟨c,e,by rw [hh];exact hb,h1,fun i hi=>(h2 i hi).ext h⟩
theorem zdm {B:Nat} {M0:Nat→Prop} {rows:List Row} {rho:List Nat} {wr:List Nat} {w:World} (hm:Mem B M0 rows rho w) {row:Row} {c:Array Value} {e:TypeId}
    (hf:RowFits (iZ M0 rows rho w) row c) :
    Stp B M0 rows rho wr w (rows++[row]) (rho++[w.heap.size]) wr (w.alloc (.cells c e)):=by
  have hl:=hm.len
  have hold:∀k,k<w.heap.size→(w.alloc (.cells c e)).heap[k]? = w.heap[k]?:=fun k hk=>Below.heap_alloc w _ k hk
  have hnew:(w.alloc (.cells c e)).heap[w.heap.size]? = some (.cells c e (0,0)):=heap_alloc_new w _
  have hsz:(w.alloc (.cells c e)).heap.size=w.heap.size+1:=by simp
  have hrows:∀(r:Nat) (row':Row) (b:Nat),(rows++[row])[r]? = some row'→(rho++[w.heap.size])[r]? = some b→(rows[r]? = some row'∧rho[r]? = some b)∨(row'=row∧b=w.heap.size∧r=rows.length):=by
    intro r row' b h1 h2
    by_cases hr:r<rows.length
    · rw [List.getElem?_append_left hr] at h1
      rw [List.getElem?_append_left (by omega)] at h2
      exact .inl ⟨h1,h2⟩
    · rw [List.getElem?_append_right (by omega)] at h1 h2
      have h3:r-rows.length=0:=by
        have:=(List.getElem?_eq_some_iff.1 h1).1
        simp at this;omega
      rw [h3] at h1
      rw [hl,h3] at h2
      right
      refine ⟨by simpa using h1.symm,by simpa using h2.symm,by omega⟩
  have hext:Ext (iZ M0 rows rho w) (iZ M0 (rows++[row]) (rho++[w.heap.size]) (w.alloc (.cells c e))):=by
    refine ⟨by show w.heap.size≤(w.alloc (.cells c e)).heap.size;omega,fun b hb hM=>⟨hold b hb,?_⟩,fun r b hr=>?_,fun b hb=>?_⟩
    · rintro (h0 | ⟨r,row',h1,h2,h3⟩)
      · exact hM (.inl h0)
      · rcases hrows r row' b h1 h3 with ⟨k1,k2⟩ | ⟨_,k2,_⟩
        · exact hM (.inr ⟨r,row',k1,h2,k2⟩)
        · have:b<w.heap.size:=hb
          omega
    · exact List.getElem?_append_left (by have:=(List.getElem?_eq_some_iff.1 hr).1;exact this) |>.trans hr
    · show zan (w.alloc _).heap b=zan w.heap b
      unfold zan;rw [hold b hb]
  refine ⟨hext,⟨by have:=hm.hB;omega,hm.m0,by simp [hl],fun r b hr=>?_,fun r row' b h1 h2=>?_,fun r r' row1 row2 b h1 h2 a1 a2 b1 b2=>?_⟩,?_,?_⟩
  · by_cases hlt:r<rho.length
    · rw [List.getElem?_append_left hlt] at hr
      obtain ⟨k1,k2⟩:=hm.bnd r b hr
      exact ⟨k1,by omega⟩
    · rw [List.getElem?_append_right (by omega)] at hr
      have h3:r-rho.length=0:=by
        have:=(List.getElem?_eq_some_iff.1 hr).1
        simp at this;omega
      rw [h3] at hr
      have:b=w.heap.size:=by simpa using hr.symm
      subst this
      exact ⟨hm.hB,by omega⟩
  · rcases hrows r row' b h1 h2 with ⟨k1,k2⟩ | ⟨rfl,rfl,_⟩
    · exact(hm.row r row' b k1 k2).ext hext (hold b (hm.bnd r b k2).2)
    · exact zfq hnew (hf.ext hext)
  · rcases hrows r row1 b h1 b1 with ⟨k1,k2⟩ | ⟨rfl,k2,k3⟩
    · rcases hrows r' row2 b h2 b2 with ⟨j1,j2⟩ | ⟨rfl,j2,j3⟩
      · exact hm.inj r r' row1 row2 b k1 j1 a1 a2 k2 j2
      · have:=(hm.bnd r b k2).2;omega
    · rcases hrows r' row2 b h2 b2 with ⟨j1,j2⟩ | ⟨rfl,j2,j3⟩
      · have:=(hm.bnd r' b j2).2;omega
      · omega
  · exact(Below.refl B w).alloc hm.hB _
  · refine ⟨by simp,fun s hs _=>hs,fun r row' b hr h1 h2 h3 _=>⟨hold b (hm.bnd r b h3).2,?_,row',?_,h2⟩⟩
    · rw [List.getElem?_append_left hr];exact h3
    · rw [List.getElem?_append_left (by omega)];exact h1
theorem zcQ {B:Nat} {M0:Nat→Prop} {rows:List Row} {rho:List Nat} {wr:List Nat} {w:World} (hm:Mem B M0 rows rho w) {r b:Nat} {row row':Row} {c c':Array Value} {e:TypeId}
    (hrow:rows[r]? = some row) (hlive:row.live=true) (hr:rho[r]? = some b) (hb:w.heap[b]? = some (.cells c e (0,0))) (hsz:c'.size=c.size)
    (hlv:row'.live=true) (hf:RowFits (iZ M0 rows rho w) row' c') :
    Stp B M0 rows rho wr w (rows.set r row') rho (r :: wr) (w.setRow b c'):=by
  have hrl:r<rows.length:=(List.getElem?_eq_some_iff.1 hrow).1
  have hhsz:(w.setRow b c').heap.size=w.heap.size:=by simp
  have hnew:(w.setRow b c').heap[b]? = some (.cells c' e (0,0)):=setRow_heap w b c c' e _ hb
  have hold:∀k,k≠b→(w.setRow b c').heap[k]? = w.heap[k]?:=by
    intro k hk
    simp only [World.setRow,Array.getElem?_modify]
    rw [if_neg (fun h=>hk h.symm)]
  have hrows:∀(s:Nat) (q:Row),(rows.set r row')[s]? = some q→(s=r∧q=row')∨(s≠r∧rows[s]? = some q):=by
    intro s q h
    by_cases hs:r=s
    · subst hs
      rw [List.getElem?_set_self hrl] at h
      exact .inl ⟨rfl,(Option.some.inj h).symm⟩
    · rw [List.getElem?_set_ne hs] at h
      exact .inr ⟨fun hh=>hs hh.symm,h⟩
  have hMr:zdy M0 rows rho b:=.inr ⟨r,row,hrow,hlive,hr⟩
  have hMeq:∀k,¬zdy M0 rows rho k→¬zdy M0 (rows.set r row') rho k:=by
    rintro k hk (h0 | ⟨s,q,h1,h2,h3⟩)
    · exact hk (.inl h0)
    · rcases hrows s q h1 with ⟨rfl,rfl⟩ | ⟨_,k1⟩
      · exact hk (.inr ⟨s,row,hrow,hlive,h3⟩)
      · exact hk (.inr ⟨s,q,k1,h2,h3⟩)
  have hbsz:∀k,zan (w.setRow b c').heap k=zan w.heap k:=by
    intro k
    unfold zan
    by_cases hk:k=b
    · subst hk;rw [hnew,hb];exact hsz
    · rw [hold k hk]
  have hext:Ext (iZ M0 rows rho w) (iZ M0 (rows.set r row') rho (w.setRow b c')):=
    ⟨by show w.heap.size≤(w.setRow b c').heap.size;omega,fun k _ hM=>⟨hold k (fun h=>hM (h▸hMr)),hMeq k hM⟩,fun _ _ h=>h,fun k _=>hbsz k⟩
  refine ⟨hext,⟨by have:=hm.hB;omega,hm.m0,by simp [hm.len],fun s k hs=>by rw [hhsz];exact hm.bnd s k hs,fun s q k h1 h2=>?_,fun s s' q q' k h1 h2 a1 a2 b1 b2=>?_⟩,?_,?_⟩
  · rcases hrows s q h1 with ⟨rfl,rfl⟩ | ⟨hne,k1⟩
    · have:k=b:=by rw [hr] at h2;exact(Option.some.inj h2).symm
      subst this
      exact zfq hnew (hf.ext hext)
    · cases hq:q.alive with
      | false=>cases q<;>first | trivial | cases hq
      | true=>
        have hkb:k≠b:=by
          intro hkb;subst hkb
          exact hne (hm.inj s r q row k k1 hrow hq (zbG hlive) h2 hr)
        exact(hm.row s q k k1 h2).ext hext (hold k hkb)
  · have key:∀(s:Nat) (q:Row),(rows.set r row')[s]? = some q→q.alive=true→∃q0:Row,rows[s]? = some q0∧q0.alive=true:=by
      intro s q h ha
      rcases hrows s q h with ⟨rfl,rfl⟩ | ⟨_,k1⟩
      · exact ⟨row,hrow,zbG hlive⟩
      · exact ⟨q,k1,ha⟩
    obtain ⟨q0,g1,g2⟩:=key s q h1 a1
    obtain ⟨q1,g3,g4⟩:=key s' q' h2 a2
    exact hm.inj s s' q0 q1 k g1 g3 g2 g4 b1 b2
  · have hbB:B≤b:=(hm.bnd r b hr).1
    refine ⟨rfl,rfl,rfl,by omega,fun k hk=>hold k (by omega)⟩
  · refine ⟨Nat.le_refl _,fun s hs _=>List.mem_cons_of_mem _ hs,fun s q k hsn h1 h2 h3 h4=>?_⟩
    have hne:s≠r:=fun h=>h4 (h▸List.mem_cons_self)
    have hkb:k≠b:=by
      intro hkb;subst hkb
      exact hne (hm.inj s r q row k h1 hrow h2 (zbG hlive) h3 hr)
    exact ⟨hold k hkb,h3,q,by rw [List.getElem?_set_ne (Ne.symm hne)];exact h1,h2⟩
end
section
variable {g:Cfg} {n0:Nat→Prop} {st:St} {o:Oper}
theorem zhn {E:Env} {cs:List AV} {c:Array Value} {b:Bool} (h:CR E cs c):RowFits E (.flat cs b) c:=⟨by have:=h.1;omega,h.2⟩
theorem WZ {m:M Out} (h:∀B M0 rho (a:Act) w,Mem B M0 st.rows rho w→Fr (iZ M0 st.rows rho w) st.tm a.tmps →
    Spec m fun r=>∃nx w' rho' v,(execOp a.eval o).run g.P w=.ok nx w'∧(nx=.value v∨nx=.skip∧v=undef) ∧
      Stp B M0 st.rows rho st.wr w r.rows rho' r.wr w'∧Rd (iZ M0 r.rows rho' w') r.v v):Spec m fun r=>RunOK g.P st o r:=by
  intro c s x s' cs he hcs B M0 rho a w hm hf
  exact h B M0 rho a w hm hf c s x s' cs he hcs
theorem zcK {wr:List Nat} {m:M (AV × List Row)} {Q:Out→Prop} (h:Spec m fun p=>Q ⟨p.1,p.2,wr⟩):Spec (zoz wr m) Q:=
  Spec.bind (h.mono fun _ hv=>Spec.pure' hv)
theorem zdi {rho:List Nat} {rows:List Row} {b:Nat} (h:rho.length=rows.length):(rho++[b])[rows.length]? = some b:=by
  rw [← h];simp
theorem alloc_run (hg:g.OK) {t:TypeId} (ho:o.op=.alloc t):Spec (zoz st.wr (allocA g st.rows t)) fun r=>RunOK g.P st o r:=by
  refine WZ fun B M0 rho a w hm hf=>zcK ?_
  unfold allocA
  refine Spec.bind (wZ hg fun i d z hi hd hz=>Spec.pure' ?_)
  dsimp only
  have hs:=zdm (wr:=st.wr) (e:=t) hm (row:=.flat (z.cells.toList.map .lit) true) (c:=z.cells) (zhn (zmP z))
  refine ⟨_,_,_,.pointer (some ⟨w.heap.size,0,none⟩),?_,.inl rfl,hs,.ref (zdi hm.len)⟩
  simp only [execOp,ho,Instr.alloc,Sem.run_bind,zaf hi hz,Result.andThen_ok,newVar,newRow,run_newObj,Sem.run_pure,World.alloc_eq]
theorem box_run {t:TypeId} {x:Operand} (ho:o.op=.box t x):Spec (zoz st.wr (boxA st.rows (qZ st.tm x))) fun r=>RunOK g.P st o r:=by
  refine WZ fun B M0 rho a w hm hf=>zcK ?_
  unfold boxA
  refine Spec.bind (Spec.ofOpt fun vc hvc=>Spec.pure' ?_)
  have hcr:=zfF hvc (hf.eval x)
  have hs:=zdm (wr:=st.wr) (e:=t) hm (row:=.flat vc true) (c:=(a.eval x).cells) (zhn hcr)
  refine ⟨_,_,_,.pointer (some ⟨w.heap.size,0,none⟩),?_,.inl rfl,hs,.ref (zdi hm.len)⟩
  simp only [execOp,ho,Instr.box,Sem.run_bind,newVar,newRow,run_newObj,Result.andThen_ok,Sem.run_pure,World.alloc_eq]
theorem zc3:∀ {cs:List AV} {l:List Int},zeW cs=some l→cs=l.map fun n=>AV.lit (.int .i64 n)
  | [],l,h=>by cases h;rfl
  | x :: cs,l,h=>by
    unfold zeW at h
    split at h
    · rename_i h1;cases h1
    · rename_i n l' heq
      cases heq
      split at h
      · rename_i r hr
        cases h
        rw [zc3 hr];rfl
      · cases h
    · cases h
theorem zpD {E:Env} {b:Bool} {cs:List AV} {c:Array Value} (h:CR E cs c):RowFits E (rowOf b cs) c∧(rowOf b cs).live=true:=by
  unfold rowOf
  split
  · rename_i l hl
    have:=zc3 hl
    subst this
    refine ⟨⟨by have:=h.1;simp at this;omega,fun i hi=>?_⟩,rfl⟩
    have h1:=h.2 i (by simpa using hi)
    have h2:(l.map fun n=>AV.lit (.int .i64 n)).getD i .junk=.lit (.int .i64 (l.getD i 0)):=by simp [List.getD,hi]
    rw [h2] at h1
    have h3:=h1.lit_inv
    have hc:i<c.size:=by have:=h.1;simp at this;omega
    have:c.getD i undef=c[i]:=by simp [Array.getD,hc]
    rw [this] at h3
    rw [Array.getElem?_eq_getElem hc,h3]
  · exact ⟨zhn h,rfl⟩
theorem UZ (z:List AV):∀n,(zl3 n z).length=n*z.length
  | 0=>by simp [zl3]
  | n+1=>by simp [zl3,UZ z n,Nat.succ_mul,Nat.add_comm]
theorem zea (z:List AV) (hz:0<z.length):∀n i,i<n*z.length→(zl3 n z).getD i .junk=z.getD (i % z.length) .junk
  | 0,i,h=>by simp at h
  | n + 1,i,h=>by
    simp only [zl3,List.getD]
    by_cases hi:i<z.length
    · rw [List.getElem?_append_left hi,Nat.mod_eq_of_lt hi]
    · rw [List.getElem?_append_right (by omega)]
      have h':i-z.length<n*z.length:=by rw [Nat.succ_mul] at h;omega
      have:=zea z hz n (i-z.length) h'
      simp only [List.getD] at this
      rw [this,← Nat.mod_eq_sub_mod (show i≥z.length by omega)]
theorem zj5 {E:Env} (z:Value) (n:Nat) (hz:0<z.cells.size):CR E (zl3 n (z.cells.toList.map .lit)) ((Array.range (n*z.cells.size)).map fun i=>z.cells[i % z.cells.size]!):=by
  refine ⟨by simp [UZ],fun i hi=>?_⟩
  have hi':i<n*z.cells.size:=by simpa [UZ] using hi
  rw [zea _ (by simpa using hz) n i (by simpa using hi')]
  have hm:i % z.cells.size<z.cells.size:=Nat.mod_lt _ hz
  have e1:(z.cells.toList.map AV.lit).getD (i % (z.cells.toList.map AV.lit).length) .junk=.lit (z.cells.getD (i % z.cells.size) undef):=by
    simp [List.getD,hm]
  have e2:((Array.range (n*z.cells.size)).map fun i=>z.cells[i % z.cells.size]!).getD i undef=z.cells.getD (i % z.cells.size) undef:=by
    simp [Array.getD,hi',hm]
  rw [e1,e2];exact .lit _
theorem zb0 {w:World} {c:Array Value} {e:TypeId}:zan (w.alloc (.cells c e)).heap w.heap.size=c.size:=by
  unfold zan;rw [heap_alloc_new]
theorem zio (hg : g.OK) {t : TypeId} {n : Nat} {parts : Array (Nat × Operand)} (ho:o.op=.buildSlice t n parts) :
    Spec (zoz st.wr (zcU g st.rows t n (ze0 st.tm parts.toList))) fun r=>RunOK g.P st o r:=by
  refine WZ fun B M0 rho a w hm hf=>zcK ?_
  obtain ⟨p1,p2⟩:=zd9 hf parts.toList
  have htl:(parts.map fun(i,x)=>(i,a.eval x)).toList=parts.toList.map fun(i,x)=>(i,a.eval x):=by simp
  unfold zcU
  refine Spec.bind (wZ hg fun i d z hi hd hz=>?_)
  dsimp only
  split
  · rename_i e htk
    have hd':=zae htk;subst hd'
    refine Spec.bind (wZ hg fun i2 d2 z2 hi2 hd2 hz2=>?_)
    dsimp only
    split
    · exact Spec.fail
    · rename_i hc
      have c1:0<i2.size:=by omega
      have c2:¬(16777216<n*i2.size):=by omega
      have c3:z2.cells.toList.length=i2.size:=by
        cases Nat.decEq z2.cells.toList.length i2.size with
        | isTrue h=>exact h
        | isFalse h=>exact absurd (.inr (.inr h)) hc
      have c3':z2.cells.size=i2.size:=by simpa using c3
      refine Spec.bind (Spec.ofOpt fun cs hcs=>?_)
      split
      · refine Spec.pure' ?_
        have hz0:=zj5 (E:=iZ M0 st.rows rho w) z2 n (by omega)
        rw [c3'] at hz0
        obtain ⟨arr',f1,f2⟩:=zhm hcs hz0 p1 p2
        obtain ⟨r1,r2⟩:=zpD (b:=isI64 (zeh d2)) f2
        have hs:=zdm (wr:=st.wr) (e:=e) hm r1
        have hsz' : arr'.size=n*i2.size:=by
          have h1:=f2.1
          have h2:=hz0.1
          have h3 : cs.length=(zl3 n (z2.cells.toList.map AV.lit)).length:=by
            clear f1 f2 r1 r2 hs h1
            revert hcs
            generalize zl3 n (z2.cells.toList.map AV.lit)=l0
            generalize ze0 st.tm parts.toList=ps
            intro hcs
            induction ps generalizing l0 with
            | nil=>cases hcs;rfl
            | cons p ps ih=>
              obtain ⟨j,x⟩:=p
              unfold zis at hcs
              split at hcs
              · split at hcs
                · rename_i hh
                  rw [ih _ hcs,zbk hh.2]
                · cases hcs
              · cases hcs
          rw [← h1,h3,UZ];simp [c3']
        refine ⟨_,_,_,.slice (some ⟨w.heap.size,0,none⟩) n n,?_,.inl rfl,hs,.own (zdi hm.len) (by show w.heap.size<(w.alloc (.cells arr' e)).heap.size;simp) (Nat.le_refl _) ?_⟩
        · have hne : ¬ (n * i2.size = 0) ∨ n * i2.size = 0:=by omega
          have hr : (Instr.buildSlice t n (parts.map fun (i,x)=>(i,a.eval x))).run g.P w=.ok (.slice (some ⟨w.heap.size,0,none⟩) n n) (w.alloc (.cells arr' e)):=by
            unfold Instr.buildSlice
            simp only [Sem.run_bind,run_underlying hd,Result.andThen_ok,tZ hi2]
            have h24 : ¬ (n * i2.size > 2 ^ 24) := by have:(2:Nat) ^ 24=16777216:=by decide
                                                      omega
            simp only [if_neg h24]
            by_cases h0:n*i2.size=0
            · have hn0:(Array.range 0).map (fun(k:Nat)=>z2.cells[k % i2.size]!)=(Array.range 0).map (fun(k:Nat)=>(#[]:Array Value)[k % (#[]:Array Value).size]!):=by simp
              rw [h0] at f1
              simp only [h0,if_true,Sem.run_bind,Sem.run_pure,Result.andThen_ok]
              rw [hn0] at f1
              rw [htl,f1]
              simp only [newRow,Sem.run_bind,run_newObj,Result.andThen_ok,Sem.run_pure,World.alloc_eq]
            · simp only [if_neg h0,Sem.run_bind,zaf hi2 hz2,Result.andThen_ok,Sem.run_pure,c3']
              rw [htl,f1]
              simp only [newRow,Sem.run_bind,run_newObj,Result.andThen_ok,Sem.run_pure,World.alloc_eq]
          simp only [execOp,ho,Sem.run_bind,hr,Result.andThen_ok,Sem.run_pure]
        · show 0+n*i2.size≤zan (w.alloc (.cells arr' e)).heap w.heap.size
          rw [zb0];omega
      · exact Spec.fail
  · exact Spec.fail
end
section
variable {g:Cfg} {n0:Nat→Prop} {st:St} {o:Oper}
theorem zov {E:Env} {x:AV} {v:Value} (h:Rd E x v) (hx:zcI x=true):v.oneCell'=true:=by
  cases h<;>first | rfl | exact hx | (cases hx;done) | (rename_i h1;obtain ⟨_,_,rfl,_,_⟩:=zi2 h1;rfl)
theorem zcG {E:Env} {vc:List AV} {arr:Array Value} (h:CR E vc arr) (hc:vc.all zcI=true):∀v∈arr.toList,v.oneCell'=true:=by
  intro v hv
  obtain ⟨i,hi,he⟩:=List.getElem_of_mem hv
  have hi':i<vc.length:=by have:=h.1;simp at hi;omega
  have h1:=h.2 i hi'
  have h2:arr.getD i undef=v:=by
    have hia:i<arr.size:=by simpa using hi
    simp [Array.getD,hia];simpa using he
  rw [h2] at h1
  refine zov h1 ?_
  have h3:=List.all_eq_true.1 hc (vc.getD i .junk) (by simp [List.getD,hi'])
  exact h3
theorem zeG (cur:Array Value) (vs:List Value) (off:Nat) (h:off+vs.length≤cur.size) :
    ((cur.toList.take off++vs++cur.toList.drop (off+vs.length)).toArray).size=cur.size ∧
    ∀i,((cur.toList.take off++vs++cur.toList.drop (off+vs.length)).toArray)[i]? = if off≤i∧i<off+vs.length then vs[i-off]? else cur[i]?:=by
  refine ⟨by simp;omega,fun i=>?_⟩
  simp only [List.getElem?_toArray]
  have hl:(cur.toList.take off).length=off:=by simp;omega
  by_cases h1:i<off
  · rw [if_neg (by omega),List.append_assoc,List.getElem?_append_left (by omega),List.getElem?_take,if_pos h1];simp
  · by_cases h2:i<off+vs.length
    · rw [if_pos ⟨by omega,h2⟩,List.append_assoc,List.getElem?_append_right (by omega),hl,List.getElem?_append_left (by omega)]
    · rw [if_neg (by omega),List.getElem?_append_right (by simp;omega),List.getElem?_drop]
      simp only [List.length_append,hl,Array.getElem?_toList]
      congr 1;omega
theorem zao {a:Array Value} {i:Nat}:a.getD i undef=(a[i]?).getD undef:=by simp [Array.getD_eq_getD_getElem?]
theorem zeS {E:Env} {cs vc:List AV} {cur arr:Array Value} {off:Nat} {b:Bool} (h:RowFits E (.flat cs b) cur) (hv:CR E vc arr) (hl:off+vc.length≤cs.length) :
    RowFits E (.flat (over cs off vc) true) (cur.toList.take off++arr.toList++cur.toList.drop (off+arr.toList.length)).toArray:=by
  have h0:=h.1
  have hv1:=hv.1
  have e1:arr.toList.length=vc.length:=by simp;omega
  obtain ⟨s1,s2⟩:=zeG cur arr.toList off (by rw [e1];omega)
  refine ⟨by rw [zbk hl,s1];exact h0,fun i hi=>?_⟩
  rw [zbk hl] at hi
  rw [znx hl,zao,s2,e1]
  by_cases hin:off≤i∧i<off+vc.length
  · rw [if_pos hin,if_pos hin]
    have:=hv.2 (i-off) (by omega)
    rw [zao] at this
    simpa using this
  · rw [if_neg hin,if_neg hin]
    have:=h.2 i hi
    rw [zao] at this;exact this
theorem EZ {rows:List Row} {r:Nat} {row:Row} (h:rows.getD r .dead=row) (hne:row≠.dead):rows[r]? = some row:=by
  cases hh:rows[r]? with
  | none=>simp [List.getD,hh] at h;exact absurd h.symm hne
  | some q=>simp [List.getD,hh] at h;rw [h]
theorem store_run (hg:g.OK) {t:TypeId} {a v:Operand} (ho:o.op=.store t a v) :
    Spec (do let ti ← ty g t;let rows ← zi3 st.rows ti (qZ st.tm a) (qZ st.tm v);M.pure (⟨.lit undef,rows,ziW (qZ st.tm a) :: st.wr⟩:Out)) fun r=>RunOK g.P st o r:=by
  refine WZ fun B M0 rho act w hm hf=>?_
  refine Spec.bind (wZ hg fun i d z hi hd hz=>?_)
  have exec:∀(ad:Addr) (w':World),act.eval a=.pointer (some ad)→(storeVar t ad (act.eval v)).run g.P w=.ok () w'→(execOp act.eval o).run g.P w=.ok .skip w':=by
    intro ad w' he hr
    simp only [execOp,ho,Instr.storeAt,he,Instr.sureAddr,Sem.run_bind,Sem.run_pure,Result.andThen_ok,hr]
  unfold zi3
  split
  · rename_i r off hx
    have hax:=hf.eval a
    rw [hx] at hax
    generalize heq:act.eval a=u at hax
    cases hax with
    | @ref _ _ b hr=>
      have hrho:rho[r]? = some b:=hr
      split
      · rename_i cs hrow
        refine Spec.bind (Spec.bind (Spec.ofOpt fun vc hvc=>?_))
        split
        · rename_i hc
          obtain ⟨c1,c2,c3⟩:=hc
          refine Spec.pure' (Spec.pure' ?_)
          have hrows:=EZ hrow (by simp)
          obtain ⟨c,e,hb,hfit⟩:=hm.row r _ b hrows hrho
          have hcr:=zfF hvc (hf.eval v)
          have hsp:=zeG c (act.eval v).cells.toList off (by have:=hcr.1;have:=hfit.1;simp;omega)
          have hs:=zcQ (wr:=st.wr) (c':=(c.toList.take off++(act.eval v).cells.toList++c.toList.drop (off+(act.eval v).cells.toList.length)).toArray) (row':=.flat (over cs off vc) true) hm hrows rfl hrho hb hsp.1 rfl (zeS (b:=true) hfit hcr c2)
          refine ⟨.skip,_,rho,undef,exec ⟨b,off,none⟩ _ heq ?_,.inr ⟨rfl,rfl⟩,by rw [hx];exact hs,.lit _⟩
          unfold storeVar
          have hsz:(act.eval v).cells.size=i.size:=by have:=hcr.1;simp only at c1;omega
          simp only [Sem.run_bind,tZ hi,Result.andThen_ok,hsz,ne_eq,not_true_eq_false,if_false]
          have hst:=run_storeCells_at (P:=g.P) b off e (act.eval v).cells.toList 0 c w hb (by have:=hcr.1;have:=hfit.1;simp;omega) (zcG hcr c3)
          simpa using hst
        · exact Spec.fail
      · rename_i l hrow
        split
        · rename_i n hvx
          split
          · rename_i hsz1
            refine Spec.bind (Spec.bind (Spec.chk fun hlt=>Spec.pure' (Spec.pure' ?_)))
            have hlt':off<l.length:=by simpa using hlt
            have hrows:=EZ hrow (by simp)
            obtain ⟨c,e,hb,hlc,hcs⟩:=hm.row r _ b hrows hrho
            have hv:=hf.eval v
            rw [hvx] at hv
            have hvv:=hv.lit_inv
            have hsp:=zeG c [.int .i64 n] off (by simp;omega)
            have hfit:RowFits (iZ M0 st.rows rho w) (.ints (l.set off n) true) (c.toList.take off++[Value.int .i64 n]++c.toList.drop (off+[Value.int .i64 n].length)).toArray:=by
              refine ⟨by rw [hsp.1];simpa using hlc,fun k hk=>?_⟩
              have hk':k<l.length:=by simpa using hk
              rw [hsp.2]
              by_cases hko:off=k
              · subst hko
                rw [if_pos ⟨Nat.le_refl _,by simp⟩]
                simp [List.getD,hk']
              · rw [if_neg (by simp;omega),hcs k hk']
                simp [List.getD,List.getElem?_set_ne hko]
            have hs:=zcQ (wr:=st.wr) hm hrows rfl hrho hb hsp.1 rfl hfit
            refine ⟨.skip,_,rho,undef,exec ⟨b,off,none⟩ _ heq ?_,.inr ⟨rfl,rfl⟩,by rw [hx];exact hs,.lit _⟩
            unfold storeVar
            have hcells:(act.eval v).cells = #[.int .i64 n]:=by rw [hvv];rfl
            have hsz1':i.size=1:=hsz1
            simp only [Sem.run_bind,tZ hi,Result.andThen_ok,hcells,hsz1']
            have hst:=run_storeCells_at (P:=g.P) b off e [.int .i64 n] 0 c w hb (by simp;omega) (by simp [Value.oneCell'])
            simpa using hst
          · exact Spec.bind Spec.fail
        · exact Spec.bind Spec.fail
      · exact Spec.bind Spec.fail
  · exact Spec.bind Spec.fail
theorem zjI (hg:g.OK) {t:TypeId} {l c:Operand} (ho:o.op=.makeSlice t l c) :
    Spec (zoz st.wr (zd6 g st.rows t (qZ st.tm l) (qZ st.tm c))) fun r=>RunOK g.P st o r:=by
  refine WZ fun B M0 rho a w hm hf=>zcK ?_
  unfold zd6
  refine Spec.bind (wZ hg fun i d z hi hd hz=>?_)
  dsimp only
  split
  · rename_i e htk
    have hd':=zae htk;subst hd'
    refine Spec.bind (wZ hg fun i2 d2 z2 hi2 hd2 hz2=>?_)
    refine Spec.bind (Spec.ofOpt fun nl hnl=>Spec.bind (Spec.ofOpt fun nc hnc=>?_))
    refine Spec.bind (Spec.chk fun c1=>Spec.bind (Spec.chk fun c2=>Spec.bind (Spec.chk fun c3=>Spec.bind (Spec.chk fun c4=>?_))))
    simp only [decide_eq_true_eq] at c1 c2 c3 c4
    obtain ⟨kl,hkl⟩:=(hf.eval l).asI hnl
    obtain ⟨kc,hkc⟩:=(hf.eval c).asI hnc
    have wl:IntKind.i64.wrap nl=nl:=zbm (by simp [inR,IntKind.min,IntKind.max,IntKind.signed,IntKind.bits];omega)
    have wc:IntKind.i64.wrap nc=nc:=zbm (by simp [inR,IntKind.min,IntKind.max,IntKind.signed,IntKind.bits];omega)
    have hp48:(2:Int) ^ 48=281474976710656:=by decide
    have run:z2.cells.size=i2.size→0<i2.size→(Instr.makeSlice t (a.eval l) (a.eval c)).run g.P w =
        .ok (.slice (some ⟨w.heap.size,0,none⟩) nl.toNat nc.toNat) (w.alloc (.cells ((Array.range (nc.toNat*i2.size)).map fun(k:Nat)=>z2.cells[k % z2.cells.size]!) e)):=by
      intro hzs hpos
      have h1:¬((decide (nc<0)||decide ((i2.bytes:Int)*nc > 2 ^ 48)||decide (nl<0)||decide (nl > nc))=true):=by
        simp only [Bool.or_eq_true,decide_eq_true_eq,hp48];omega
      simp only [Instr.makeSlice,Sem.run_bind,run_underlying hd,Result.andThen_ok,asInt,hkl,hkc,asIntOf,Sem.run_pure,zbT hi2,wl,wc]
      rw [if_neg h1]
      simp only [Sem.run_bind,run_askRoom,Result.andThen_ok,tZ hi2]
      by_cases h0:nc.toNat*i2.size=0
      · simp only [h0,if_true,Sem.run_bind,Sem.run_pure,Result.andThen_ok,newRow,run_newObj,World.alloc_eq]
        have hz:∀(f g:Nat→Value),(Array.range 0).map f=(Array.range 0).map g:=fun f g=>by apply Array.ext<;>simp
        rw [hz _ (fun k=>z2.cells[k % z2.cells.size]!)]
      · simp only [if_neg h0,Sem.run_bind,zaf hi2 hz2,Result.andThen_ok,Sem.run_pure,newRow,run_newObj,World.alloc_eq]
    have hcl:nl.toNat≤nc.toNat:=by omega
    dsimp only
    split
    · rename_i hc
      obtain ⟨hk,hz1,hs1⟩:=hc
      have hs1':i2.size=1:=hs1
      have hzl:=zc3 hz1
      have hzc:z2.cells = #[.int .i64 0]:=by
        have h1:z2.cells.toList.map AV.lit=[AV.lit (.int .i64 0)]:=hzl
        have h2:z2.cells.toList.length=1:=by have:=congrArg List.length h1;simpa using this
        match h3:z2.cells.toList,h2 with
        | [v],_=>
          rw [h3] at h1
          simp at h1
          rw [← Array.toArray_toList (xs:=z2.cells),h3,h1]
      have hzs:z2.cells.size=i2.size:=by rw [hzc,hs1'];rfl
      refine Spec.pure' ?_
      have hrun:=run hzs (by omega)
      rw [hs1',Nat.mul_one] at hrun
      have hfit:RowFits (iZ M0 st.rows rho w) (.ints (List.replicate nl.toNat 0) true) ((Array.range nc.toNat).map fun(k:Nat)=>z2.cells[k % z2.cells.size]!):=by
        refine ⟨by simp;omega,fun k hk=>?_⟩
        have hk':k<nl.toNat:=by simpa using hk
        have hkc:k<nc.toNat:=by omega
        rw [hzc]
        simp [hkc,hk',List.getD,Nat.mod_one]
      have hs:=zdm (wr:=st.wr) (e:=e) hm hfit
      refine ⟨_,_,_,_,by simp only [execOp,ho,Sem.run_bind,hrun,Result.andThen_ok,Sem.run_pure],.inl rfl,hs,.own (zdi hm.len) ?_ hcl ?_⟩
      · show w.heap.size<(w.alloc _).heap.size;simp
      · show 0+nc.toNat*1≤zan (w.alloc _).heap w.heap.size
        rw [zb0];simp
    · split
      · exact Spec.fail
      · rename_i hc
        have hpos:0<i2.size:=by omega
        have hzs:z2.cells.size=i2.size:=by
          cases Nat.decEq z2.cells.toList.length i2.size with
          | isTrue h=>simpa using h
          | isFalse h=>exact absurd (.inr h) hc
        refine Spec.pure' ?_
        have hcr:=zj5 (E:=iZ M0 st.rows rho w) z2 nc.toNat (by omega)
        have hfit:RowFits (iZ M0 st.rows rho w) (.flat (zl3 nl.toNat (z2.cells.toList.map .lit)) true) ((Array.range (nc.toNat*z2.cells.size)).map fun(k:Nat)=>z2.cells[k % z2.cells.size]!):=by
          have hmul:nl.toNat*z2.cells.size≤nc.toNat*z2.cells.size:=Nat.mul_le_mul_right _ hcl
          refine ⟨by simp [UZ,hmul],fun k hk=>?_⟩
          have hk':k<nl.toNat*z2.cells.size:=by simpa [UZ] using hk
          have:=hcr.2 k (by simp [UZ];omega)
          rw [zea _ (by simp;omega) _ _ (by simpa using hk')]
          rw [zea _ (by simp;omega) _ _ (by simp;omega)] at this
          exact this
        rw [hzs] at hfit
        have hrun:=run hzs hpos
        rw [hzs] at hrun
        have hs:=zdm (wr:=st.wr) (e:=e) hm hfit
        refine ⟨_,_,_,_,by simp only [execOp,ho,Sem.run_bind,hrun,Result.andThen_ok,Sem.run_pure],.inl rfl,hs,.own (zdi hm.len) ?_ hcl ?_⟩
        · show w.heap.size<(w.alloc _).heap.size;simp
        · show 0+nc.toNat*i2.size≤zan (w.alloc _).heap w.heap.size
          rw [zb0];simp
  · exact Spec.fail
end
section
variable {P:Program} (w:World)
theorem zhW (t ty e:TypeId) (i:TypeInfo) (z:Value) (ht:P.underlying t=some (.slice e)) (hi:P.info? e=some i) (hz:i.zero=some z)
    (a:Option Addr) (n c:Nat) (news:List Value) (hsrc:∀w':World,w'.heap=w.heap→(Builtin.firstCells i.size n (.slice a n c)).run P w'=.ok news.toArray w')
    (h0:0<n) (h63:(n:Int)≤9223372036854775807) (h48:n*i.bytes≤281474976710656) :
    (Builtin.append_ #[t,t] ty #[.slice none 0 0,.slice a n c]).run P w =
      .ok (.slice (some ⟨w.heap.size,0,none⟩) n (grownCap w n 0 e)) (w.drew.alloc (.cells (news.toArray++Builtin.zeroCells z.cells (grownCap w n 0 e-n)) e)):=by
  have hn:n≠0:=by omega
  have h63':¬(9223372036854775807<(n:Int)):=by omega
  have h48':¬(281474976710656<Builtin.nextslicecap n 0*i.bytes):=by rw [nextslicecap_zero h0];omega
  have hf:=hsrc w.drew rfl
  simp [Builtin.append_,run_underlying ht,sizeOf,typeInfo,zeroValue,hi,hz,Builtin.lenOf,hn,h63',h48',Question.forced,run_firstCells_none,hf,newRow,grownCap]
theorem zgr (t ty e:TypeId) (i:TypeInfo) (z:Value) (ht:P.underlying t=some (.slice e)) (hi:P.info? e=some i) (hz:i.zero=some z)
    (b:Addr) (sLen sCap:Nat) (olds:List Value) (hlo:olds.length=sLen*i.size) (holds:∀j v,olds[j]? = some v→w.cell? (b.add j)=some v)
    (a:Option Addr) (n c:Nat) (news:List Value) (hsrc:∀w':World,w'.heap=w.heap→(Builtin.firstCells i.size n (.slice a n c)).run P w'=.ok news.toArray w')
    (hg:sCap<sLen+n) (h63:((sLen+n:Nat):Int)≤9223372036854775807) (hfit:Builtin.nextslicecap (sLen+n) sCap*i.bytes≤281474976710656) :
    (Builtin.append_ #[t,t] ty #[.slice (some b) sLen sCap,.slice a n c]).run P w =
      .ok (.slice (some ⟨w.heap.size,0,none⟩) (sLen+n) (grownCap w (sLen+n) sCap e))
        (w.drew.alloc (.cells (olds.toArray++news.toArray++Builtin.zeroCells z.cells (grownCap w (sLen+n) sCap e-(sLen+n))) e)):=by
  have hn:¬(sLen+n≤sCap):=by omega
  have h63':¬(9223372036854775807<((sLen:Int)+(n:Int))):=by omega
  have h48':¬(281474976710656<Builtin.nextslicecap (sLen+n) sCap*i.bytes):=by omega
  have hf:=hsrc w.drew rfl
  have hfo:=run_firstCells_some (P:=P) w.drew i.size sLen b sLen sCap olds hlo (by simpa using holds)
  simp [Builtin.append_,run_underlying ht,sizeOf,typeInfo,zeroValue,hi,hz,Builtin.lenOf,hn,h63',h48',Question.forced,hf,hfo,newRow,grownCap]
  congr 2
  apply Array.ext'
  simp [List.append_assoc]
theorem zgs (t ty e e':TypeId) (i:TypeInfo) (ht:P.underlying t=some (.slice e)) (hi:P.info? e=some i)
    (g sLen sCap:Nat) (cur:Array Value) (hg:w.heap[g]? = some (.cells cur e' (0,0)))
    (a:Option Addr) (m c:Nat) (news:List Value) (hsrc:∀w':World,w'.heap=w.heap→(Builtin.firstCells i.size m (.slice a m c)).run P w'=.ok news.toArray w') (h1:∀u∈news,u.oneCell'=true)
    (hroom:sLen+m≤sCap) (hfit:sLen*i.size+news.length≤cur.size) :
    (Builtin.append_ #[t,t] ty #[.slice (some ⟨g,0,none⟩) sLen sCap,.slice a m c]).run P w =
      .ok (.slice (some ⟨g,0,none⟩) (sLen+m) sCap) (w.setRow g (cur.toList.take (sLen*i.size)++news++cur.toList.drop (sLen*i.size+news.length)).toArray):=by
  have hf:=hsrc w rfl
  have hst:=run_storeCells_at P g (sLen*i.size) e' news 0 cur w hg (by simpa using hfit) h1
  simp only [Nat.add_zero] at hst
  simp [Builtin.append_,run_underlying ht,sizeOf,typeInfo,hi,Builtin.lenOf,hroom,hf,Addr.add_lit,hst]
end
section
variable {g:Cfg} {n0:Nat→Prop} {st:St} {o:Oper}
theorem zkg {B:Nat} {M0:Nat→Prop} {rows:List Row} {rho:List Nat} {wr:List Nat} {w:World} (hm:Mem B M0 rows rho w):Stp B M0 rows rho wr w rows rho wr w.drew:=
  ⟨⟨Nat.le_refl _,fun _ _ h=>⟨rfl,h⟩,fun _ _ h=>h,fun _ _=>rfl⟩,⟨hm.hB,hm.m0,hm.len,hm.bnd,hm.row,hm.inj⟩,(Below.refl B w).drew,Nat.le_refl _,fun _ h _=>h,fun _ row _ _ h1 h2 h3 _=>⟨rfl,h3,row,h1,h2⟩⟩
def ElRd (E:Env) (el:List AV ⊕ List Int) (news:List Value):Prop:=
  match el with
  | .inl cs=>CR E cs news.toArray
  | .inr l=>news=l.map fun n=>Value.int .i64 n
def zl5 (el:List AV ⊕ List Int) (m sz:Nat):Prop:=
  match el with
  | .inl cs=>cs.length=m*sz
  | .inr l=>l.length=m∧sz=1
theorem zeR {B:Nat} {M0:Nat→Prop} {rows:List Row} {rho:List Nat} {w:World} (hm:Mem B M0 rows rho w) {sz m:Nat} {x:AV} {el:List AV ⊕ List Int} {v:Value}
    (he:zb4 rows sz x=some (m,el)) (hv:Rd (iZ M0 rows rho w) x v) (hlen:zl5 el m sz) :
    ∃a c news,v=.slice a m c∧news.length=m*sz∧ElRd (iZ M0 rows rho w) el news ∧
      ∀k,k≤m→∀(P:Program) (w':World),w'.heap=w.heap→(Builtin.firstCells sz k (.slice a m c)).run P w'=.ok (news.take (k*sz)).toArray w':=by
  have some_run:∀ {b o c:Nat} {news:List Value},news.length=m*sz→(∀j u,news[j]? = some u→DZ w.heap b (o+j)=some u) →
      ∀k,k≤m→∀(P:Program) (w':World),w'.heap=w.heap→(Builtin.firstCells sz k (.slice (some ⟨b,o,none⟩) m c)).run P w'=.ok (news.take (k*sz)).toArray w':=by
    intro b o c news hl hn k hk P w' hw
    have hmul:k*sz≤m*sz:=Nat.mul_le_mul_right _ hk
    refine run_firstCells_some w' sz k ⟨b,o,none⟩ m c (news.take (k*sz)) (by simp;omega) (fun j u hu=>?_)
    have hj:j<k*sz:=by have:=(List.getElem?_eq_some_iff.1 hu).1;simp at this;omega
    rw [List.getElem?_take,if_pos hj] at hu
    rw [zdz,cell?_eq,hw];exact hn j u hu
  unfold zb4 at he
  split at he
  · rename_i r off n sz'
    split at he
    · rename_i cs lv hrow
      split at he
      · rename_i hc
        cases he
        obtain ⟨rfl,c2⟩:=hc
        cases hv with
        | @own _ _ _ _ b cap hr hs hcap hb=>
          obtain ⟨c,e,hbk,hlc,hcs⟩:=hm.row r _ b (EZ hrow (by simp)) hr
          have hbk':w.heap[b]? = some (.cells c e (0,0)):=hbk
          have hnl:((c.toList.drop off).take (m*sz)).length=m*sz:=by simp;omega
          have hget:∀j,j<m*sz→((c.toList.drop off).take (m*sz))[j]? = c[off+j]?:=by
            intro j hj
            simp only [List.getElem?_take,hj,if_true,List.getElem?_drop,Array.getElem?_toList]
          refine ⟨_,cap,(c.toList.drop off).take (m*sz),rfl,hnl,⟨by simp;omega,fun i hi=>?_⟩,some_run hnl fun j u hu=>?_⟩
          · have hi':i<m*sz:=by simp at hi;omega
            have h1:((cs.drop off).take (m*sz)).getD i .junk=cs.getD (off+i) .junk:=by
              simp only [List.getD,List.getElem?_take,hi',if_true,List.getElem?_drop]
            have h2:(((c.toList.drop off).take (m*sz)).toArray).getD i undef=c.getD (off+i) undef:=by
              rw [zao,zao,List.getElem?_toArray,hget i hi']
            rw [h1,h2];exact hcs (off+i) (by omega)
          · have hj:j<m*sz:=by have:=(List.getElem?_eq_some_iff.1 hu).1;omega
            rw [hget j hj] at hu
            simp only [DZ,hbk'];exact hu
      · cases he
    · rename_i l lv hrow
      split at he
      · rename_i hc
        cases he
        obtain ⟨rfl,rfl,rfl⟩:=hc
        cases hv with
        | @own _ _ _ _ b cap hr hs hcap hb=>
          obtain ⟨c,e,hbk,hlc,hcs⟩:=hm.row r _ b (EZ hrow (by simp)) hr
          have hbk':w.heap[b]? = some (.cells c e (0,0)):=hbk
          have hnl:((l.take m).map fun n=>Value.int .i64 n).length=m*1:=by have h1:(l.take m).length=m:=hlen.1;simpa using h1
          refine ⟨_,cap,(l.take m).map fun n=>Value.int .i64 n,rfl,hnl,rfl,some_run hnl fun j u hu=>?_⟩
          have hj:j<(l.take m).length:=by have:=(List.getElem?_eq_some_iff.1 hu).1;simpa using this
          have hjl:j<l.length:=by simp at hj;omega
          have hjn:j<m:=by simp at hj;omega
          simp only [DZ,hbk',Nat.zero_add]
          rw [hcs j hjl,← hu]
          simp [hjn,List.getD,hjl]
      · cases he
    · rename_i k l lv hrow
      split at he
      · rename_i hc
        cases he
        obtain ⟨rfl,rfl,hsz,hnle⟩:=hc
        have hcl:=uZ k l
        have hnm:m*sz'≤l.length*k.sz:=by rw [hsz];exact Nat.mul_le_mul_right _ hnle
        cases hv with
        | @own _ _ _ _ b cap hr hs hcap hb=>
          obtain ⟨c,e,hbk,hlc,hcs⟩:=hm.row r _ b (EZ hrow (by simp)) hr
          have hbk':w.heap[b]? = some (.cells c e (0,0)):=hbk
          have hnl:((c.toList.drop 0).take (m*sz')).length=m*sz':=by simp;omega
          have hget:∀j,j<m*sz'→((c.toList.drop 0).take (m*sz'))[j]? = c[0+j]?:=by
            intro j hj
            simp only [List.getElem?_take,hj,if_true,List.getElem?_drop,Array.getElem?_toList]
          refine ⟨_,cap,(c.toList.drop 0).take (m*sz'),rfl,hnl,⟨by simp;omega,fun i hi=>?_⟩,some_run hnl fun j u hu=>?_⟩
          · have hi':i<m*sz':=by simp at hi;omega
            have h1:((hZ k l).take (m*sz')).getD i .junk=(hZ k l).getD (0+i) .junk:=by
              simp only [List.getD,List.getElem?_take,hi',if_true,Nat.zero_add]
            have h2:(((c.toList.drop 0).take (m*sz')).toArray).getD i undef=c.getD (0+i) undef:=by
              rw [zao,zao,List.getElem?_toArray,hget i hi']
            rw [h1,h2];exact hcs (0+i) (by omega)
          · have hj:j<m*sz':=by have:=(List.getElem?_eq_some_iff.1 hu).1;omega
            rw [hget j hj] at hu
            simp only [DZ,hbk'];exact hu
      · cases he
    · cases he
  · rename_i cs n
    split at he
    · rename_i hc
      cases he
      cases hv with
      | @sl0 _ a cap=>
        have hnil:cs=[]:=by apply List.eq_nil_of_length_eq_zero;omega
        subst hnil
        refine ⟨a,cap,[],rfl,by simp,⟨rfl,fun i hi=>by simp at hi⟩,fun k hk P w' hw=>?_⟩
        have hk0:k=0:=by omega
        subst hk0
        cases a with
        | none=>simp [Builtin.firstCells]
        | some ad=>
          have:=run_firstCells_some (P:=P) w' sz 0 ad 0 cap [] (by simp) (fun j u hu=>by simp at hu)
          simpa using this
      | @sl _ _ b base cap vals hs hM hcap hv hr=>
        have hnl:((List.range cs.length).map vals).length=m*sz:=by simpa using hc
        refine ⟨_,cap,(List.range cs.length).map vals,rfl,hnl,⟨by simp,fun i hi=>?_⟩,some_run hnl fun j u hu=>?_⟩
        · have h2:(((List.range cs.length).map vals).toArray).getD i undef=vals i:=by simp [hi]
          rw [h2];exact hr i hi
        · have hj:j<cs.length:=by have:=(List.getElem?_eq_some_iff.1 hu).1;simpa using this
          have:=hv j hj
          simp [hj] at hu
          rw [← hu];exact this
    · cases he
  · rename_i k l
    split at he
    · rename_i hsz
      cases he
      have hc:(hZ k l).length=l.length*sz:=by rw [hsz];exact uZ k l
      cases hv with
      | lst hv=>
        generalize hN:l.length=m at hv hc hlen some_run
        generalize hcs:hZ k l=cs at hv hc hlen
        cases hv with
        | @sl0 _ a cap=>
          have hnil:cs=[]:=by apply List.eq_nil_of_length_eq_zero;omega
          subst hnil
          refine ⟨a,cap,[],rfl,by simp,⟨rfl,fun i hi=>by simp at hi⟩,fun k hk P w' hw=>?_⟩
          have hk0:k=0:=by omega
          subst hk0
          cases a with
          | none=>simp [Builtin.firstCells]
          | some ad=>
            have:=run_firstCells_some (P:=P) w' sz 0 ad 0 cap [] (by simp) (fun j u hu=>by simp at hu)
            simpa using this
        | @sl _ _ b base cap vals hs hM hcap hv hr=>
          have hnl:((List.range cs.length).map vals).length=m*sz:=by simpa using hc
          refine ⟨_,cap,(List.range cs.length).map vals,rfl,hnl,⟨by simp,fun i hi=>?_⟩,some_run hnl fun j u hu=>?_⟩
          · have h2:(((List.range cs.length).map vals).toArray).getD i undef=vals i:=by simp [hi]
            rw [h2];exact hr i hi
          · have hj:j<cs.length:=by have:=(List.getElem?_eq_some_iff.1 hu).1;simpa using this
            have:=hv j hj
            simp [hj] at hu
            rw [← hu];exact this
    · cases he
  · split at he
    · rename_i l hl
      split at he
      · rename_i hsz
        cases he
        subst hsz
        obtain ⟨a,cap,rfl,hcap,hat⟩:=zbn hl hv
        have hnl:(l.map fun n=>Value.int .i64 n).length=l.length*1:=by simp
        refine ⟨a,cap,l.map fun n=>Value.int .i64 n,rfl,hnl,rfl,?_⟩
        rcases hat with rfl | ⟨b,base,rfl,hM,hcell⟩
        · intro k hk P w' hw
          have hk0:k=0:=by simpa using hk
          subst hk0
          cases a with
          | none=>simp [Builtin.firstCells]
          | some ad=>
            have:=run_firstCells_some (P:=P) w' 1 0 ad 0 cap [] (by simp) (fun j u hu=>by simp at hu)
            simpa using this
        · refine some_run hnl fun j u hu=>?_
          have hj:j<l.length:=by have:=(List.getElem?_eq_some_iff.1 hu).1;simpa using this
          have:=hcell j hj
          simp [hj] at hu
          rw [← hu]
          have e1:l.getD j 0=l[j]:=by simp [List.getD,hj]
          rw [e1] at this;exact this
      · cases he
    · cases he
end
section
variable {g:Cfg} {n0:Nat→Prop} {st:St} {o:Oper}
theorem zaM {rows:List Row} {r s:Nat} {row q:Row} (hrl:r<rows.length) (h:(rows.set r row)[s]? = some q):(s=r∧q=row)∨(s≠r∧rows[s]? = some q):=by
  by_cases hs:r=s
  · subst hs
    rw [List.getElem?_set_self hrl] at h
    exact .inl ⟨rfl,(Option.some.inj h).symm⟩
  · rw [List.getElem?_set_ne hs] at h
    exact .inr ⟨fun hh=>hs hh.symm,h⟩
theorem stp_kill {B:Nat} {M0:Nat→Prop} {rows:List Row} {rho:List Nat} {wr:List Nat} {w:World} (hm:Mem B M0 rows rho w) {r:Nat} (hrl:r<rows.length) :
    Stp B M0 rows rho wr w (rows.set r .dead) rho (r :: wr) w:=by
  have hM:∀k,¬zdy M0 rows rho k→¬zdy M0 (rows.set r .dead) rho k:=by
    rintro k hk (h0 | ⟨s,q,h1,h2,h3⟩)
    · exact hk (.inl h0)
    · rcases zaM hrl h1 with ⟨rfl,rfl⟩ | ⟨_,k1⟩
      · cases h2
      · exact hk (.inr ⟨s,q,k1,h2,h3⟩)
  have hext:Ext (iZ M0 rows rho w) (iZ M0 (rows.set r .dead) rho w):=⟨Nat.le_refl _,fun k _ hk=>⟨rfl,hM k hk⟩,fun _ _ h=>h,fun _ _=>rfl⟩
  refine ⟨hext,⟨hm.hB,hm.m0,by simp [hm.len],hm.bnd,fun s q k h1 h2=>?_,fun s s' q q' k h1 h2 a1 a2 b1 b2=>?_⟩,Below.refl _ _,Nat.le_refl _,fun s hs _=>List.mem_cons_of_mem _ hs,fun s q k _ h1 h2 h3 h4=>⟨rfl,h3,q,by rw [List.getElem?_set_ne (show r≠s from fun h=>h4 (by rw [← h];exact List.mem_cons_self))];exact h1,h2⟩⟩
  · rcases zaM hrl h1 with ⟨rfl,rfl⟩ | ⟨_,k1⟩
    · trivial
    · exact(hm.row s q k k1 h2).ext hext rfl
  · rcases zaM hrl h1 with ⟨rfl,rfl⟩ | ⟨_,k1⟩
    · cases a1
    · rcases zaM hrl h2 with ⟨rfl,rfl⟩ | ⟨_,k2⟩
      · cases a2
      · exact hm.inj s s' q q' k k1 k2 a1 a2 b1 b2
theorem stp_move {B:Nat} {M0:Nat→Prop} {rows:List Row} {rho:List Nat} {wr:List Nat} {w:World} (hm:Mem B M0 rows rho w) {r b:Nat} {row:Row} (hrow:rows[r]? = some row) (hlive:row.live=true)
    (hr:rho[r]? = some b) (hwr:r∈wr):Stp B M0 rows rho wr w (rows.set r .dead++[row]) (rho++[b]) (rows.length :: wr) w:=by
  have hl:=hm.len
  have hrl:r<rows.length:=(List.getElem?_eq_some_iff.1 hrow).1
  have hrows:∀(s:Nat) (q:Row) (k:Nat),(rows.set r .dead++[row])[s]? = some q→(rho++[b])[s]? = some k→(s<rows.length∧(rows.set r .dead)[s]? = some q∧rho[s]? = some k)∨(s=rows.length∧q=row∧k=b):=by
    intro s q k h1 h2
    by_cases hs:s<rows.length
    · rw [List.getElem?_append_left (by simpa using hs)] at h1
      rw [List.getElem?_append_left (by omega)] at h2
      exact .inl ⟨hs,h1,h2⟩
    · rw [List.getElem?_append_right (by simpa using Nat.le_of_not_lt hs)] at h1
      rw [List.getElem?_append_right (by omega)] at h2
      have h3:s-rows.length=0:=by
        have:=(List.getElem?_eq_some_iff.1 h1).1
        simp at this;omega
      simp only [List.length_set] at h1
      rw [h3] at h1
      rw [hl,h3] at h2
      exact .inr ⟨by omega,by simpa using h1.symm,by simpa using h2.symm⟩
  have hM:∀k,¬zdy M0 rows rho k→¬zdy M0 (rows.set r .dead++[row]) (rho++[b]) k:=by
    rintro k hk (h0 | ⟨s,q,h1,h2,h3⟩)
    · exact hk (.inl h0)
    · rcases hrows s q k h1 h3 with ⟨_,k1,k2⟩ | ⟨_,rfl,rfl⟩
      · rcases zaM hrl k1 with ⟨rfl,rfl⟩ | ⟨_,k3⟩
        · cases h2
        · exact hk (.inr ⟨s,q,k3,h2,k2⟩)
      · exact hk (.inr ⟨r,q,hrow,hlive,hr⟩)
  have hext:Ext (iZ M0 rows rho w) (iZ M0 (rows.set r .dead++[row]) (rho++[b]) w):=
    ⟨Nat.le_refl _,fun k _ hk=>⟨rfl,hM k hk⟩,fun s k hs=>(List.getElem?_append_left (by have:=(List.getElem?_eq_some_iff.1 hs).1;exact this)).trans hs,fun _ _=>rfl⟩
  refine ⟨hext,⟨hm.hB,hm.m0,by simp [hl],fun s k hs=>?_,fun s q k h1 h2=>?_,fun s s' q q' k h1 h2 a1 a2 b1 b2=>?_⟩,Below.refl _ _,by simp,fun s hs _=>List.mem_cons_of_mem _ hs,fun s q k hs h1 h2 h3 h4=>⟨rfl,?_,q,?_,h2⟩⟩
  · by_cases hlt:s<rho.length
    · rw [List.getElem?_append_left hlt] at hs
      exact hm.bnd s k hs
    · rw [List.getElem?_append_right (by omega)] at hs
      have h3:s-rho.length=0:=by
        have:=(List.getElem?_eq_some_iff.1 hs).1
        simp at this;omega
      rw [h3] at hs
      have:k=b:=by simpa using hs.symm
      subst this
      exact hm.bnd r k hr
  · rcases hrows s q k h1 h2 with ⟨_,k1,k2⟩ | ⟨_,rfl,rfl⟩
    · rcases zaM hrl k1 with ⟨rfl,rfl⟩ | ⟨_,k3⟩
      · trivial
      · exact(hm.row s q k k3 k2).ext hext rfl
    · exact(hm.row r q k hrow hr).ext hext rfl
  · have key:∀(s:Nat) (q:Row),(rows.set r .dead++[row])[s]? = some q→(rho++[b])[s]? = some k→q.alive=true→∃(s0:Nat) (q0:Row),rows[s0]? = some q0∧q0.alive=true∧rho[s0]? = some k∧((s0=s∧s≠r∧s<rows.length)∨(s0=r∧s=rows.length)):=by
      intro s q h hk ha
      rcases hrows s q k h hk with ⟨hlt,k1,k2⟩ | ⟨hs,rfl,rfl⟩
      · rcases zaM hrl k1 with ⟨rfl,rfl⟩ | ⟨hne,k3⟩
        · cases ha
        · exact ⟨s,q,k3,ha,k2,.inl ⟨rfl,hne,hlt⟩⟩
      · exact ⟨r,q,hrow,ha,hr,.inr ⟨rfl,hs⟩⟩
    obtain ⟨s0,q0,g1,g2,g3,g4⟩:=key s q h1 b1 a1
    obtain ⟨s1,q1,g5,g6,g7,g8⟩:=key s' q' h2 b2 a2
    have:=hm.inj s0 s1 q0 q1 k g1 g5 g2 g6 g3 g7
    omega
  · rw [List.getElem?_append_left hs];exact h3
  · have hne:r≠s:=fun h=>h4 (h▸List.mem_cons_of_mem _ hwr)
    rw [List.getElem?_append_left (by simp;omega),List.getElem?_set_ne hne];exact h1
theorem Stp.log {B M0 rows rho wr w rows' rho' wr' w'} (h:Stp B M0 rows rho wr w rows' rho' wr' w') {wr2:List Nat} (hs:∀s∈wr',s∈wr2):Stp B M0 rows rho wr w rows' rho' wr2 w':=
  ⟨h.ext,h.mem,h.below,h.frm.1,fun s h1 h2=>hs s (h.frm.2.1 s h1 h2),fun r row b h1 h2 h3 h4 h5=>h.frm.2.2 r row b h1 h2 h3 h4 (fun h6=>h5 (hs r h6))⟩
def zlK:List AV ⊕ List Int→Row
  | .inl cs=>.flat cs true
  | .inr l=>.ints l true
theorem ziJ {rows:List Row} {sz m:Nat} {x:AV} {el:List AV ⊕ List Int} (h:zb4 rows sz x=some (m,el)) :
    (∀cs,el=.inl cs→cs.length=m*sz)∧(∀l,el=.inr l→sz=1):=by
  unfold zb4 at h
  split at h
  · split at h
    · split at h
      · rename_i hc
        cases h
        refine ⟨fun cs hcs=>?_,fun l hl=>by cases hl⟩
        cases hcs
        obtain ⟨rfl,c2⟩:=hc
        simp;omega
      · cases h
    · split at h
      · rename_i hc
        cases h
        exact ⟨fun cs hcs=>(by cases hcs),fun _ _=>hc.2.2⟩
      · cases h
    · rename_i k l _ _
      split at h
      · rename_i hc
        cases h
        refine ⟨fun cs hcs=>?_,fun l hl=>by cases hl⟩
        cases hcs
        obtain ⟨_,_,hsz,hnl⟩:=hc
        have hcl:=uZ k l
        have:m*sz≤l.length*k.sz:=by rw [hsz];exact Nat.mul_le_mul_right _ hnl
        simp;omega
      · cases h
    · cases h
  · split at h
    · rename_i hc
      cases h
      exact ⟨fun cs hcs=>(by cases hcs;exact hc),fun l hl=>(by cases hl)⟩
    · cases h
  · rename_i k l
    split at h
    · rename_i hc
      cases h
      exact ⟨fun cs hcs=>(by cases hcs;rw [hc];exact uZ k l),fun l hl=>(by cases hl)⟩
    · cases h
  · split at h
    · split at h
      · rename_i hc
        cases h
        exact ⟨fun cs hcs=>(by cases hcs),fun _ _=>hc⟩
      · cases h
    · cases h
theorem zk3 {E:Env} {cs es:List AV} {b:Bool} {c:Array Value} {k:Nat} {news:List Value} {arr:Array Value} (hf:RowFits E (.flat cs b) c) (hk:k≤cs.length) (he:CR E es news.toArray)
    (h1:∀i,i<k→arr[i]? = c[i]?) (h2:∀i,i<news.length→arr[k+i]? = news[i]?) (h3:k+news.length≤arr.size):RowFits E (.flat (cs.take k++es) true) arr:=by
  have hel:es.length=news.length:=by have:=he.1;simpa using this
  have hkl:(cs.take k).length=k:=by simp;omega
  refine ⟨by rw [List.length_append,hkl,hel];exact h3,fun i hi=>?_⟩
  rw [List.length_append,hkl] at hi
  rw [zao]
  by_cases hik:i<k
  · have e1:(cs.take k++es).getD i .junk=cs.getD i .junk:=by
      simp only [List.getD]
      rw [List.getElem?_append_left (by omega),List.getElem?_take,if_pos hik]
    rw [e1,h1 i hik,← zao]
    exact hf.2 i (by omega)
  · obtain ⟨j,rfl⟩:∃j,i=k+j:=⟨i-k,by omega⟩
    have e1:(cs.take k++es).getD (k+j) .junk=es.getD j .junk:=by
      simp only [List.getD]
      rw [List.getElem?_append_right (by omega),hkl,Nat.add_sub_cancel_left]
    rw [e1,h2 j (by omega)]
    have:=he.2 j (by omega)
    rw [zao] at this
    simpa using this
theorem join_ints {E:Env} {l q:List Int} {b:Bool} {c:Array Value} {k:Nat} {arr:Array Value} (hf:RowFits E (.ints l b) c) (hk:k≤l.length)
    (h1:∀i,i<k→arr[i]? = c[i]?) (h2:∀i,i<q.length→arr[k+i]? = some (.int .i64 (q.getD i 0))) (h3:k+q.length≤arr.size):RowFits E (.ints (l.take k++q) true) arr:=by
  have hkl:(l.take k).length=k:=by simp;omega
  refine ⟨by rw [List.length_append,hkl];exact h3,fun i hi=>?_⟩
  rw [List.length_append,hkl] at hi
  by_cases hik:i<k
  · have e1:(l.take k++q).getD i 0=l.getD i 0:=by
      simp only [List.getD]
      rw [List.getElem?_append_left (by omega),List.getElem?_take,if_pos hik]
    rw [e1,h1 i hik]
    exact hf.2 i (by omega)
  · obtain ⟨j,rfl⟩:∃j,i=k+j:=⟨i-k,by omega⟩
    have e1:(l.take k++q).getD (k+j) 0=q.getD j 0:=by
      simp only [List.getD]
      rw [List.getElem?_append_right (by omega),hkl,Nat.add_sub_cancel_left]
    rw [e1,h2 j (by omega)]
theorem fits_new {E:Env} {el:List AV ⊕ List Int} {news:List Value} {m sz:Nat} (h:ElRd E el news) (hl:zl5 el m sz) (rest:Array Value) :
    RowFits E (zlK el) (news.toArray++rest):=by
  cases el with
  | inl cs=>
    have h':CR E cs news.toArray:=h
    refine ⟨by have:=h'.1;simp at this ⊢;omega,fun i hi=>?_⟩
    have h1:=h'.2 i hi
    have hi':i<news.length:=by have:=h'.1;simp at this;omega
    rw [zao] at h1 ⊢
    rw [Array.getElem?_append_left (by simpa using hi')]
    exact h1
  | inr l=>
    have h':news=l.map fun n=>Value.int .i64 n:=h
    subst h'
    refine ⟨by simp,fun i hi=>?_⟩
    rw [Array.getElem?_append_left (by simpa using hi)]
    simp [hi,List.getD]
theorem Stp.kill_last {B M0 rows rho wr w rows' rho' wr' w'} (h:Stp B M0 rows rho wr w rows' rho' wr' w') {r:Nat} (hr:r<rows'.length):Stp B M0 rows rho wr w (rows'.set r .dead) rho' (r :: wr') w':=
  h.trans (stp_kill h.mem hr)
theorem zei {P:Program} {B:Nat} {M0:Nat→Prop} {rows:List Row} {rho wr:List Nat} {w:World} (hm:Mem B M0 rows rho w) {t tt e:TypeId} {i2:TypeInfo} {z2:Value}
    (hd:P.underlying t=some (.slice e)) (hi2:P.info? e=some i2) (hz2:i2.zero=some z2) (hzs:z2.cells.size=i2.size) {x:AV} {vy:Value} {m:Nat} {el:List AV ⊕ List Int}
    (hp:zb4 rows i2.size x=some (m,el)) (hy:Rd (iZ M0 rows rho w) x vy) (c1:0<m) (c2:m*i2.bytes≤140737488355328) (c3:m≤4611686018427387904) (hlen:zl5 el m i2.size) :
    ∃w' rho' v,(Builtin.append_ #[t,t] tt #[.slice none 0 0,vy]).run P w=.ok v w' ∧
      Stp B M0 rows rho wr w (rows++[zlK el]) rho' wr w'∧Rd (iZ M0 (rows++[zlK el]) rho' w') (.own rows.length 0 m i2.size) v:=by
  obtain ⟨ad,cp,news,hv,hnl,hel,hsrc⟩:=zeR hm hp hy hlen
  have hnl':news.length=m*i2.size:=hnl
  have hrun:=zhW (P:=P) w t tt e i2 z2 hd hi2 hz2 ad m cp news (fun w' hw=>by have:=hsrc m (Nat.le_refl _) P w' hw;rwa [List.take_of_length_le (by omega)] at this) c1 (by omega) (by omega)
  have hfit:=fits_new hel hlen (Builtin.zeroCells z2.cells (grownCap w m 0 e-m))
  have hs1:=(zkg (wr:=wr) hm)
  have hs2:=hs1.trans (zdm (e:=e) hs1.mem (hfit.ext hs1.ext))
  refine ⟨_,_,_,by rw [hv];exact hrun,hs2,.own (zdi hm.len) (by show w.heap.size<(w.drew.alloc _).heap.size;simp) ?_ ?_⟩
  · have:=grownCap_ge w m 0 e;omega
  · show 0+grownCap w m 0 e*i2.size≤zan (w.drew.alloc _).heap w.drew.heap.size
    rw [zb0]
    have hge:=grownCap_ge w m 0 e
    simp only [Array.size_append,List.size_toArray,size_zeroCells,hzs,hnl']
    rw [← Nat.add_mul]
    have:m+(grownCap w m 0 e-m)=grownCap w m 0 e:=by omega
    rw [this];omega
theorem zej {P:Program} {B:Nat} {M0:Nat→Prop} {rows:List Row} {rho wr:List Nat} {w:World} (hm:Mem B M0 rows rho w) {t tt e:TypeId} {i2:TypeInfo} {z2:Value}
    (hd:P.underlying t=some (.slice e)) (hi2:P.info? e=some i2) (hz2:i2.zero=some z2) (hzs:z2.cells.size=i2.size) {x:AV} {vx vy:Value} {m:Nat} {el:List AV ⊕ List Int}
    (hp:zb4 rows i2.size x=some (m,el)) (hy:Rd (iZ M0 rows rho w) x vy) {r n sz:Nat} (hxv:Rd (iZ M0 rows rho w) (.own r 0 n sz) vx)
    (c1:(n+m)*i2.bytes≤140737488355328) (c2:n+m≤4611686018427387904) {row row':Row} (hrow:rows[r]? = some row) (hlive:row.live=true) (hlive':row'.live=true) (hsz':sz=i2.size) (hlen:zl5 el m i2.size)
    (hfits:∀E (c:Array Value) (news:List Value),RowFits E row c→ElRd E el news→n*i2.size≤c.size∧∀arr:Array Value,(∀i,i<n*i2.size→arr[i]? = c[i]?)→(∀i,i<news.length→arr[n*i2.size+i]? = news[i]?)→n*i2.size+news.length≤arr.size→RowFits E row' arr)
    (hone:∀E (news:List Value),ElRd E el news→∀u∈news,u.oneCell'=true) :
    ∃w' rho' v,(Builtin.append_ #[t,t] tt #[vx,vy]).run P w=.ok v w' ∧
      Stp B M0 rows rho wr w (rows.set r .dead++[row']) rho' (rows.length :: r :: wr) w'∧Rd (iZ M0 (rows.set r .dead++[row']) rho' w') (.own rows.length 0 (n+m) sz) v:=by
  have hrl:r<rows.length:=(List.getElem?_eq_some_iff.1 hrow).1
  obtain ⟨ad,cp,news,hv,hnl,hel,hsrc⟩:=zeR hm hp hy hlen
  have hnl':news.length=m*i2.size:=hnl
  cases hxv with
  | @own _ _ _ _ b cap hr hsb hcap hbz=>
    have hrho:rho[r]? = some b:=hr
    have hat:=hm.row r row b hrow hrho
    obtain ⟨c,e',hbk,hcfit⟩:∃c e',w.heap[b]? = some (.cells c e' (0,0))∧RowFits (iZ M0 rows rho w) row c:=by
      cases row with
      | dead=>cases hlive
      | flat cs lv=>obtain ⟨c,e',k1,k2,k3⟩:=hat;exact ⟨c,e',k1,k2,k3⟩
      | ints l lv=>obtain ⟨c,e',k1,k2,k3⟩:=hat;exact ⟨c,e',k1,k2,k3⟩
      | lst k l lv=>obtain ⟨c,e',k1,k2,k3⟩:=hat;exact ⟨c,e',k1,k2,k3⟩
    have hbz':cap*i2.size≤c.size:=by
      have:zan w.heap b=c.size:=by simp [zan,hbk]
      have hb2:0+cap*sz≤zan w.heap b:=hbz
      rw [this,hsz',Nat.zero_add] at hb2;exact hb2
    obtain ⟨hnc,hjoin⟩:=hfits _ c news hcfit hel
    by_cases hroom:n+m≤cap
    · have hmul:(n+m)*i2.size≤cap*i2.size:=Nat.mul_le_mul_right _ hroom
      rw [Nat.add_mul] at hmul
      obtain ⟨s1,s2⟩:=zeG c news (n*i2.size) (by omega)
      have hfit:RowFits (iZ M0 rows rho w) row' (c.toList.take (n*i2.size)++news++c.toList.drop (n*i2.size+news.length)).toArray:=by
        refine hjoin _ (fun i hi=>by rw [s2,if_neg (by omega)]) (fun i hi=>by rw [s2,if_pos ⟨by omega,by omega⟩,Nat.add_sub_cancel_left]) (by rw [s1];omega)
      have hs1:=zcQ (wr:=wr) hm hrow hlive hrho hbk s1 hlive' hfit
      have hs2:=hs1.trans (stp_move hs1.mem (r:=r) (b:=b) (row:=row') (by simp [hrl]) hlive' hrho List.mem_cons_self)
      have hrun:=zgs (P:=P) w t tt e e' i2 hd hi2 b n cap c hbk ad m cp news (fun w' hw=>by have:=hsrc m (Nat.le_refl _) P w' hw;rwa [List.take_of_length_le (by omega)] at this) (hone _ news hel) hroom (by omega)
      refine ⟨_,_,_,by rw [hv];exact hrun,by simpa using hs2,.own (b:=b) (cap:=cap) ?_ ?_ hroom ?_⟩
      · have:=hm.len;show(rho++[b])[rows.length]? = some b;rw [← this];simp
      · show b<(w.setRow b _).heap.size;simp;exact(hm.bnd r b hrho).2
      · have hnew:=setRow_heap w b c (c.toList.take (n*i2.size)++news++c.toList.drop (n*i2.size+news.length)).toArray e' _ hbk
        show 0+cap*sz≤zan (w.setRow b _).heap b
        unfold zan;rw [hnew];simp only [s1,hsz'];omega
    · have hlo:(c.toList.take (n*i2.size)).length=n*i2.size:=by simp;omega
      have hrun:=zgr (P:=P) w t tt e i2 z2 hd hi2 hz2 ⟨b,0,none⟩ n cap (c.toList.take (n*i2.size)) hlo (fun j u hu=>by
          have hj:j<n*i2.size:=by have:=(List.getElem?_eq_some_iff.1 hu).1;omega
          rw [List.getElem?_take,if_pos hj,Array.getElem?_toList] at hu
          rw [zdz,cell?_eq,Nat.zero_add];simp only [DZ,hbk];exact hu) ad m cp news (fun w' hw=>by have:=hsrc m (Nat.le_refl _) P w' hw;rwa [List.take_of_length_le (by omega)] at this) (by omega) (by omega) (growslice_fits (by omega) c1)
      have hge:=grownCap_ge w (n+m) cap e
      have harr:RowFits (iZ M0 rows rho w) row' ((c.toList.take (n*i2.size)).toArray++news.toArray++Builtin.zeroCells z2.cells (grownCap w (n+m) cap e-(n+m))):=by
        refine hjoin _ (fun i hi=>?_) (fun i hi=>?_) (by simp;omega)
        · rw [Array.append_assoc,Array.getElem?_append_left (by simp;omega)]
          simp only [List.getElem?_toArray,List.getElem?_take,hi,if_true,Array.getElem?_toList]
        · rw [Array.append_assoc,Array.getElem?_append_right (by simp;omega),Array.getElem?_append_left (by simp;omega)]
          simp only [List.getElem?_toArray,List.size_toArray,hlo,Nat.add_sub_cancel_left]
      have hs1:=(zkg (wr:=wr) hm)
      have hs2:=hs1.trans (zdm (e:=e) hs1.mem (harr.ext hs1.ext))
      have hs3:=(hs2.kill_last (r:=r) (by simp;omega)).log (wr2:=rows.length :: r :: wr) (fun s hs=>List.mem_cons_of_mem _ hs)
      have hset:(rows++[row']).set r .dead=rows.set r .dead++[row']:=by rw [List.set_append_left _ _ hrl]
      rw [hset] at hs3
      refine ⟨_,_,_,by rw [hv];exact hrun,hs3,.own (zdi hm.len) (by show w.heap.size<(w.drew.alloc _).heap.size;simp) hge ?_⟩
      show 0+grownCap w (n+m) cap e*sz≤zan (w.drew.alloc _).heap w.drew.heap.size
      rw [zb0]
      simp only [Array.size_append,List.size_toArray,size_zeroCells,hzs,hnl',hlo,hsz']
      rw [← Nat.add_mul,← Nat.add_mul]
      have:n+m+(grownCap w (n+m) cap e-(n+m))=grownCap w (n+m) cap e:=by omega
      rw [this];omega
theorem zoa (hg : g.OK) {c:Call} {x y:Operand} {t t1:TypeId} (ho:o.op=.call c) (hb:c.callee=.builtin .append) (hx:c.args.toList=[x,y]) (ht:c.argTypes.toList=[t,t1]) :
    Spec (zjd g st.rows st.wr t t1 (qZ st.tm x) (qZ st.tm y)) fun r=>RunOK g.P st o r:=by
  refine WZ fun B M0 rho a w hm hf=>?_
  have h1:c.args = #[x,y]:=by rw [← Array.toArray_toList (xs:=c.args),hx]
  have h2:c.argTypes = #[t,t1]:=by rw [← Array.toArray_toList (xs:=c.argTypes),ht]
  have exec:∀ {v:Value} {w':World},(Builtin.append_ #[t,t1] o.type #[a.eval x,a.eval y]).run g.P w=.ok v w'→(execOp a.eval o).run g.P w=.ok (.value v) w':=by
    intro v w' h
    rw [zaZ ho hb,h1,h2]
    simp only [builtin,Sem.run_bind,List.map_toArray,List.map_cons,List.map_nil,h,Result.andThen_ok,Sem.run_pure]
  unfold zjd
  refine Spec.bind (wZ hg fun i d z hi hd hz=>?_)
  dsimp only
  split
  · exact Spec.fail
  · rename_i htt
    have htt':t=t1:=by simpa using htt
    subst htt'
    split
    · rename_i e htk
      have hd':=zae htk;subst hd'
      refine Spec.bind (wZ hg fun i2 d2 z2 hi2 hd2 hz2=>?_)
      refine Spec.bind (Spec.ofOpt fun p hp=>?_)
      obtain ⟨m,el⟩:=p
      dsimp only
      split
      · exact Spec.fail
      · rename_i hsz
        have hpos:0<i2.size:=by omega
        split
        · -- onto nil
          rename_i hs
          have hsv:a.eval x=.slice none 0 0:=by have:=hf.eval x;rw [hs] at this;exact this.lit_inv
          refine Spec.bind (Spec.chk fun c1=>Spec.bind (Spec.chk fun c2=>Spec.bind (Spec.chk fun c3=>?_)))
          simp only [decide_eq_true_eq] at c1 c2 c3
          have fin:zl5 el m i2.size→∃nx w' rho' v,(execOp a.eval o).run g.P w=.ok nx w'∧(nx=.value v∨nx=.skip∧v=undef) ∧
              Stp B M0 st.rows rho st.wr w (st.rows++[zlK el]) rho' st.wr w' ∧
              Rd (iZ M0 (st.rows++[zlK el]) rho' w') (.own st.rows.length 0 m i2.size) v:=by
            intro hlen
            have hzs:z2.cells.size=i2.size:=by
              cases Nat.decEq z2.cells.toList.length i2.size with
              | isTrue h=>simpa using h
              | isFalse h=>exact absurd (.inr h) hsz
            obtain ⟨w',rho',v,k1,k2,k3⟩:=zei (wr:=st.wr) (tt:=o.type) hm hd hi2 hz2 hzs hp (hf.eval y) c1 c2 c3 hlen
            exact ⟨_,_,_,_,exec (by rw [hsv];exact k1),.inl rfl,k2,k3⟩
          split
          · rename_i cs
            exact Spec.pure' (fin ((ziJ hp).1 cs rfl))
          · rename_i l
            refine Spec.bind (Spec.chk fun c4=>?_)
            simp only [decide_eq_true_eq] at c4
            have hs1:i2.size=1:=(ziJ hp).2 l rfl
            have:=fin ⟨c4,hs1⟩
            rw [hs1] at this
            exact Spec.pure' this
        · -- onto a row of one's own
          rename_i r n sz hs
          have hxv:=hf.eval x
          rw [hs] at hxv
          refine Spec.bind (Spec.chk fun c1=>Spec.bind (Spec.chk fun c2=>?_))
          simp only [decide_eq_true_eq] at c1 c2
          have hzs:z2.cells.size=i2.size:=by
            cases Nat.decEq z2.cells.toList.length i2.size with
            | isTrue h=>simpa using h
            | isFalse h=>exact absurd (.inr h) hsz
          have fin:∀(row row':Row),st.rows[r]? = some row→row.live=true→row'.live=true→sz=i2.size→zl5 el m i2.size →
              (∀E (c:Array Value) (news:List Value),RowFits E row c→ElRd E el news→n*i2.size≤c.size∧∀arr:Array Value,(∀i,i<n*i2.size→arr[i]? = c[i]?)→(∀i,i<news.length→arr[n*i2.size+i]? = news[i]?)→n*i2.size+news.length≤arr.size→RowFits E row' arr) →
              (∀E (news:List Value),ElRd E el news→∀u∈news,u.oneCell'=true) →
              ∃nx w' rho' v,(execOp a.eval o).run g.P w=.ok nx w'∧(nx=.value v∨nx=.skip∧v=undef) ∧
              Stp B M0 st.rows rho st.wr w (st.rows.set r .dead++[row']) rho' (st.rows.length :: r :: st.wr) w' ∧
              Rd (iZ M0 (st.rows.set r .dead++[row']) rho' w') (.own st.rows.length 0 (n+m) sz) v:=by
            intro row row' hrow hlive hlive' hsz' hlen hfits hone
            obtain ⟨w',rho',v,k1,k2,k3⟩:=zej (wr:=st.wr) (tt:=o.type) hm hd hi2 hz2 hzs hp (hf.eval y) hxv c1 c2 hrow hlive hlive' hsz' hlen hfits hone
            exact ⟨_,_,_,_,exec k1,.inl rfl,k2,k3⟩
          split
          · rename_i cs es hrow
            split
            · rename_i hc
              obtain ⟨c3,c4,c5,c6⟩:=hc
              have c3':sz=i2.size:=c3
              refine Spec.pure' (fin (.flat cs true) (.flat (cs.take (n*sz)++es) true) (EZ hrow (by simp)) rfl rfl c3 (by rw [← c3'];exact c5) (fun E c news hfc hel=>?_) (fun E news hel=>zcG (arr:=news.toArray) hel c6))
              rw [← c3']
              exact ⟨by have:=hfc.1;omega,fun arr k1 k2 k3=>zk3 hfc c4 hel k1 k2 k3⟩
            · exact Spec.fail
          · rename_i l q hrow
            split
            · rename_i hc
              obtain ⟨c3,c4⟩:=hc
              have c4':i2.size=1:=c4
              refine Spec.bind (Spec.chk fun c5=>Spec.bind (Spec.chk fun c6=>?_))
              simp only [decide_eq_true_eq] at c5 c6
              have:=fin (.ints l true) (.ints (l.take n++q) true) (EZ hrow (by simp)) rfl rfl (by rw [c3,c4']) ⟨c6,c4'⟩ (fun E c news hfc hel=>?_) (fun E news hel=>?_)
              · rw [c3] at this;exact Spec.pure' this
              · have hel':news=q.map fun n=>Value.int .i64 n:=hel
                subst hel'
                rw [c4',Nat.mul_one]
                refine ⟨by have:=hfc.1;omega,fun arr k1 k2 k3=>join_ints hfc c5 k1 (fun i hi=>?_) (by simpa using k3)⟩
                rw [k2 i (by simpa using hi)]
                simp [hi,List.getD]
              · have hel':news=q.map fun n=>Value.int .i64 n:=hel
                subst hel'
                intro u hu
                obtain ⟨k,_,rfl⟩:=List.mem_map.1 hu
                rfl
            · exact Spec.fail
          · exact Spec.fail
        · exact Spec.fail
    · exact Spec.fail
end
section
variable {g:Cfg} {n0:Nat→Prop} {st:St} {o:Oper}
theorem copy_run (hg:g.OK) {c:Call} {x y:Operand} {t t1:TypeId} (ho:o.op=.call c) (hb:c.callee=.builtin .copy) (hx:c.args.toList=[x,y]) (ht:c.argTypes.toList=[t,t1]) :
    Spec (copyA g st.rows st.wr t (qZ st.tm x) (qZ st.tm y)) fun r=>RunOK g.P st o r:=by
  refine WZ fun B M0 rho a w hm hf=>?_
  have h1:c.args = #[x,y]:=by rw [← Array.toArray_toList (xs:=c.args),hx]
  have h2:c.argTypes = #[t,t1]:=by rw [← Array.toArray_toList (xs:=c.argTypes),ht]
  have exec:∀ {v:Value} {w':World},(Builtin.copy_ #[t,t1] o.type #[a.eval x,a.eval y]).run g.P w=.ok v w'→(execOp a.eval o).run g.P w=.ok (.value v) w':=by
    intro v w' h
    rw [zaZ ho hb,h1,h2]
    simp only [builtin,Sem.run_bind,List.map_toArray,List.map_cons,List.map_nil,h,Result.andThen_ok,Sem.run_pure]
  unfold copyA
  refine Spec.bind (wZ hg fun i d z hi hd hz=>?_)
  dsimp only
  split
  · rename_i e htk
    have hd':=zae htk;subst hd'
    refine Spec.bind (wZ hg fun i2 d2 z2 hi2 hd2 hz2=>?_)
    refine Spec.bind (Spec.ofOpt fun p hp=>?_)
    obtain ⟨m,el⟩:=p
    dsimp only
    split
    · rename_i r off n sz hs
      have hxv:=hf.eval x
      rw [hs] at hxv
      split
      · rename_i cs es hrow
        split
        · rename_i hc
          obtain ⟨c3,c4,c5,c6⟩:=hc
          have c3':sz=i2.size:=c3
          refine Spec.pure' ?_
          obtain ⟨ad,cp,news,hv,hnl,hel,hsrc⟩:=zeR hm hp (hf.eval y) (show es.length=m*i2.size by rw [← c3'];exact c5)
          have hnl':news.length=m*i2.size:=hnl
          generalize heq:a.eval x=u at hxv
          cases hxv with
          | @own _ _ _ _ b cap hr hsb hcap hbz=>
            have hrho:rho[r]? = some b:=hr
            have hrows:=EZ hrow (by simp)
            obtain ⟨cc,e',hbk,hfit⟩:=hm.row r _ b hrows hrho
            have hcr:CR (iZ M0 st.rows rho w) es news.toArray:=hel
            have hk:Nat.min m n≤m:=Nat.min_le_left _ _
            have hkn:Nat.min m n*sz≤n*sz:=Nat.mul_le_mul_right _ (Nat.min_le_right _ _)
            have hkm:Nat.min m n*sz≤m*sz:=Nat.mul_le_mul_right _ hk
            generalize hkk:Nat.min m n=k at hk hkn hkm
            have hel':es.length=news.length:=by have:=hcr.1;simpa using this
            have hnk:(news.take (k*sz)).length=k*sz:=by simp;rw [hnl',← c3'];omega
            have hek:(es.take (k*sz)).length=k*sz:=by simp;omega
            have hcr':CR (iZ M0 st.rows rho w) (es.take (k*sz)) (news.take (k*sz)).toArray:=by
              refine ⟨by simp only [List.size_toArray];omega,fun i hi=>?_⟩
              have hi':i<k*sz:=by omega
              have e1:(es.take (k*sz)).getD i .junk=es.getD i .junk:=by simp only [List.getD,List.getElem?_take,hi',if_true]
              have e2:((news.take (k*sz)).toArray).getD i undef=news.toArray.getD i undef:=by
                rw [zao,zao];simp only [List.getElem?_toArray,List.getElem?_take,hi',if_true]
              rw [e1,e2];exact hcr.2 i (by omega)
            have hlen:off+(es.take (k*sz)).length≤cs.length:=by omega
            have hfitlen:=hfit.1
            have hsp:=zeG cc (news.take (k*sz)) off (by omega)
            have hfo:=zeS (b:=true) hfit hcr' hlen
            have hs:=zcQ (wr:=st.wr) (c':=(cc.toList.take off++(news.take (k*sz))++cc.toList.drop (off+(news.take (k*sz)).length)).toArray) (row':=.flat (over cs off (es.take (k*sz))) true) hm hrows rfl hrho hbk hsp.1 rfl hfo
            refine ⟨_,_,rho,.int .i64 (k:Int),exec ?_,.inl rfl,hs,.lit _⟩
            have hone:∀u∈news.take (k*sz),u.oneCell'=true:=fun u hu=>zcG (arr:=news.toArray) hcr c6 u (by simpa using List.mem_of_mem_take hu)
            have hst:=run_storeCells_at (P:=g.P) b off e' (news.take (k*sz)) 0 cc w hbk (by omega) hone
            have hsr:=hsrc k hk g.P w rfl
            simp only at hsr
            rw [← c3'] at hsr
            simp only [Nat.add_zero] at hst
            generalize w.setRow b (cc.toList.take off++(news.take (k*sz))++cc.toList.drop (off+(news.take (k*sz)).length)).toArray=W at hst ⊢
            simp only [Builtin.copy_]
            simp only [heq,hv]
            simp [run_underlying hd,Builtin.lenOf,tZ hi2,← c3',hkk]
            rw [hsr]
            simp only [Result.andThen_ok]
            rw [hst]
            rfl
        · exact Spec.fail
      · exact Spec.fail
    · exact Spec.fail
  · exact Spec.fail
theorem zee {B:Nat} {M0:Nat→Prop} {rows:List Row} {rho:List Nat} {wr:List Nat} {w:World} (hm:Mem B M0 rows rho w) {r:Nat} {row row':Row} (hrow:rows[r]? = some row)
    (hs:(∃cs b,row=.flat cs b∧row'=.flat cs false)∨(∃l b,row=.ints l b∧row'=.ints l false)∨(∃k l b,row=.lst k l b∧row'=.lst k l false)) :
    Stp B M0 rows rho wr w (rows.set r row') rho wr w:=by
  have hrl:r<rows.length:=(List.getElem?_eq_some_iff.1 hrow).1
  have hnl:row'.live=false:=by rcases hs with ⟨cs,b,_,rfl⟩ | ⟨l,b,_,rfl⟩ | ⟨k,l,b,_,rfl⟩<;>rfl
  have hal:row.alive=true:=by rcases hs with ⟨cs,b,rfl,_⟩ | ⟨l,b,rfl,_⟩ | ⟨k,l,b,rfl,_⟩<;>rfl
  have hM:∀k,¬zdy M0 rows rho k→¬zdy M0 (rows.set r row') rho k:=by
    rintro k hk (h0 | ⟨s,q,h1,h2,h3⟩)
    · exact hk (.inl h0)
    · rcases zaM hrl h1 with ⟨rfl,rfl⟩ | ⟨_,k1⟩
      · rw [hnl] at h2;cases h2
      · exact hk (.inr ⟨s,q,k1,h2,h3⟩)
  have hext:Ext (iZ M0 rows rho w) (iZ M0 (rows.set r row') rho w):=⟨Nat.le_refl _,fun k _ hk=>⟨rfl,hM k hk⟩,fun _ _ h=>h,fun _ _=>rfl⟩
  refine ⟨hext,⟨hm.hB,hm.m0,by simp [hm.len],hm.bnd,fun s q k h1 h2=>?_,fun s s' q q' k h1 h2 a1 a2 b1 b2=>?_⟩,Below.refl _ _,Nat.le_refl _,fun s hs _=>hs,fun s q k _ h1 h2 h3 _=>⟨rfl,h3,?_⟩⟩
  · rcases zaM hrl h1 with ⟨rfl,rfl⟩ | ⟨_,k1⟩
    · have:=(hm.row s row k hrow h2).ext hext rfl
      rcases hs with ⟨cs,b,rfl,rfl⟩ | ⟨l,b,rfl,rfl⟩ | ⟨k,l,b,rfl,rfl⟩<;>exact this
    · exact(hm.row s q k k1 h2).ext hext rfl
  · have key:∀(s:Nat) (q:Row),(rows.set r row')[s]? = some q→q.alive=true→∃q0:Row,rows[s]? = some q0∧q0.alive=true:=by
      intro s q h ha
      rcases zaM hrl h with ⟨rfl,rfl⟩ | ⟨_,k1⟩
      · exact ⟨row,hrow,hal⟩
      · exact ⟨q,k1,ha⟩
    obtain ⟨q0,g1,g2⟩:=key s q h1 a1
    obtain ⟨q1,g3,g4⟩:=key s' q' h2 a2
    exact hm.inj s s' q0 q1 k g1 g3 g2 g4 b1 b2
  · by_cases hsr:r=s
    · subst hsr
      exact ⟨row',by simp [hrl],by rcases hs with ⟨cs,b,_,rfl⟩ | ⟨l,b,_,rfl⟩ | ⟨k,l,b,_,rfl⟩<;>rfl⟩
    · exact ⟨q,by rw [List.getElem?_set_ne hsr];exact h1,h2⟩
theorem zci {B:Nat} {M0:Nat→Prop} {rows:List Row} {rho:List Nat} {w:World} (hm:Mem B M0 rows rho w) {r b:Nat} {row:Row} (hrow:rows[r]? = some row) (hal:row.alive=true) (hnl:row.live=false)
    (hr:rho[r]? = some b):¬zdy M0 rows rho b:=by
  rintro (h0 | ⟨s,q,h1,h2,h3⟩)
  · have:=hm.m0 b h0
    have:=(hm.bnd r b hr).1
    omega
  · have:=hm.inj r s row q b hrow h1 hal (zbG h2) hr h3
    subst this
    rw [hrow] at h1
    cases h1
    rw [hnl] at h2;cases h2
end
theorem Rd.heap {E:Env} {h':Array Obj} (hs:E.heap.size≤h'.size) (hc:∀b o v,DZ E.heap b o=some v→DZ h' b o=some v)
    (hb:∀b,b<E.heap.size→zan h' b=zan E.heap b) {x:AV} {v:Value} (h:Rd E x v):Rd ⟨h',E.M,E.rho⟩ x v:=by
  have ints:∀ {l:List Int} {a:Option Addr},IntsAt E l a→IntsAt ⟨h',E.M,E.rho⟩ l a:=by
    rintro l a (rfl | ⟨b,o,rfl,hM,hv⟩)
    · exact .inl rfl
    · exact .inr ⟨b,o,rfl,hM,fun i hi=>hc _ _ _ (hv i hi)⟩
  induction h with
  | lit v=>exact .lit v
  | tt=>exact .tt
  | ff=>exact .ff
  | junk v=>exact .junk v
  | ref h1=>exact .ref h1
  | own h1 hs1 hc1 hb1=>exact .own h1 (Nat.lt_of_lt_of_le hs1 hs) hc1 (by show _≤zan h' _;rw [hb _ hs1];exact hb1)
  | sl0=>exact .sl0
  | sl vals hs1 hM hc1 hv _ ih=>exact .sl vals (Nat.lt_of_lt_of_le hs1 hs) hM hc1 (fun i hi=>hc _ _ _ (hv i hi)) ih
  | sq h1 hc1=>exact .sq (ints h1) hc1
  | qel hs1 hM h1=>exact .qel (Nat.lt_of_lt_of_le hs1 hs) hM (fun j hj=>hc _ _ _ (h1 j hj))
  | pd vals hs1 hM hv _ ih=>exact .pd vals (Nat.lt_of_lt_of_le hs1 hs) hM (fun i hi=>hc _ _ _ (hv i hi)) ih
  | agg hl _ ih=>exact .agg hl ih
  | tup hl _ ih=>exact .tup hl ih
  | fn hl _ ih=>exact .fn hl ih
  | wd h1 hc1=>exact .wd (ints h1) hc1
  | ni h1 hc1=>exact .ni (ints h1) hc1
  | zl _ ih=>exact .zl ih
  | lst _ ih=>exact .lst ih
  | rel h1=>exact .rel h1
theorem zkv {o:Obj} (h:o.isCells=false):(match some o with | some (.cells c _ _)=>c.size | _=>0)=0:=by
  cases o<;>first | rfl | cases h
section
variable {B:Nat} {M0:Nat→Prop} {rows rows':List Row} {rho rho' wr wr':List Nat} {w w':World} {l:Nat} {o o':Obj}
theorem zjg (ho:w.heap[l]? = some o) (hc:o.isCells=false) {b i:Nat} {v:Value} (h:DZ w.heap b i=some v):DZ (w.putObj l o').heap b i=some v:=by
  by_cases e:b=l
  · subst e
    unfold DZ at h
    rw [ho] at h
    cases o<;>first | (cases h;done) | (cases hc;done)
  · unfold DZ at *
    rw [World.putObj_heap_other e];exact h
theorem zf7 (ho:w.heap[l]? = some o) (hc:o.isCells=false) (hc':o'.isCells=false) (b:Nat):zan (w.putObj l o').heap b=zan w.heap b:=by
  by_cases e:b=l
  · subst e
    unfold zan
    rw [World.putObj_heap_same (Array.getElem?_eq_some_iff.1 ho).1,ho]
    exact(zkv hc').trans (zkv hc).symm
  · unfold zan
    rw [World.putObj_heap_other e]
theorem Rd.putObj (ho:w.heap[l]? = some o) (hc:o.isCells=false) (hc':o'.isCells=false) {x:AV} {v:Value} (h:Rd (iZ M0 rows rho w) x v):Rd (iZ M0 rows rho (w.putObj l o')) x v:=
  Rd.heap (E:=iZ M0 rows rho w) (h':=(w.putObj l o').heap) (by simp [iZ]) (fun _ _ _ h=>zjg ho hc h) (fun b _=>zf7 ho hc hc' b) h
theorem Fr.putObj {tm:Fm} {tmps:Array Value} (hf:Fr (iZ M0 rows rho w) tm tmps) (ho:w.heap[l]? = some o) (hc:o.isCells=false) (hc':o'.isCells=false) :
    Fr (iZ M0 rows rho (w.putObj l o')) tm tmps:=⟨hf.1,fun i=>(hf.2 i).putObj ho hc hc'⟩
theorem Mem.putObj (hm:Mem B M0 rows rho w) (ho:w.heap[l]? = some o) (hc:o.isCells=false) (hc':o'.isCells=false):Mem B M0 rows rho (w.putObj l o') where
  hB:=by simpa using hm.hB
  m0:=hm.m0
  len:=hm.len
  bnd r b h:=by simpa using hm.bnd r b h
  row r row b h1 h2:=by
    have h:=hm.row r row b h1 h2
    have hne:∀ {c:Array Value} {e:TypeId} {f:Nat × Nat},w.heap[b]? = some (.cells c e f)→b≠l:=by
      intro c e f hb hbl
      subst hbl
      rw [ho] at hb;cases hb;cases hc
    cases row with
    | dead=>exact trivial
    | flat cs lv=>
      obtain ⟨c,e,hb,h3,h4⟩:=h
      exact ⟨c,e,(World.putObj_heap_other (hne hb)).trans hb,h3,fun i hi=>(h4 i hi).putObj ho hc hc'⟩
    | ints l lv=>
      obtain ⟨c,e,hb,h3,h4⟩:=h
      exact ⟨c,e,(World.putObj_heap_other (hne hb)).trans hb,h3,h4⟩
    | lst k l lv=>
      obtain ⟨c,e,hb,h3,h4⟩:=h
      exact ⟨c,e,(World.putObj_heap_other (hne hb)).trans hb,h3,fun i hi=>(h4 i hi).putObj ho hc hc'⟩
  inj:=hm.inj
theorem Stp.putObj (h:Stp B M0 rows rho wr w rows' rho' wr' w') (hm:Mem B M0 rows rho w) (hl:w.heap.size≤l) (ho:w'.heap[l]? = some o) (hc:o.isCells=false) (hc':o'.isCells=false) :
    Stp B M0 rows rho wr w rows' rho' wr' (w'.putObj l o') where
  ext := ⟨by simpa [iZ] using h.ext.size,fun b hb hM=>by
      obtain ⟨h1,h2⟩:=h.ext.keep b hb hM
      have hb':b<w.heap.size:=hb
      exact ⟨(World.putObj_heap_other (show b≠l by omega)).trans h1,h2⟩,h.ext.rho,fun b hb=>(zf7 ho hc hc' b).trans (h.ext.bsz b hb)⟩
  mem:=h.mem.putObj ho hc hc'
  below:=⟨h.below.os,h.below.tape,h.below.output,by simpa using h.below.size,fun k hk=>by
      have:=hm.hB
      exact(World.putObj_heap_other (show k≠l by omega)).trans (h.below.block k hk)⟩
  frm := ⟨h.frm.1,h.frm.2.1,fun r row b h1 h2 h3 h4 h5=>by
      obtain ⟨k1,k2⟩:=h.frm.2.2 r row b h1 h2 h3 h4 h5
      have:=(hm.bnd r b h4).2
      exact ⟨(World.putObj_heap_other (show b≠l by omega)).trans k1,k2⟩⟩
theorem Stp.of_below (hm:Mem B M0 rows rho w) (hb:Below w.heap.size w w'):Stp B M0 rows rho wr w rows rho wr w':=by
  have hext:Ext (iZ M0 rows rho w) (iZ M0 rows rho w'):=⟨hb.size,fun b hlt hM=>⟨hb.block b hlt,hM⟩,fun _ _ h=>h,fun b hlt=>by
    show zan w'.heap b=zan w.heap b
    unfold zan;rw [hb.block b hlt]⟩
  exact ⟨hext,⟨Nat.le_trans hm.hB hb.size,hm.m0,hm.len,fun r b h=>⟨(hm.bnd r b h).1,Nat.lt_of_lt_of_le (hm.bnd r b h).2 hb.size⟩,
    fun r row b h1 h2=>(hm.row r row b h1 h2).ext hext (hb.block b (hm.bnd r b h2).2),hm.inj⟩,hb.mono hm.hB,Nat.le_refl _,fun s h _=>h,fun r row b _ h1 h2 h3 _=>⟨hb.block b (hm.bnd r b h3).2,h3,row,h1,h2⟩⟩
theorem Mem.lt (hm:Mem B M0 rows rho w) {b:Nat} (h:zdy M0 rows rho b):b<w.heap.size:=by
  rcases h with h0 | ⟨r,row,_,_,h3⟩
  · have:=hm.m0 b h0;have:=hm.hB;omega
  · exact(hm.bnd r b h3).2
end
theorem zoo {E:Env} {rows:List Row} {sz n:Nat} {x:AV} {els:List AV ⊕ List Int} {v:Value} (he:zb4 rows sz x=some (n,els)) (hd:GZ 20 x=true) (hv:Rd E x v) :
    ∃a cap,∃vals:Nat→Value,v=.slice a n cap∧(n=0∨∃b o,a=some ⟨b,o,none⟩∧b<E.heap.size∧¬E.M b∧∀i,i<n*sz→DZ E.heap b (o+i)=some (vals i)) ∧
      ∀i,i<n*sz→Rd E (zmU els i) (vals i):=by
  unfold zb4 at he
  split at he
  · cases hd
  · rename_i cs m
    split at he
    · rename_i hl
      cases he
      cases hv with
      | sl0=>exact ⟨_,_,fun _=>undef,rfl,.inl rfl,fun i hi=>(by omega)⟩
      | sl vals hs hM hc hv hr=>exact ⟨_,_,vals,rfl,.inr ⟨_,_,rfl,hs,hM,fun i hi=>hv i (by omega)⟩,fun i hi=>hr i (by omega)⟩
    · cases he
  · rename_i k l
    split at he
    · rename_i hl
      cases he
      have hcl:(hZ k l).length=l.length*sz:=by rw [hl];exact uZ k l
      cases hv with
      | lst hv=>
        generalize l.length=m at hv hcl
        cases hv with
        | sl0=>exact ⟨_,_,fun _=>undef,rfl,.inl rfl,fun i hi=>(by omega)⟩
        | sl vals hs hM hc hv hr=>exact ⟨_,_,vals,rfl,.inr ⟨_,_,rfl,hs,hM,fun i hi=>hv i (by omega)⟩,fun i hi=>hr i (by omega)⟩
    · cases he
  · split at he
    · rename_i l hx
      split at he
      · rename_i hsz
        cases he
        subst hsz
        obtain ⟨a,cap,rfl,hcap,hi⟩:=zbn hx hv
        refine ⟨a,cap,fun i=>.int .i64 (l.getD i 0),rfl,?_,fun i hi=>.lit _⟩
        rcases hi with rfl | ⟨b,o,rfl,hM,hv⟩
        · exact .inl rfl
        · cases l with
          | nil=>exact .inl rfl
          | cons z l=>exact .inr ⟨b,o,rfl,zcj (hv 0 (by simp)),hM,fun i hi=>hv i (by omega)⟩
      · cases he
    · cases he
section
variable {g:Cfg} {n0:Nat→Prop} {st:St} {o:Oper}
def FrzOK (f:Nat):Prop:=
  (∀rows x x' rows' ps,frz f rows x=some (x',rows',ps)→(∀p∈ps,p)→∀B M0 rho wr w v,Mem B M0 rows rho w→Rd (iZ M0 rows rho w) x v →
    Stp B M0 rows rho wr w rows' rho wr w∧Rd (iZ M0 rows' rho w) x' v) ∧
  (∀rows l l' rows' ps,frzL f rows l=some (l',rows',ps)→(∀p∈ps,p)→∀B M0 rho wr w (vals:Nat→Value),Mem B M0 rows rho w→(∀i,i<l.length→Rd (iZ M0 rows rho w) (l.getD i .junk) (vals i)) →
    Stp B M0 rows rho wr w rows' rho wr w∧l'.length=l.length∧∀i,i<l'.length→Rd (iZ M0 rows' rho w) (l'.getD i .junk) (vals i))
theorem zhp : ∀ f, FrzOK f
  | 0=>⟨fun rows x x' rows' ps h=>by simp [frz] at h,fun rows l l' rows' ps h=>by simp [frzL] at h⟩
  | f + 1 => by
    obtain ⟨ih1,ih2⟩:=zhp f
    refine ⟨fun rows x x' rows' ps h hps B M0 rho wr w v hm hr=>?_,fun rows l l' rows' ps h hps B M0 rho wr w vals hm hr=>?_⟩
    · unfold frz at h
      split at h
      · rename_i r off n sz
        cases hr with
        | @own _ _ _ _ b cap hrb hsb hcap hbz=>
          have hrho:rho[r]? = some b:=hrb
          split at h
          · rename_i cs lv hrow
            split at h
            · rename_i hle
              split at h
              · rename_i cs' rows'' ps' hL
                cases h
                have hrows:=EZ hrow (by simp)
                have hs1:=zee (wr:=wr) hm hrows (.inl ⟨cs,lv,rfl,rfl⟩)
                have hrl:r<rows.length:=(List.getElem?_eq_some_iff.1 hrows).1
                have hrow1:(rows.set r (.flat cs false))[r]? = some (.flat cs false):=by simp [hrl]
                obtain ⟨c,e,hbk,hlc,hcs⟩:=hs1.mem.row r _ b hrow1 hrho
                have hbk':w.heap[b]? = some (.cells c e (0,0)):=hbk
                obtain ⟨hs2,hl2,hr2⟩:=ih2 _ _ _ _ _ hL hps B M0 rho wr w (fun i=>c.getD (off+i) undef) hs1.mem (fun i hi=>by
                  have hi':i<n*sz:=by simp at hi;omega
                  have e1:((cs.drop off).take (n*sz)).getD i .junk=cs.getD (off+i) .junk:=by
                    simp only [List.getD,List.getElem?_take,hi',if_true,List.getElem?_drop]
                  rw [e1];exact hcs _ (by omega))
                refine ⟨hs1.trans hs2,.sl (fun i=>c.getD (off+i) undef) hsb ?_ hcap (fun i hi=>?_) hr2⟩
                · have h1:=zci hs1.mem hrow1 rfl rfl hrho
                  exact(hs2.ext.keep b hsb h1).2
                · have hi':i<n*sz:=by rw [hl2] at hi;simp at hi;omega
                  have hoc:off+i<c.size:=by omega
                  show DZ w.heap b (off+i)=_
                  simp [DZ,hbk',hoc,Array.getD]
              · cases h
            · cases h
          · rename_i l lv hrow
            split at h
            · rename_i hc
              obtain ⟨rfl,rfl⟩:=hc
              cases h
              have hnl:n≤l.length:=hps _ (List.mem_cons_self ..)
              have hrows:=EZ hrow (by simp)
              have hs1:=zee (wr:=wr) hm hrows (.inr (.inl ⟨l,lv,rfl,rfl⟩))
              have hrl:r<rows.length:=(List.getElem?_eq_some_iff.1 hrows).1
              have hrow1:(rows.set r (.ints l false))[r]? = some (.ints l false):=by simp [hrl]
              obtain ⟨c,e,hbk,hlc,hcs⟩:=hs1.mem.row r _ b hrow1 hrho
              have hbk':w.heap[b]? = some (.cells c e (0,0)):=hbk
              have hlen:(l.take n).length=n:=by simp;omega
              refine ⟨hs1,?_⟩
              have:=Rd.sq (E:=iZ M0 (rows.set r (.ints l false)) rho w) (l:=l.take n) (a:=some ⟨b,0,none⟩) (cap:=cap) (.inr ⟨b,0,rfl,zci hs1.mem hrow1 rfl rfl hrho,fun i hi=>?_⟩) (by omega)
              · rw [hlen] at this;exact this
              · have hi':i<n:=by omega
                show DZ w.heap b (0+i)=_
                have h1:(l.take n).getD i 0=l.getD i 0:=by simp only [List.getD,List.getElem?_take,hi',if_true]
                rw [h1,Nat.zero_add]
                simp only [DZ,hbk']
                exact hcs i (by omega)
            · cases h
          · rename_i k l lv hrow
            split at h
            · rename_i hc
              obtain ⟨rfl,rfl⟩:=hc
              cases h
              have hnl:n≤l.length:=hps _ (List.mem_cons_self ..)
              have hrows:=EZ hrow (by simp)
              have hs1:=zee (wr:=wr) hm hrows (.inr (.inr ⟨k,l,lv,rfl,rfl⟩))
              have hrl:r<rows.length:=(List.getElem?_eq_some_iff.1 hrows).1
              have hrow1:(rows.set r (.lst k l false))[r]? = some (.lst k l false):=by simp [hrl]
              obtain ⟨c,e,hbk,hlc,hcs⟩:=hs1.mem.row r _ b hrow1 hrho
              have hbk':w.heap[b]? = some (.cells c e (0,0)):=hbk
              have hlen:(l.take n).length=n:=by simp;omega
              refine ⟨hs1,.lst ?_⟩
              rw [hlen]
              have hcl:(hZ k (l.take n)).length=n*k.sz:=by rw [uZ,hlen]
              have hcl2:=uZ k l
              have hmul:n*k.sz≤l.length*k.sz:=Nat.mul_le_mul_right _ hnl
              refine .sl (b:=b) (o:=0) (fun i=>c.getD i undef) hsb (zci hs1.mem hrow1 rfl rfl hrho) hcap (fun i hi=>?_) (fun i hi=>?_)
              · have hoc:i<c.size:=by omega
                show DZ w.heap b (0+i)=_
                simp [DZ,hbk',hoc,Array.getD]
              · rw [zcW]
                have hi':i<n*k.sz:=by omega
                have e1:((hZ k l).take (n*k.sz)).getD i .junk=(hZ k l).getD i .junk:=by
                  simp only [List.getD,List.getElem?_take,hi',if_true]
                rw [e1];exact hcs i (by omega)
            · cases h
          · cases h
      · rename_i r off
        cases hr with
        | @ref _ _ b hrb=>
          have hrho:rho[r]? = some b:=hrb
          split at h
          · rename_i cs lv hrow
            split at h
            · rename_i cs' rows'' ps' hL
              cases h
              have hrows:=EZ hrow (by simp)
              have hs1:=zee (wr:=wr) hm hrows (.inl ⟨cs,lv,rfl,rfl⟩)
              have hrl:r<rows.length:=(List.getElem?_eq_some_iff.1 hrows).1
              have hrow1:(rows.set r (.flat cs false))[r]? = some (.flat cs false):=by simp [hrl]
              obtain ⟨c,e,hbk,hlc,hcs⟩:=hs1.mem.row r _ b hrow1 hrho
              have hbk':w.heap[b]? = some (.cells c e (0,0)):=hbk
              obtain ⟨hs2,hl2,hr2⟩:=ih2 _ _ _ _ _ hL hps B M0 rho wr w (fun i=>c.getD i undef) hs1.mem hcs
              refine ⟨hs1.trans hs2,?_⟩
              have hsb:=(hm.bnd r b hrho).2
              have:=Rd.pd (E:=iZ M0 rows' rho w) (cells:=cs') (off:=off) (b:=b) (o:=0) (fun i=>c.getD i undef) hsb (by
                have h1:=zci hs1.mem hrow1 rfl rfl hrho
                exact(hs2.ext.keep b hsb h1).2) (fun i hi=>by
                  have hoc:i<c.size:=by omega
                  show DZ w.heap b (0+i)=_
                  simp [DZ,hbk',hoc,Array.getD]) hr2
              rw [Nat.zero_add] at this
              exact this
            · cases h
          · cases h
      · split at h
        · rename_i cs' rows'' ps' hL
          cases h
          cases hr with
          | agg hl hrr=>
            obtain ⟨hs2,hl2,hr2⟩:=ih2 _ _ _ _ _ hL hps B M0 rho wr w _ hm hrr
            exact ⟨hs2,.agg (by omega) hr2⟩
        · cases h
      · split at h
        · rename_i cs' rows'' ps' hL
          cases h
          cases hr with
          | tup hl hrr=>
            obtain ⟨hs2,hl2,hr2⟩:=ih2 _ _ _ _ _ hL hps B M0 rho wr w _ hm hrr
            exact ⟨hs2,.tup (by omega) hr2⟩
        · cases h
      · cases h
      · split at h
        · cases h;exact ⟨Stp.refl hm,hr⟩
        · cases h
      · split at h
        · cases h;exact ⟨Stp.refl hm,hr⟩
        · cases h
      · split at h
        · cases h;exact ⟨Stp.refl hm,hr⟩
        · cases h
      · cases h;exact ⟨Stp.refl hm,hr⟩
    · cases l with
      | nil=>
        simp only [frzL,Option.some.injEq,Prod.mk.injEq] at h
        obtain ⟨rfl,rfl,rfl⟩:=h
        exact ⟨Stp.refl hm,rfl,fun i hi=>by simp at hi⟩
      | cons x l=>
        simp only [frzL] at h
        split at h
        · rename_i x1 rows1 ps1 hx
          split at h
          · rename_i l1 rows2 ps2 hl
            simp only [Option.some.injEq,Prod.mk.injEq] at h
            obtain ⟨rfl,rfl,rfl⟩:=h
            obtain ⟨hs1,hr1⟩:=ih1 _ _ _ _ _ hx (fun p hp=>hps p (List.mem_append_left _ hp)) B M0 rho wr w (vals 0) hm (hr 0 (by simp))
            obtain ⟨hs2,hl2,hr2⟩:=ih2 _ _ _ _ _ hl (fun p hp=>hps p (List.mem_append_right _ hp)) B M0 rho wr w (fun i=>vals (i+1)) hs1.mem (fun i hi=>(hr (i+1) (by simpa using hi)).ext hs1.ext)
            refine ⟨hs1.trans hs2,by simp [hl2],fun i hi=>?_⟩
            cases i with
            | zero=>exact hr1.ext hs2.ext
            | succ i=>exact hr2 i (by simpa using hi)
          · cases h
        · cases h
theorem zcx {P : Program} {f : FuncId} {fn : Func} (hf : P.funcs[f]? = some fn) (hb : fn.body.isNone = false) (hn : (fn.name == "runtime.NumGoroutine") = false) (args : Array Value) (w : World) :
    (callFunc f args).run P w=.ok (.enter f args) w:=by
  simp only [callFunc,Sem.run_bind,run_program,Result.andThen_ok,hf,hn,hb,Bool.false_eq_true,if_false,Sem.run_pure]
def zbF (P:Program) (run:zaP):Prop:=∀c st,Spec (run c st) fun r=>AW P c st r
def zkp (P:Program) (rows:List Row) (wr:List Nat) (f:FuncId) (args:List AV) (r:Out):Prop:=
  ∀B M0 rho w (vs:Array Value),Mem B M0 rows rho w→Fa (iZ M0 rows rho w) args vs →
    Calls P f vs w fun e w'=>∃v,e=.returned v∧∃rho',Stp B M0 rows rho wr w r.rows rho' r.wr w'∧Rd (iZ M0 r.rows rho' w') r.v v
theorem M.assoc {α β γ:Type} (m:M α) (f:α→M β) (k:β→M γ):M.bind (M.bind m f) k=M.bind m fun x=>M.bind (f x) k:=by
  funext c s
  unfold M.bind
  cases m c s with
  | need b=>rfl
  | atLoop b st=>rfl
  | fail n=>rfl
  | ok x s1 c1=>
    dsimp only
    cases f x c s1 with
    | need b=>rfl
    | atLoop b st=>rfl
    | fail n=>rfl
    | ok y s2 c2=>
      dsimp only
      cases k y c s2 with
      | need b=>rfl
      | atLoop b st=>rfl
      | fail n=>rfl
      | ok z s3 c3=>simp
theorem Spec.assoc {α β γ:Type} {m:M α} {f:α→M β} {k:β→M γ} {Q:γ→Prop} (h:Spec ((m >>= f) >>= k) Q):Spec (m >>= fun x=>f x >>= k) Q:=by
  have:((m >>= f) >>= k)=(m >>= fun x=>f x >>= k):=M.assoc m f k
  rw [← this];exact h
def zlD (tmps:Array Value):ResultVar→Sem Value
  | .tmp t=>pure (tmps.getD t undef)
  | .cell a t=>do loadVar t (← asAddr (tmps.getD a undef))
theorem zdT (hg:g.OK) {st:St} {B:Nat} {M0:Nat→Prop} {rho:List Nat} {w:World} {tmps:Array Value} (hm:Mem B M0 st.rows rho w) (hf:Fr (iZ M0 st.rows rho w) st.tm tmps) :
    ∀(l:List ResultVar),Spec (za8 g st l) fun vs=>∃us:List Value,vs.length=us.length∧(∀i,i<vs.length→Rd (iZ M0 st.rows rho w) (vs.getD i .junk) (us.getD i undef)) ∧
      (l.mapM (zlD tmps)).run g.P w=.ok us w
  | []=>Spec.pure' ⟨[],rfl,fun i hi=>by simp at hi,rfl⟩
  | .tmp t :: l=>by
    refine Spec.bind ((zdT hg hm hf l).mono fun vs ⟨us,h1,h2,h3⟩=>Spec.pure' ⟨tmps.getD t undef :: us,by simp [h1],fun i hi=>?_,?_⟩)
    · cases i with
      | zero=>exact hf.getD t
      | succ i=>exact h2 i (by simpa using hi)
    · simp only [List.mapM_cons,Sem.run_bind,zlD,Sem.run_pure,Result.andThen_ok,h3]
  | .cell a t :: l=>by
    unfold za8
    have hload:Spec (do let ti ← ty g t;zk5 st.rows ti (st.tm.get a)) fun x=>∃v,Rd (iZ M0 st.rows rho w) x v∧(do loadVar t (← asAddr (tmps.getD a undef)):Sem Value).run g.P w=.ok v w:=by
      let o : Oper := { dst := none, op := .load t (.tmp a), type := 0, pos := "", after := #[], guard := none }
      have hp:=zk6 (g:=g) (n0:=fun _=>True) (st:=st) (o:=o) hg (t:=t) (a:=.tmp a) rfl
      intro c s x s' cs he hcs
      have hn:∀r off,qZ st.tm (.tmp a)=.ref r off→True:=fun _ _ _=>trivial
      obtain ⟨v,hv,hr⟩:=hp hn c s x s' cs he hcs B M0 rho ⟨tmps,[]⟩ w hm hf
      refine ⟨v,hv,?_⟩
      have hr1:=hr w (Keeps.refl _ _ _ _ _)
      have hr2:((Instr.loadAt t (tmps.getD a undef)).run g.P w).andThen (fun x w'=>(pure (.value x):Sem Next).run g.P w')=.ok (.value v) w:=by
        have:(execOp (Act.eval ⟨tmps,[]⟩) o)=(do pure (.value (← Instr.loadAt t (tmps.getD a undef))):Sem Next):=rfl
        rw [this,Sem.run_bind] at hr1
        exact hr1
      have hr3:(Instr.loadAt t (tmps.getD a undef)).run g.P w=.ok v w:=by
        cases hq:(Instr.loadAt t (tmps.getD a undef)).run g.P w with
        | ok x w'=>
          rw [hq] at hr2
          simp only [Result.andThen_ok,Sem.run_pure,Result.ok.injEq,Next.value.injEq] at hr2
          rw [hr2.1,hr2.2]
        | halt h w'=>rw [hq] at hr2;simp at hr2
      generalize tmps.getD a undef=p at hr3
      cases p with
      | pointer ad=>
        cases ad with
        | none=>simp [Instr.loadAt,Instr.sureAddr] at hr3
        | some ad=>
          simp only [Instr.loadAt,Instr.sureAddr,Sem.run_bind,Sem.run_pure,Result.andThen_ok] at hr3
          simp only [asAddr,Sem.run_bind,Sem.run_pure,Result.andThen_ok,hr3]
      | _=>simp [Instr.loadAt,Instr.sureAddr] at hr3
    refine Spec.assoc (m:=ty g t) (f:=fun ti=>zk5 st.rows ti (st.tm.get a)) ?_
    refine Spec.bind (hload.mono fun x ⟨v,hv,hr⟩=>Spec.bind ((zdT hg hm hf l).mono fun vs ⟨us,h1,h2,h3⟩=>Spec.pure' ⟨v :: us,by simp [h1],fun i hi=>?_,?_⟩))
    · cases i with
      | zero=>exact hv
      | succ i=>exact h2 i (by simpa using hi)
    · have hr':(zlD tmps (.cell a t)).run g.P w=.ok v w:=hr
      simp only [List.mapM_cons,Sem.run_bind,Sem.run_pure,hr',Result.andThen_ok,h3]
theorem zgd {P:Program} {fn:Func} {R:Ending→World→Prop} {B:Nat} {M0:Nat→Prop} {rows rows':List Row} {rho rho' wr wr':List Nat} {w:World} {tm:Fm} {tmps:Array Value} (hm:Mem B M0 rows rho w)
    (hleave:∀w2,Stp B M0 rows rho wr w rows' rho' wr' w2→Fr (iZ M0 rows' rho' w2) tm tmps→LeavesIn (fen none) 0 P fn tmps R [] .returning w2) :
    ∀(rs:List Nat) (w':World),Stp B M0 rows rho wr w rows' rho' wr' w'→Fr (iZ M0 rows' rho' w') tm tmps→rs.Nodup →
      (∀r∈rs,w.heap.size≤r∧r<w'.heap.size∧¬zdy M0 rows' rho' r∧w'.heap[r]? = some (.deferred (some [])))→LeavesInM (fen none) 0 P fn tmps R (rs.map markD) .returning w'
  | [],w',hs,hf,_,_=>hleave w' hs hf
  | r :: rs,w',hs,hf,hnd,hall=>by
    obtain ⟨h1,h2,h3,h4⟩:=hall r (by simp)
    obtain ⟨hn1,hn2⟩:=List.nodup_cons.1 hnd
    refine ⟨(by intro h;cases h),.inl ⟨r,w'.putObj r (.deferred none),rfl,run_takeDeferred h4,?_⟩⟩
    refine zgd hm hleave rs _ (hs.putObj hm h1 h4 rfl rfl) (hf.putObj h4 rfl rfl) hn2 (fun s hs'=>?_)
    obtain ⟨k1,k2,k3,k4⟩:=hall s (by simp [hs'])
    exact ⟨k1,by simpa using k2,k3,(World.putObj_heap_other (show s≠r from fun e=>hn1 (by rw [← e];exact hs'))).trans k4⟩
theorem zem (hg : g.OK) {run:zaP} (hrun:zbF g.P run) {f:FuncId} {fn:Func} (hfn:fnOf g.P f=some fn) {c:Code} (hc:fn.body=some c) {args:List AV} (hnt:¬fn.ntmps<args.length) (rows:List Row) (wr:List Nat) :
    Spec (run c ⟨Fm.args fn.ntmps args,rows,wr⟩) fun r=>(r.1=.normal∨r.1=.ret)→Spec (za8 g r.2 fn.results.toList) fun vs=>zkp g.P rows wr f args ⟨one vs,r.2.rows,r.2.wr⟩:=by
  obtain ⟨hF1,hF2,hF3⟩:=hg.F f fn hfn
  refine (hrun c _).mono fun r haw=>?_
  obtain ⟨ex,st'⟩:=r
  intro hex
  have fin : Spec (do let vs ← za8 g st' fn.results.toList;M.pure (⟨one vs,st'.rows,st'.wr⟩:Out)) fun r=>zkp g.P rows wr f args r:=by
        intro cc s x s' cs he hcs B M0 rho w vs hm hf
        have hsz:vs.size=args.length:=hf.1.symm
        refine callsIn_wide.1 (callsIn_of_wp_marks (F:=fen none) (n:=0) hF1 hc trivial ?_ rfl)
        have hfr:Fr (iZ M0 rows rho w) (Fm.args fn.ntmps args) (vs++Array.replicate (fn.ntmps-vs.size) undef):=Fr.args hf hnt
        refine wpIn_mono (haw B M0 w.heap.size rho ⟨vs++Array.replicate (fn.ntmps-vs.size) undef,[]⟩ w none rfl hm hfr (Mk.nil (Nat.le_refl _))) ?_
        rintro e a' w1 ⟨hee,rho',hs1,hf1,hmk⟩
        have hleave : ∀w',Stp B M0 rows rho wr w st'.rows rho' st'.wr w'→Fr (iZ M0 st'.rows rho' w') st'.tm a'.tmps →
            ∃v,(results fn a'.tmps).run g.P w'=.ok v w'∧∃u,Ending.returned v=.returned u∧∃rho',Stp B M0 rows rho wr w x.rows rho' x.wr w'∧Rd (iZ M0 x.rows rho' w') x.v u:=by
          intro w' hs hf'
          have hres := Spec.bind (Q:=fun r:Out=>∃v,(results fn a'.tmps).run g.P w'=.ok v w'∧r.rows=st'.rows∧r.wr=st'.wr∧Rd (iZ M0 st'.rows rho' w') r.v v)
            ((zdT hg hs.mem hf' fn.results.toList).mono fun vs ⟨us,h1,h2,h3⟩=>Spec.pure' (x:=(⟨one vs,st'.rows,st'.wr⟩:Out)) (Q:=fun r:Out=>∃v,(results fn a'.tmps).run g.P w'=.ok v w'∧r.rows=st'.rows∧r.wr=st'.wr∧Rd (iZ M0 st'.rows rho' w') r.v v) (by
              have hm3:(fn.results.mapM (zlD a'.tmps)).run g.P w'=.ok us.toArray w':=by
                rw [← Array.toArray_toList (xs:=fn.results),List.mapM_toArray,Sem.run_map,h3];rfl
              have hres:results fn a'.tmps=(do let vs ← fn.results.mapM (zlD a'.tmps);pure (if h:vs.size=1 then vs[0] else .tuple vs)):=rfl
              rw [hres,Sem.run_bind,hm3]
              simp only [Result.andThen_ok,Sem.run_pure]
              by_cases h1':us.length=1
              · obtain ⟨u,rfl⟩:=List.length_eq_one_iff.1 h1'
                obtain ⟨v,rfl⟩:=List.length_eq_one_iff.1 (h1.trans h1')
                exact ⟨u,by simp,by simp,by simp,h2 0 (by simp)⟩
              · refine ⟨.tuple us.toArray,by simp [h1'],by simp,by simp,?_⟩
                have hone:one vs=.tup vs:=by
                  cases vs with
                  | nil=>rfl
                  | cons v vs=>cases vs with
                    | nil=>exact absurd h1.symm h1'
                    | cons _ _=>rfl
                show Rd _ (one vs) _
                rw [hone]
                refine .tup (by simpa using h1) fun i hi=>?_
                have e2:us.toArray.getD i undef=us.getD i undef:=by simp [List.getD]
                rw [e2];exact h2 i hi))
          obtain ⟨v,k1,k2,k3,k4⟩:=hres cc s x s' cs he hcs
          have hfinal:∃u,Ending.returned v=.returned u∧∃rho',Stp B M0 rows rho wr w x.rows rho' x.wr w'∧Rd (iZ M0 x.rows rho' w') x.v u:=by
            refine ⟨v,rfl,rho',?_,?_⟩
            · rw [k2,k3];exact hs
            · rw [k2];exact k4
          exact ⟨v,k1,hfinal⟩
        obtain ⟨_,rs,hrs,hnd,hall⟩:=hmk
        have hfin:=zgd (P:=g.P) (fn:=fn) (R:=fun e w'=>∃v,e=.returned v∧∃rho',Stp B M0 rows rho wr w x.rows rho' x.wr w'∧Rd (iZ M0 x.rows rho' w') x.v v) hm (fun w2 h1 h2=>hleave w2 h1 h2) rs w1 hs1 hf1 hnd hall
        rw [← hrs] at hfin
        subst hee
        rcases hex with rfl | rfl
        · exact hfin
        · exact hfin
  intro cc s vs s' cs he hcs
  refine fin cc s ⟨one vs,st'.rows,st'.wr⟩ s' cs ?_ hcs
  show M.bind _ _ cc s=_
  unfold M.bind
  rw [he]
  simp [M.pure]
theorem use_spec {f:FuncId}:Spec (useA g f) fun b=>b=true→g.has.contains f=true:=by
  unfold useA
  split
  · exact Spec.pure' fun h=>(by cases h)
  · rename_i h
    split
    · exact Spec.pure' fun _=>h
    · refine Spec.bind (Spec.nextLoop fun o=>?_)
      cases o with
      | some _=>exact Spec.pure' fun _=>h
      | none=>exact Spec.pure' fun h=>(by cases h)
theorem call_spec (hg:g.OK) {run:zaP} (hrun:zbF g.P run) (rows:List Row) (wr:List Nat) (f:FuncId) (args:List AV) :
    Spec (callA g run rows wr f args) fun r=>zkp g.P rows wr f args r:=by
  unfold callA
  refine Spec.bind (Spec.ofOpt fun fn hfn=>?_)
  obtain ⟨hF1,hF2,hF3⟩:=hg.F f fn hfn
  refine Spec.bind (use_spec.mono fun use huse=>?_)
  split
  · rename_i hu
    have hhas:=huse hu
    refine Spec.bind (Spec.ofOpt fun p hp=>?_)
    obtain ⟨as,rows',fps⟩:=p
    dsimp only
    refine Spec.bind (Spec.tellAll fun hfps=>?_)
    split
    · rename_i hdata
      refine Spec.bind ((hg.C f as hhas hdata).mono fun v hfc=>Spec.pure' ?_)
      intro B M0 rho w vs hm hf
      obtain ⟨hs,hl,hr⟩:=(zhp 40).2 rows args as rows' fps hp hfps B M0 rho wr w (fun i=>vs.getD i undef) hm hf.2
      have hall:∀i,i<as.length→Rd ⟨w.heap,zdy M0 rows' rho,[]⟩ (as.getD i .junk) (vs.getD i undef):=fun i hi=>
        Rd.data (E:=iZ M0 rows' rho w) (E':=⟨w.heap,zdy M0 rows' rho,[]⟩) rfl (fun _ h=>h) (hr i hi) 20 (List.all_eq_true.1 hdata _ (by simp [List.getD,hi]))
      have hMb:∀b,zdy M0 rows' rho b→b<w.heap.size:=by
        rintro b (h0 | ⟨r,row,_,_,h3⟩)
        · have:=hm.m0 b h0;have:=hm.hB;omega
        · exact(hs.mem.bnd r b h3).2
      refine (hfc (zdy M0 rows' rho) w vs hMb (by rw [hl];exact hf.1) hall).mono ?_
      rintro e w' ⟨u,he,hb,hu⟩
      have hext:Ext (iZ M0 rows' rho w) (iZ M0 rows' rho w'):=⟨hb.size,fun b hlt hM=>⟨hb.block b hlt,hM⟩,fun _ _ h=>h,fun b hlt=>by
        show zan w'.heap b=zan w.heap b
        unfold zan;rw [hb.block b hlt]⟩
      have hmem:Mem B M0 rows' rho w':=⟨Nat.le_trans hm.hB hb.size,hm.m0,hs.mem.len,fun r b h=>⟨(hs.mem.bnd r b h).1,Nat.lt_of_lt_of_le (hs.mem.bnd r b h).2 hb.size⟩,
        fun r row b h1 h2=>(hs.mem.row r row b h1 h2).ext hext (hb.block b (hs.mem.bnd r b h2).2),hs.mem.inj⟩
      have hstep:Stp B M0 rows' rho wr w rows' rho wr w':=⟨hext,hmem,hb.mono hm.hB,Nat.le_refl _,fun s h _=>h,fun r row b _ h1 h2 h3 _=>⟨hb.block b (hs.mem.bnd r b h3).2,h3,row,h1,h2⟩⟩
      refine ⟨u,he,rho,hs.trans hstep,Rd.ext (E:=⟨w'.heap,zdy M0 rows' rho,[]⟩) (E':=iZ M0 rows' rho w') ⟨Nat.le_refl _,fun _ _ h=>⟨rfl,h⟩,fun r b h=>(by cases h),fun _ _=>rfl⟩ hu⟩
    · exact Spec.fail
  · refine Spec.bind (Spec.ofOpt fun c hc=>?_)
    split
    · exact Spec.fail
    · rename_i hnt
      refine Spec.bind ((zem hg hrun hfn hc hnt rows wr).mono fun r hr=>?_)
      obtain ⟨ex,st'⟩:=r
      dsimp only at hr ⊢
      have fin:(ex=.normal∨ex=.ret)→Spec (do let vs ← za8 g st' fn.results.toList;M.pure (⟨one vs,st'.rows,st'.wr⟩:Out)) fun r=>zkp g.P rows wr f args r:=fun hex=>
        Spec.bind ((hr hex).mono fun vs h=>Spec.pure' h)
      split
      · exact Spec.fail
      · rename_i hne
        refine fin ?_
        cases ex with
        | normal=>exact .inl rfl
        | ret=>exact .inr rfl
        | exit id=>exact absurd rfl (hne id)
end
def Le (x y:AV):Prop:=∀(E:Env) (v:Value),Rd E x v→Rd E y v
theorem Le.refl (x:AV):Le x x:=fun _ _ h=>h
theorem Le.trans {x y z:AV} (h:Le x y) (k:Le y z):Le x z:=fun E v hr=>k E v (h E v hr)
inductive LeL:List AV→List AV→Prop
  | nil:LeL [] []
  | cons {x y:AV} {l q:List AV} (h:Le x y) (k:LeL l q):LeL (x :: l) (y :: q)
theorem LeL.refl:∀l,LeL l l
  | []=>.nil
  | x :: l=>.cons (Le.refl x) (LeL.refl l)
theorem LeL.length {l q:List AV} (h:LeL l q):l.length=q.length:=by
  induction h with
  | nil=>rfl
  | cons _ _ ih=>simp [ih]
theorem LeL.getD {l q:List AV} (h:LeL l q):∀i,Le (l.getD i .junk) (q.getD i .junk):=by
  induction h with
  | nil=>intro i;exact Le.refl _
  | cons h _ ih=>
    intro i
    cases i with
    | zero=>exact h
    | succ i=>simpa using ih i
theorem LeL.append {a b c d:List AV} (h:LeL a b) (k:LeL c d):LeL (a++c) (b++d):=by
  induction h with
  | nil=>exact k
  | cons h _ ih=>exact .cons h ih
theorem Le.sl {l q:List AV} {n:Nat} (h:LeL l q):Le (.sl l n) (.sl q n):=by
  intro E v hr
  cases hr with
  | sl0=>exact .sl0
  | sl vals hs hM hc hv hc2=>exact .sl vals hs hM hc (fun i hi=>hv i (by rw [h.length];exact hi)) fun i hi=>h.getD i _ _ (hc2 i (by rw [h.length];exact hi))
theorem cells_int (l:List Int):hZ (.int .i64) l=l.map fun n=>AV.lit (.int .i64 n):=by
  induction l with
  | nil=>rfl
  | cons n l ih=>simp only [hZ,EK.cells,List.map_cons,List.cons_append,List.nil_append,ih]
theorem zjG (e:EK) (l:List e.ty):Le (.lst e l) (slA e l):=by
  unfold slA
  split
  · intro E v h
    cases h with
    | lst h=>
      rename_i l
      have hcs:=cells_int l
      generalize hN:List.length l=N at h
      cases h with
      | @sl0 _ a cap=>
        have:l=[]:=List.eq_nil_of_length_eq_zero hN
        subst this
        exact .sq (.inl rfl) (Nat.zero_le _)
      | @sl _ _ b o cap vals hs hM hc hv hr=>
        rw [hcs] at hv hr
        have:Rd E (.sq l) (.slice (some ⟨b,o,none⟩) l.length cap):=.sq (.inr ⟨b,o,rfl,hM,fun i hi=>by
          have h1:=hv i (by simpa using hi)
          have h2:=hr i (by simpa using hi)
          have h3:(l.map fun n=>AV.lit (.int .i64 n)).getD i .junk=.lit (.int .i64 (l.getD i 0)):=by simp [List.getD,hi]
          rw [h3] at h2
          rw [h1,h2.lit_inv]⟩) (by omega)
        rw [hN] at this;exact this
  · exact Le.refl _
theorem castL_spec {k k':EK} {l:List k.ty}:Spec (castL k k' l) fun l'=>l'.length=l.length∧hZ k' l'=hZ k l∧Le (.lst k l) (.lst k' l'):=by
  unfold castL
  split
  · rename_i h
    subst h
    exact Spec.pure' ⟨rfl,rfl,Le.refl _⟩
  · exact Spec.fail
theorem zhi {k:EK} (hk:∀cs,Spec (k.dec cs) fun x=>LeL cs (k.cells x)):∀n cs,Spec (decN k.dec k.sz n cs) fun l=>l.length=n∧LeL cs (hZ k l)
  | 0,cs=>by
    unfold decN
    split
    · exact Spec.pure' ⟨rfl,.nil⟩
    · exact Spec.fail
  | n+1,cs=>by
    unfold decN
    refine Spec.bind ((hk _).mono fun x hx=>Spec.bind ((zhi hk n _).mono fun l hl=>Spec.pure' ⟨by simp [hl.1],?_⟩))
    have:=hx.append hl.2
    rw [List.take_append_drop] at this
    exact this
theorem zjp {s d:AV}:Spec (zjo s d) fun z=>LeL [s,d] (EK.cells .whole z):=by
  unfold zjo
  refine Spec.bind (Spec.ofOpt fun b hb=>?_)
  split
  · refine Spec.bind (Spec.tellB fun ht=>Spec.pure' ?_)
    exact .cons (fun E u hu=>by rw [hu.asB hb,ht];exact .lit _) (.cons (Le.refl _) .nil)
  · refine Spec.bind (Spec.ofOpt fun q hq=>?_)
    split
    · refine Spec.bind (Spec.tellB fun ht=>Spec.pure' ?_)
      refine .cons (fun E u hu=>by rw [hu.asB hb,ht];exact .lit _) (.cons (fun E u hu=>?_) .nil)
      obtain ⟨a,cap,rfl,hc,hi⟩:=zbn hq hu
      have:Rd E (.wd 0) (.slice a (digs (0:Int).natAbs).length cap):=.wd (.inl rfl) (Nat.zero_le _)
      exact this
    · exact Spec.fail
theorem zbH:∀(k:EK) (cs:List AV),Spec (k.dec cs) fun x=>LeL cs (k.cells x)
  | .int ik,cs=>by
    unfold EK.dec
    split
    · split
      · rename_i h;subst h;exact Spec.pure' (LeL.refl _)
      · exact Spec.fail
    · exact Spec.fail
  | .bool,cs=>by
    unfold EK.dec
    split
    · exact Spec.ofOpt fun b hb=>.cons (fun E u hu=>by rw [hu.asB hb];exact .lit _) .nil
    · exact Spec.fail
  | .str,cs=>by
    unfold EK.dec
    split
    · exact Spec.pure' (LeL.refl _)
    · exact Spec.fail
  | .whole,cs=>by
    unfold EK.dec
    split
    · exact zjp
    · exact Spec.fail
  | .un,cs=>by
    unfold EK.dec
    split
    · exact Spec.pure' .nil
    · exact Spec.fail
  | .pr a b,cs=>by
    unfold EK.dec
    refine Spec.bind ((zbH a _).mono fun x hx=>Spec.bind ((zbH b _).mono fun y hy=>Spec.pure' ?_))
    have:=hx.append hy
    rw [List.take_append_drop] at this
    exact this
  | .sl e, cs=>by
    unfold EK.dec
    split
    · split
      · refine castL_spec.mono fun l' h=>.cons (h.2.2.trans (zjG _ _)) .nil
      · refine (zhi (zbH e) _ _).mono fun l h=>.cons (Le.trans (fun E v hv=>?_) (zjG _ _)) .nil
        have:=Le.sl h.2 E v hv
        rw [← h.1] at this
        exact .lst this
      · refine Spec.pure' (.cons (Le.trans (fun E v hv=>?_) (zjG _ _)) .nil)
        rw [hv.lit_inv]
        exact .lst .sl0
      · split
        · refine Spec.ofOpt fun l hl=>.cons (fun E v hv=>?_) .nil
          obtain ⟨a,cap,rfl,hc,hi⟩:=zbn hl hv
          exact .sq hi hc
        · exact Spec.fail
    · exact Spec.fail
theorem zok {k:EK} {x:AV} (hk:k≠.int .i64):Spec (dataL k x) fun l=>Le x (.lst k l):=by
  refine (zbH (.sl k) [x]).mono fun l h=>?_
  have e:EK.cells (.sl k) l=[.lst k l]:=by
    unfold EK.cells slA
    split
    · exact absurd rfl hk
    · rfl
  rw [e] at h
  exact h.getD 0
theorem CR.le {E:Env} {cs ds:List AV} {arr:Array Value} (h:CR E cs arr) (k:LeL cs ds):CR E ds arr:=
  ⟨by rw [← k.length];exact h.1,fun i hi=>k.getD i _ _ (h.2 i (by rw [k.length];exact hi))⟩
section
variable {g:Cfg} {n0:Nat→Prop} {st:St} {o:Oper}
theorem zfS {t e:TypeId} {k:EK} (h:elemK g t=some (e,k)):∃i d z,g.P.info? t=some i∧g.P.underlying t=some (.slice e)∧i.zero=some z∧d=(.slice e:TypeDesc)∧k≠.int .i64:=by
  unfold elemK at h
  split at h
  · rename_i ti hti
    obtain ⟨i,d,z,h1,h2,h3,rfl⟩:=zh2 hti
    split at h
    · rename_i e' htk
      have hd':=zae htk
      subst hd'
      split at h
      · split at h
        · cases h
        · rename_i hne
          cases h
          exact ⟨i,_,z,h1,h2,h3,rfl,hne⟩
      · cases h
    · cases h
  · cases h
theorem fits_lst {E:Env} {k:EK} {cs:List AV} {l:List k.ty} {arr:Array Value} {b:Bool} (h:CR E cs arr) (hl:LeL cs (hZ k l)):RowFits E (.lst k l b) arr:=
  ⟨by have:=hl.length;have:=h.1;omega,(h.le hl).2⟩
theorem slA_cell (e:EK) (l:List e.ty):zcI (slA e l)=true:=by
  unfold slA
  split<;>rfl
theorem zex:∀(k:EK) (x:k.ty),(k.cells x).all zcI=true
  | .int _,_=>rfl
  | .bool,_=>rfl
  | .str,_=>rfl
  | .whole,_=>rfl
  | .un,_=>rfl
  | .pr a b,p=>by
    unfold EK.cells
    rw [List.all_append,zex a,zex b];rfl
  | .sl e,l=>by
    unfold EK.cells
    rw [List.all_cons,slA_cell];rfl
theorem zga (k:EK):∀l:List k.ty,(hZ k l).all zcI=true
  | []=>rfl
  | x :: l=>by
    unfold hZ
    rw [List.all_append,zex k x,zga k l];rfl
theorem zql {B:Nat} {M0:Nat→Prop} {rows:List Row} {rho:List Nat} {wr:List Nat} {w:World} (hm:Mem B M0 rows rho w) {r:Nat} {row row':Row} (hrow:rows[r]? = some row)
    (hl:row'.live=row.live) (ha:row'.alive=row.alive) (hs:∀(E:Env) (b:Nat),RowAt E row b→RowAt E row' b):Stp B M0 rows rho wr w (rows.set r row') rho wr w:=by
  have hrl:r<rows.length:=(List.getElem?_eq_some_iff.1 hrow).1
  have hM:∀k,¬zdy M0 rows rho k→¬zdy M0 (rows.set r row') rho k:=by
    rintro k hk (h0 | ⟨s,q,h1,h2,h3⟩)
    · exact hk (.inl h0)
    · rcases zaM hrl h1 with ⟨rfl,rfl⟩ | ⟨_,k1⟩
      · exact hk (.inr ⟨s,row,hrow,by rw [← hl];exact h2,h3⟩)
      · exact hk (.inr ⟨s,q,k1,h2,h3⟩)
  have hext:Ext (iZ M0 rows rho w) (iZ M0 (rows.set r row') rho w):=⟨Nat.le_refl _,fun k _ hk=>⟨rfl,hM k hk⟩,fun _ _ h=>h,fun _ _=>rfl⟩
  refine ⟨hext,⟨hm.hB,hm.m0,by simp [hm.len],hm.bnd,fun s q k h1 h2=>?_,fun s s' q q' k h1 h2 a1 a2 b1 b2=>?_⟩,Below.refl _ _,Nat.le_refl _,fun s hs _=>hs,fun s q k _ h1 h2 h3 _=>⟨rfl,h3,?_⟩⟩
  · rcases zaM hrl h1 with ⟨rfl,rfl⟩ | ⟨_,k1⟩
    · exact hs _ _ ((hm.row s row k hrow h2).ext hext rfl)
    · exact(hm.row s q k k1 h2).ext hext rfl
  · have key:∀(s:Nat) (q:Row),(rows.set r row')[s]? = some q→q.alive=true→∃q0:Row,rows[s]? = some q0∧q0.alive=true:=by
      intro s q h hal
      rcases zaM hrl h with ⟨rfl,rfl⟩ | ⟨_,k1⟩
      · exact ⟨row,hrow,by rw [← ha];exact hal⟩
      · exact ⟨q,k1,hal⟩
    obtain ⟨q0,g1,g2⟩:=key s q h1 a1
    obtain ⟨q1,g3,g4⟩:=key s' q' h2 a2
    exact hm.inj s s' q0 q1 k g1 g3 g2 g4 b1 b2
  · by_cases hsr:r=s
    · subst hsr
      rw [hrow] at h1
      cases h1
      exact ⟨row',by simp [hrl],by rw [ha];exact h2⟩
    · exact ⟨q,by rw [List.getElem?_set_ne hsr];exact h1,h2⟩
theorem zl8 (hg : g.OK) {c:Call} {x y:Operand} {t t1:TypeId} (hold:Spec (zjd g st.rows st.wr t t1 (qZ st.tm x) (qZ st.tm y)) fun r=>RunOK g.P st o r)
    (ho:o.op=.call c) (hb:c.callee=.builtin .append) (hx:c.args.toList=[x,y]) (ht:c.argTypes.toList=[t,t1]) :
    Spec (zl7 g st.rows st.wr t t1 (qZ st.tm x) (qZ st.tm y)) fun r=>RunOK g.P st o r:=by
  unfold zl7
  split
  · exact hold
  · rename_i e k hek
    obtain ⟨i,d,z,hi,hd,hz,_,hk⟩:=zfS hek
    split
    · exact Spec.fail
    · rename_i htt
      have htt':t=t1:=by simpa using htt
      subst htt'
      refine WZ fun B M0 rho a w hm hf=>?_
      have h1:c.args = #[x,y]:=by rw [← Array.toArray_toList (xs:=c.args),hx]
      have h2:c.argTypes = #[t,t]:=by rw [← Array.toArray_toList (xs:=c.argTypes),ht]
      have exec:∀ {v:Value} {w':World},(Builtin.append_ #[t,t] o.type #[a.eval x,a.eval y]).run g.P w=.ok v w'→(execOp a.eval o).run g.P w=.ok (.value v) w':=by
        intro v w' h
        rw [zaZ ho hb,h1,h2]
        simp only [builtin,Sem.run_bind,List.map_toArray,List.map_cons,List.map_nil,h,Result.andThen_ok,Sem.run_pure]
      refine Spec.bind (wZ hg fun i2 d2 z2 hi2 hd2 hz2=>?_)
      dsimp only
      split
      · exact Spec.fail
      · rename_i hsz
        have hpos:0<i2.size:=by omega
        have hsk:i2.size=k.sz:=by
          cases Nat.decEq i2.size k.sz with
          | isTrue h=>exact h
          | isFalse h=>exact absurd (.inr (.inr h)) hsz
        have hzs:z2.cells.size=i2.size:=by
          cases Nat.decEq z2.cells.toList.length i2.size with
          | isTrue h=>simpa using h
          | isFalse h=>exact absurd (.inr (.inl h)) hsz
        refine Spec.bind (Spec.ofOpt fun p hp=>?_)
        obtain ⟨x1,rows1,ps⟩:=p
        dsimp only
        refine Spec.bind (Spec.tellAll fun hps=>?_)
        obtain ⟨hs0,hy1⟩:=(zhp 40).1 _ _ _ _ _ hp hps B M0 rho st.wr w _ hm (hf.eval y)
        have hx1:=(hf.eval x).ext hs0.ext
        refine Spec.bind ((zok hk).mono fun xs hxs=>?_)
        have hy2:=hxs _ _ hy1
        have hel:zb4 rows1 i2.size (.lst k xs)=some (xs.length,.inl (hZ k xs)):=by simp [zb4,hsk]
        have hlen:zl5 (.inl (hZ k xs)) xs.length i2.size:=by
          show(hZ k xs).length=xs.length*i2.size
          rw [hsk];exact uZ k xs
        split
        · -- onto nil
          rename_i hs
          have hsv:a.eval x=.slice none 0 0:=by have:=hf.eval x;rw [hs] at this;exact this.lit_inv
          refine Spec.bind (Spec.chk fun c1=>Spec.bind (Spec.chk fun c2=>Spec.bind (Spec.chk fun c3=>Spec.pure' ?_)))
          simp only [decide_eq_true_eq] at c1 c2 c3
          obtain ⟨w',rho',v,k1,k2,k3⟩:=zei (wr:=st.wr) (tt:=o.type) hs0.mem hd hi2 hz2 hzs hel hy2 c1 c2 c3 hlen
          have hst:=hs0.trans k2
          have hrow:(rows1++[zlK (.inl (hZ k xs))])[rows1.length]? = some (.flat (hZ k xs) true):=by simp [zlK]
          have hret:=zql (wr:=st.wr) (row':=.lst k xs true) hst.mem hrow rfl rfl (fun E b hat=>hat)
          have hset:(rows1++[zlK (.inl (hZ k xs))]).set rows1.length (.lst k xs true)=rows1++[.lst k xs true]:=by
            rw [List.set_append_right _ _ (Nat.le_refl _)];simp
          rw [hset] at hret
          exact ⟨_,_,_,_,exec (by rw [hsv];exact k1),.inl rfl,hst.trans hret,k3.ext hret.ext⟩
        · -- onto a row of one's own
          rename_i r n sz hs
          have hxv:=hx1
          rw [hs] at hxv
          refine Spec.bind (Spec.chk fun c1=>Spec.bind (Spec.chk fun c2=>?_))
          simp only [decide_eq_true_eq] at c1 c2
          split
          · rename_i k' l hrow
            split
            · rename_i hsz2
              refine Spec.bind (Spec.chk fun c3=>?_)
              simp only [decide_eq_true_eq] at c3
              refine Spec.bind (castL_spec.mono fun l' hl'=>Spec.pure' ?_)
              obtain ⟨g1,g2,_⟩:=hl'
              have hl1:l'.length=n:=by rw [g1];simp;omega
              have hrowf:=EZ hrow (by simp)
              have hkk:n*k.sz=n*k'.sz:=by
                have e1:=uZ k l'
                have e2:=uZ k' (l.take n)
                rw [g2,e2] at e1
                rw [hl1] at e1
                have:(l.take n).length=n:=by simp;omega
                rw [this] at e1;omega
              obtain ⟨w',rho',v,k1,k2,k3⟩:=zej (wr:=st.wr) (tt:=o.type) hs0.mem hd hi2 hz2 hzs hel hy2 hxv c1 c2 (row':=.lst k (l'++xs) true) hrowf rfl rfl hsz2 hlen (fun E cc news hfc hel=>by
                have hfl:RowFits E (.flat (hZ k' l) true) cc:=hfc
                have hbase:=uZ k' l
                have hmul:n*k'.sz≤l.length*k'.sz:=Nat.mul_le_mul_right _ c3
                refine ⟨by have:=hfl.1;rw [hsk];omega,fun arr j1 j2 j3=>?_⟩
                have:=zk3 hfl (k:=n*i2.size) (by rw [hsk];omega) hel j1 j2 j3
                have e3:(hZ k' l).take (n*i2.size)++hZ k xs=hZ k (l'++xs):=by
                  rw [zjh,g2,zcW,hsk,hkk]
                rw [e3] at this
                exact this) (fun E news hel=>zcG (arr:=news.toArray) hel (zga k xs))
              exact ⟨_,_,_,_,exec k1,.inl rfl,hs0.trans k2,k3⟩
            · exact Spec.fail
          · exact Spec.fail
        · exact Spec.fail
theorem makeT_run (hg:g.OK) {t:TypeId} {l c:Operand} (hold:Spec (zoz st.wr (zd6 g st.rows t (qZ st.tm l) (qZ st.tm c))) fun r=>RunOK g.P st o r) (ho:o.op=.makeSlice t l c) :
    Spec (zoz st.wr (makeT g st.rows t (qZ st.tm l) (qZ st.tm c))) fun r=>RunOK g.P st o r:=by
  unfold makeT
  split
  · exact hold
  · rename_i e k hek
    obtain ⟨i,d,z,hi,hd,hz,_,hk⟩:=zfS hek
    refine WZ fun B M0 rho a w hm hf=>zcK ?_
    refine Spec.bind (wZ hg fun i2 d2 z2 hi2 hd2 hz2=>?_)
    refine Spec.bind (Spec.ofOpt fun nl hnl=>Spec.bind (Spec.ofOpt fun nc hnc=>?_))
    refine Spec.bind (Spec.chk fun c1=>Spec.bind (Spec.chk fun c2=>Spec.bind (Spec.chk fun c3=>Spec.bind (Spec.chk fun c4=>?_))))
    simp only [decide_eq_true_eq] at c1 c2 c3 c4
    obtain ⟨kl,hkl⟩:=(hf.eval l).asI hnl
    obtain ⟨kc,hkc⟩:=(hf.eval c).asI hnc
    have wl:IntKind.i64.wrap nl=nl:=zbm (by simp [inR,IntKind.min,IntKind.max,IntKind.signed,IntKind.bits];omega)
    have wc:IntKind.i64.wrap nc=nc:=zbm (by simp [inR,IntKind.min,IntKind.max,IntKind.signed,IntKind.bits];omega)
    have hp48:(2:Int) ^ 48=281474976710656:=by decide
    dsimp only
    split
    · exact Spec.fail
    · rename_i hsz
      have hpos:0<i2.size:=by omega
      have hsk:i2.size=k.sz:=by
        cases Nat.decEq i2.size k.sz with
        | isTrue h=>exact h
        | isFalse h=>exact absurd (.inr (.inr h)) hsz
      have hzs:z2.cells.size=i2.size:=by
        cases Nat.decEq z2.cells.toList.length i2.size with
        | isTrue h=>simpa using h
        | isFalse h=>exact absurd (.inr (.inl h)) hsz
      have hrun:(Instr.makeSlice t (a.eval l) (a.eval c)).run g.P w =
          .ok (.slice (some ⟨w.heap.size,0,none⟩) nl.toNat nc.toNat) (w.alloc (.cells ((Array.range (nc.toNat*i2.size)).map fun(k:Nat)=>z2.cells[k % z2.cells.size]!) e)):=by
        have h1:¬((decide (nc<0)||decide ((i2.bytes:Int)*nc > 2 ^ 48)||decide (nl<0)||decide (nl > nc))=true):=by
          simp only [Bool.or_eq_true,decide_eq_true_eq,hp48];omega
        simp only [Instr.makeSlice,Sem.run_bind,run_underlying hd,Result.andThen_ok,asInt,hkl,hkc,asIntOf,Sem.run_pure,zbT hi2,wl,wc]
        rw [if_neg h1]
        simp only [Sem.run_bind,run_askRoom,Result.andThen_ok,tZ hi2]
        by_cases h0:nc.toNat*i2.size=0
        · simp only [h0,if_true,Sem.run_bind,Sem.run_pure,Result.andThen_ok,newRow,run_newObj,World.alloc_eq]
          have hz:∀(f g:Nat→Value),(Array.range 0).map f=(Array.range 0).map g:=fun f g=>by apply Array.ext<;>simp
          rw [hz _ (fun k=>z2.cells[k % z2.cells.size]!)]
        · simp only [if_neg h0,Sem.run_bind,zaf hi2 hz2,Result.andThen_ok,Sem.run_pure,newRow,run_newObj,World.alloc_eq]
      have hcl:nl.toNat≤nc.toNat:=by omega
      refine Spec.bind ((zbH k _).mono fun zx hzx=>Spec.pure' ?_)
      have hcr:=zj5 (E:=iZ M0 st.rows rho w) z2 nc.toNat (by omega)
      have hmul:nl.toNat*z2.cells.size≤nc.toNat*z2.cells.size:=Nat.mul_le_mul_right _ hcl
      have hrep:∀n,LeL (zl3 n (z2.cells.toList.map .lit)) (hZ k (List.replicate n zx)):=by
        intro n
        induction n with
        | zero=>exact .nil
        | succ n ih=>simp only [zl3,List.replicate_succ,hZ];exact hzx.append ih
      have hfit0:RowFits (iZ M0 st.rows rho w) (.flat (zl3 nl.toNat (z2.cells.toList.map .lit)) true) ((Array.range (nc.toNat*z2.cells.size)).map fun(k:Nat)=>z2.cells[k % z2.cells.size]!):=by
        refine ⟨by simp [UZ,hmul],fun k hk=>?_⟩
        have hk':k<nl.toNat*z2.cells.size:=by simpa [UZ] using hk
        have:=hcr.2 k (by simp [UZ];omega)
        rw [zea _ (by simp;omega) _ _ (by simpa using hk')]
        rw [zea _ (by simp;omega) _ _ (by simp;omega)] at this
        exact this
      have hfit:RowFits (iZ M0 st.rows rho w) (.lst k (List.replicate nl.toNat zx) true) ((Array.range (nc.toNat*z2.cells.size)).map fun(k:Nat)=>z2.cells[k % z2.cells.size]!):=
        ⟨by have:=(hrep nl.toNat).length;have:=hfit0.1;omega,fun i hi=>(hrep nl.toNat).getD i _ _ (hfit0.2 i (by rw [(hrep nl.toNat).length];exact hi))⟩
      rw [hzs] at hfit
      rw [hzs] at hrun
      have hs:=zdm (wr:=st.wr) (e:=e) hm hfit
      refine ⟨_,_,_,_,by simp only [execOp,ho,Sem.run_bind,hrun,Result.andThen_ok,Sem.run_pure],.inl rfl,hs,.own (zdi hm.len) ?_ hcl ?_⟩
      · show w.heap.size<(w.alloc _).heap.size;simp
      · show 0+nc.toNat*k.sz≤zan (w.alloc _).heap w.heap.size
        rw [zb0];simp [hsk]
theorem zgb {place:Nat→Option (Nat × Nat)}:∀ {ps:List (Nat × AV)} {l0 cs:List AV},zis place l0 ps=some cs→cs.length=l0.length
  | [],l0,cs,h=>by cases h;rfl
  | (j, x) :: ps,l0,cs,h=>by
    unfold zis at h
    split at h
    · split at h
      · rename_i hh
        rw [zgb h,zbk hh.2]
      · cases h
    · cases h
theorem zof (hg : g.OK) {t : TypeId} {n : Nat} {parts:Array (Nat × Operand)} (hold:Spec (zoz st.wr (zcU g st.rows t n (ze0 st.tm parts.toList))) fun r=>RunOK g.P st o r) (ho:o.op=.buildSlice t n parts) :
    Spec (zoz st.wr (buildT g st.rows t n (ze0 st.tm parts.toList))) fun r=>RunOK g.P st o r:=by
  unfold buildT
  split
  · exact hold
  · rename_i e k hek
    obtain ⟨i,d,z,hi,hd,hz,_,hk⟩:=zfS hek
    refine WZ fun B M0 rho a w hm hf=>zcK ?_
    obtain ⟨p1,p2⟩:=zd9 hf parts.toList
    have htl:(parts.map fun(i,x)=>(i,a.eval x)).toList=parts.toList.map fun(i,x)=>(i,a.eval x):=by simp
    refine Spec.bind (wZ hg fun i2 d2 z2 hi2 hd2 hz2=>?_)
    dsimp only
    split
    · exact Spec.fail
    · rename_i hc
      have c1:0<i2.size:=by omega
      have c2:¬(16777216<n*i2.size):=by omega
      have c3:z2.cells.toList.length=i2.size:=by
        cases Nat.decEq z2.cells.toList.length i2.size with
        | isTrue h=>exact h
        | isFalse h=>exact absurd (.inr (.inr (.inl h))) hc
      have hsk:i2.size=k.sz:=by
        cases Nat.decEq i2.size k.sz with
        | isTrue h=>exact h
        | isFalse h=>exact absurd (.inr (.inr (.inr h))) hc
      have c3':z2.cells.size=i2.size:=by simpa using c3
      refine Spec.bind (Spec.ofOpt fun cs hcs=>?_)
      have hz0:=zj5 (E:=iZ M0 st.rows rho w) z2 n (by omega)
      rw [c3'] at hz0
      obtain ⟨arr',f1,f2⟩:=zhm hcs hz0 p1 p2
      refine Spec.bind (Spec.ofOpt fun p hp=>?_)
      obtain ⟨cs',rows',ps⟩:=p
      dsimp only
      refine Spec.bind (Spec.tellAll fun hps=>?_)
      obtain ⟨hs0,hl0,hr0⟩:=(zhp 40).2 _ _ _ _ _ hp hps B M0 rho st.wr w (fun i=>arr'.getD i undef) hm f2.2
      refine Spec.bind ((zhi (zbH k) n cs').mono fun xs hxs=>Spec.pure' ?_)
      have hcr:CR (iZ M0 rows' rho w) cs' arr':=⟨by rw [hl0];exact f2.1,hr0⟩
      have r1:RowFits (iZ M0 rows' rho w) (.lst k xs true) arr':=fits_lst hcr hxs.2
      have hs:=hs0.trans (zdm (wr:=st.wr) (e:=e) hs0.mem r1)
      have hsz':arr'.size=n*i2.size:=by
        have h1:=f2.1
        have h3:=zgb hcs
        rw [← h1,h3,UZ];simp [c3']
      refine ⟨_,_,_,.slice (some ⟨w.heap.size,0,none⟩) n n,?_,.inl rfl,hs,.own (zdi hs0.mem.len) (by show w.heap.size<(w.alloc (.cells arr' e)).heap.size;simp) (Nat.le_refl _) ?_⟩
      · have hr : (Instr.buildSlice t n (parts.map fun (i,x)=>(i,a.eval x))).run g.P w=.ok (.slice (some ⟨w.heap.size,0,none⟩) n n) (w.alloc (.cells arr' e)):=by
          unfold Instr.buildSlice
          simp only [Sem.run_bind,run_underlying hd,Result.andThen_ok,tZ hi2]
          have h24 : ¬ (n * i2.size > 2 ^ 24) := by have:(2:Nat) ^ 24=16777216:=by decide
                                                    omega
          simp only [if_neg h24]
          by_cases h0:n*i2.size=0
          · have hn0:(Array.range 0).map (fun(k:Nat)=>z2.cells[k % i2.size]!)=(Array.range 0).map (fun(k:Nat)=>(#[]:Array Value)[k % (#[]:Array Value).size]!):=by simp
            rw [h0] at f1
            simp only [h0,if_true,Sem.run_bind,Sem.run_pure,Result.andThen_ok]
            rw [hn0] at f1
            rw [htl,f1]
            simp only [newRow,Sem.run_bind,run_newObj,Result.andThen_ok,Sem.run_pure,World.alloc_eq]
          · simp only [if_neg h0,Sem.run_bind,zaf hi2 hz2,Result.andThen_ok,Sem.run_pure,c3']
            rw [htl,f1]
            simp only [newRow,Sem.run_bind,run_newObj,Result.andThen_ok,Sem.run_pure,World.alloc_eq]
        simp only [execOp,ho,Sem.run_bind,hr,Result.andThen_ok,Sem.run_pure]
      · show 0+n*k.sz≤zan (w.alloc (.cells arr' e)).heap w.heap.size
        rw [zb0,← hsk];omega
theorem zqk (hg : g.OK) {t:TypeId} {a v:Operand}
    (hold:Spec (do let ti ← ty g t;let rows ← zi3 st.rows ti (qZ st.tm a) (qZ st.tm v);M.pure (⟨.lit undef,rows,ziW (qZ st.tm a) :: st.wr⟩:Out)) fun r=>RunOK g.P st o r)
    (ho:o.op=.store t a v) :
    Spec (do let ti ← ty g t;let rows ← zi4 st.rows ti (qZ st.tm a) (qZ st.tm v);M.pure (⟨.lit undef,rows,ziW (qZ st.tm a) :: st.wr⟩:Out)) fun r=>RunOK g.P st o r:=by
  by_cases hrel:∃r i sz fo,qZ st.tm a=.rel r i sz fo
  · obtain ⟨r, ix, sz,fo,hx⟩:=hrel
    refine WZ fun B M0 rho act w hm hf=>?_
    refine Spec.bind (wZ hg fun i d z hi hd hz=>?_)
    have exec:∀(ad:Addr) (w':World),act.eval a=.pointer (some ad)→(storeVar t ad (act.eval v)).run g.P w=.ok () w'→(execOp act.eval o).run g.P w=.ok .skip w':=by
      intro ad w' he hr
      simp only [execOp,ho,Instr.storeAt,he,Instr.sureAddr,Sem.run_bind,Sem.run_pure,Result.andThen_ok,hr]
    rw [hx]
    unfold zi4
    dsimp only
    refine Spec.bind (Spec.bind (Spec.ofOpt fun vc hvc=>Spec.bind (Spec.ofOpt fun p hp=>?_)))
    obtain ⟨vc',rows',ps⟩:=p
    dsimp only
    refine Spec.bind (Spec.tellAll fun hps=>?_)
    have hcr0:=zfF hvc (hf.eval v)
    obtain ⟨hs0,hl0,hr0⟩:=(zhp 40).2 _ _ _ _ _ hp hps B M0 rho st.wr w (fun i=>(act.eval v).cells.getD i undef) hm hcr0.2
    have hcr:CR (iZ M0 rows' rho w) vc' (act.eval v).cells:=⟨by rw [hl0];exact hcr0.1,hr0⟩
    have hax:=hf.eval a
    rw [hx] at hax
    generalize heq:act.eval a=u at hax
    cases hax with
    | @rel _ _ _ _ b hr=>
      have hrho:rho[r]? = some b:=hr
      split
      · rename_i k l hrow
        split
        · rename_i hc
          obtain ⟨hsz,c1,c2,c3⟩:=hc
          subst hsz
          have c1':vc'.length=i.size:=c1
          refine Spec.bind (Spec.chk fun hlt=>?_)
          have hlt':ix<l.length:=by simpa using hlt
          refine Spec.bind ((zbH k _).mono fun x hxd=>Spec.pure' (Spec.pure' ?_))
          have hrows:=EZ hrow (by simp)
          obtain ⟨c,e,hb,hfit⟩:=hs0.mem.row r _ b hrows hrho
          have hcl:=uZ k l
          have hbound:(ix+1)*k.sz≤l.length*k.sz:=Nat.mul_le_mul_right _ hlt'
          rw [Nat.succ_mul] at hbound
          have hle:(ix*k.sz+fo)+vc'.length≤(hZ k l).length:=by omega
          have hsp:=zeG c (act.eval v).cells.toList (ix*k.sz+fo) (by have:=hcr.1;have:=hfit.1;simp;omega)
          have hfo:=zeS (b:=true) (cs:=hZ k l) hfit hcr hle
          have hfl:RowFits (iZ M0 rows' rho w) (.lst k (l.set ix x) true) (c.toList.take (ix*k.sz+fo)++(act.eval v).cells.toList++c.toList.drop (ix*k.sz+fo+(act.eval v).cells.toList.length)).toArray:=by
            have hcx:=jZ k (l.getD ix k.dflt)
            have hA:over (hZ k l) (ix*k.sz+fo) vc'=(hZ k l).take (ix*k.sz)++over (k.cells (l.getD ix k.dflt)) fo vc'++(hZ k l).drop (ix*k.sz+k.sz):=by
              have hmid:((hZ k l).drop (ix*k.sz)).take k.sz=k.cells (l.getD ix k.dflt):=by
                apply List.ext_getElem?
                intro j
                by_cases hj:j<k.sz
                · have h1:=zb1 k l ix j hlt' hj
                  rw [List.getElem?_take,if_pos hj,List.getElem?_drop]
                  simp only [List.getD] at h1
                  have e1:(hZ k l)[ix*k.sz+j]? = some ((hZ k l)[ix*k.sz+j]'(by omega)):=List.getElem?_eq_getElem _
                  have e2:(k.cells (l[ix]?.getD k.dflt))[j]? = some ((k.cells (l[ix]?.getD k.dflt))[j]'(by rw [jZ];exact hj)):=List.getElem?_eq_getElem _
                  rw [e1,e2] at h1
                  simp only [List.getD]
                  rw [e1,e2]
                  exact congrArg some h1
                · rw [List.getElem?_take,if_neg hj,List.getElem?_eq_none (by rw [jZ];omega)]
              unfold over
              rw [← hmid]
              have e3:(hZ k l).take (ix*k.sz+fo)=(hZ k l).take (ix*k.sz)++(((hZ k l).drop (ix*k.sz)).take k.sz).take fo:=by
                rw [List.take_take,Nat.min_eq_left (by omega),List.take_add]
              have e4:(hZ k l).drop (ix*k.sz+fo+vc'.length)=((((hZ k l).drop (ix*k.sz)).take k.sz).drop (fo+vc'.length))++(hZ k l).drop (ix*k.sz+k.sz):=by
                rw [List.drop_take,List.drop_drop]
                have:(hZ k l).drop (ix*k.sz+k.sz)=((hZ k l).drop (ix*k.sz+(fo+vc'.length))).drop (k.sz-(fo+vc'.length)):=by rw [List.drop_drop];congr 1;omega
                rw [this,List.take_append_drop,Nat.add_assoc]
              rw [e3,e4]
              simp only [List.append_assoc]
            have hB:=ziG k l ix x hlt'
            refine ⟨?_,fun j hj=>?_⟩
            · have h1:=hfo.1
              rw [hA] at h1
              rw [hB]
              have h2:=hxd.length
              simp only [List.length_append] at h1 ⊢
              omega
            · rw [hB] at hj ⊢
              have hLe:LeL (over (hZ k l) (ix*k.sz+fo) vc') ((hZ k l).take (ix*k.sz)++k.cells x++(hZ k l).drop (ix*k.sz+k.sz)):=by
                rw [hA];exact((LeL.refl _).append hxd).append (LeL.refl _)
              exact hLe.getD j _ _ (hfo.2 j (by rw [hLe.length];exact hj))
          have hs:=zcQ (wr:=st.wr) hs0.mem hrows rfl hrho hb hsp.1 rfl hfl
          refine ⟨.skip,_,rho,undef,exec ⟨b,ix*k.sz+fo,none⟩ _ heq ?_,.inr ⟨rfl,rfl⟩,hs0.trans hs,.lit _⟩
          unfold storeVar
          have hsz2:(act.eval v).cells.size=i.size:=by have:=hcr.1;omega
          simp only [Sem.run_bind,tZ hi,Result.andThen_ok,hsz2,ne_eq,not_true_eq_false,if_false]
          have hst:=run_storeCells_at (P:=g.P) b (ix*k.sz+fo) e (act.eval v).cells.toList 0 c w hb (by have:=hcr.1;have:=hfit.1;simp;omega) (zcG hcr c3)
          simpa using hst
        · exact Spec.fail
      · exact Spec.fail
  · have e:∀ti,zi4 st.rows ti (qZ st.tm a) (qZ st.tm v)=zi3 st.rows ti (qZ st.tm a) (qZ st.tm v):=by
      intro ti
      unfold zi4
      split
      · rename_i h;exact absurd ⟨_,_,_,_,h⟩ hrel
      · rfl
    have e2:(do let ti ← ty g t;let rows ← zi4 st.rows ti (qZ st.tm a) (qZ st.tm v);M.pure (⟨.lit undef,rows,ziW (qZ st.tm a) :: st.wr⟩:Out)) =
        (do let ti ← ty g t;let rows ← zi3 st.rows ti (qZ st.tm a) (qZ st.tm v);M.pure (⟨.lit undef,rows,ziW (qZ st.tm a) :: st.wr⟩:Out)):=by
      congr 1;funext ti;rw [e ti]
    rw [e2]
    exact hold
end
end Go.Ev
end
section
set_option linter.unusedVariables false
namespace Go.Ev
open Go.RowKit (Below)
theorem wsrc_inv {rows:List Row} {src:AV} {m:Nat} {l:List Int} (h:wsrc rows src=some (m,l)) :
    (src=.lst .whole l∧m=l.length)∨∃r b,src=.own r 0 m 2∧rows.getD r .dead=.lst .whole l b:=by
  unfold wsrc at h
  split at h
  · cases h;exact .inl ⟨rfl,rfl⟩
  · rename_i r off n sz
    split at h
    · rename_i l' b hr
      split at h
      · rename_i hc
        obtain ⟨rfl,rfl⟩:=hc
        cases h
        exact .inr ⟨r,b,rfl,hr⟩
      · cases h
    · cases h
  · cases h
theorem wcopy_inv {rows:List Row} {dst src:AV} {r off n m:Nat} {cs:List AV} {l:List Int} (h:wcopy rows dst src=some (r,off,n,cs,m,l)) :
    wsrc rows src=some (m,l)∧dst=.own r off n 2∧rows.getD r .dead=.flat cs true∧off+n*2≤cs.length∧(cs.drop off).take (n*2)=zw n:=by
  unfold wcopy at h
  split at h
  · cases h
  · rename_i m' l' hw
    split at h
    · rename_i r' off' n' sz
      split at h
      · rename_i cs' hr
        split at h
        · rename_i hc
          obtain ⟨rfl,h1,h2⟩:=hc
          cases h
          exact ⟨hw,rfl,hr,h1,(ziK 1000).2 _ _ h2⟩
        · cases h
      · cases h
    · cases h
theorem zfG (k:ZK):∀a b:List Int,yZ k (a++b)=yZ k a++yZ k b
  | [],b=>rfl
  | x :: a,b=>by
    show zf6 k x++yZ k (a++b)=(zf6 k x++yZ k a)++yZ k b
    rw [zfG k a b,List.append_assoc]
theorem zbq:∀l:List Int,(yZ .W l).length=l.length*2
  | []=>rfl
  | x :: l=>by
    show(zf6 .W x++yZ .W l).length=_
    rw [List.length_append,zbq l]
    simp [zf6];omega
theorem zlY:∀n,(zw n).length=n*2
  | 0=>rfl
  | n+1=>by simp [zw,zlY n];omega
theorem zw_drop:∀k n,k≤n→(zw n).drop (k*2)=zw (n-k)
  | 0,n,_=>by simp
  | k+1,n+1,h=>by
    rw [show(k+1)*2=k*2+1+1 by omega]
    show(zw n).drop (k*2)=_
    rw [zw_drop k n (by omega)];congr 1;omega
  | k+1,0,h=>by omega
theorem zw_le:∀n,LeL (zw n) (yZ .W (List.replicate n 0))
  | 0=>.nil
  | n+1=>by
    refine .cons (Le.refl _) (.cons (fun E v h=>?_) (zw_le n))
    have hv:=h.lit_inv
    subst hv
    exact .wd (z:=0) (.inl rfl) (Nat.zero_le _)
theorem padW_eq:∀(n i:Nat) (l:List Int),l.length≤i+n→i≤l.length→padW l i n=l.drop i++List.replicate (n-(l.length-i)) 0
  | 0,i,l,h,h2=>by
    obtain rfl:i=l.length:=by omega
    simp [padW]
  | n + 1, i,l,h,h2=>by
    unfold padW
    by_cases hi:i<l.length
    · rw [padW_eq n (i+1) l (by omega) (by omega),List.drop_eq_getElem_cons hi]
      simp only [List.getD,List.getElem?_eq_getElem hi,Option.getD_some,List.cons_append]
      congr 3;omega
    · obtain rfl:i=l.length:=by omega
      have:∀(n j:Nat),l.length≤j→padW l j n=List.replicate n 0:=by
        intro n
        induction n with
        | zero=>intro j _;rfl
        | succ n ih=>
          intro j hj
          unfold padW
          rw [ih (j+1) (by omega),List.replicate_succ]
          simp [List.getD,List.getElem?_eq_none hj]
      rw [this n (l.length+1) (by omega)]
      simp [List.getD,List.replicate_succ]
theorem zd3:∀l:List Int,hZ .whole l=yZ .W l
  | []=>rfl
  | z :: l=>by
    show EK.cells .whole z++hZ .whole l=zf6 .W z++yZ .W l
    rw [zd3 l];rfl
theorem zh9:∀(k:Nat) (l:List Int),(yZ .W l).take (k*2)=yZ .W (l.take k)
  | 0,l=>by simp [yZ]
  | k+1,[]=>by simp [yZ]
  | k+1,x :: l=>by
    rw [show(k+1)*2=k*2+1+1 by omega]
    show _ :: _ :: (yZ .W l).take (k*2)=zf6 .W x++yZ .W (l.take k)
    rw [zh9 k l];rfl
theorem zh8:∀l:List Int,(yZ .W l).all zcI=true
  | []=>rfl
  | x :: l=>by
    show(zf6 .W x++yZ .W l).all zcI=true
    rw [List.all_append,zh8 l]
    simp [zf6,zcI,Value.oneCell']
theorem fits_leL {E:Env} {a b:List AV} {c:Array Value} (h:RowFits E (.flat a true) c) (hl:LeL a b):RowFits E (.flat b true) c:=by
  have hlen:=hl.length
  exact ⟨by rw [← hlen];exact h.1,fun i hi=>hl.getD i E _ (h.2 i (by rw [hlen];exact hi))⟩
theorem over_leL {cs:List AV} {off n m:Nat} {l:List Int} (hm:m≤n) (hl:m≤l.length) (hz:(cs.drop off).take (n*2)=zw n) (hb:off+n*2≤cs.length) :
    LeL (over cs off (yZ .W (l.take m))) (over cs off (yZ .W (padW (l.take m) 0 n))):=by
  have h1:(l.take m).length=m:=by simp;omega
  have h2:padW (l.take m) 0 n=l.take m++List.replicate (n-m) 0:=by
    rw [padW_eq n 0 (l.take m) (by omega) (Nat.zero_le _),h1];simp
  have h3:cs.drop (off+m*2)=zw (n-m)++cs.drop (off+n*2):=by
    have e:cs.drop off=zw n++(cs.drop off).drop (n*2):=by rw [← hz];exact(List.take_append_drop _ _).symm
    rw [← List.drop_drop,e,List.drop_append_of_le_length (by rw [zlY];omega),zw_drop m n hm,List.drop_drop]
  unfold over
  rw [h2,zbq,h1,zbq,List.length_append,h1,List.length_replicate,h3,zfG,List.append_assoc,List.append_assoc,List.append_assoc,show m+(n-m)=n by omega]
  exact(LeL.refl _).append ((LeL.refl _).append ((zw_le _).append (LeL.refl _)))
section
variable {g:Cfg} {n0:Nat→Prop} {st:St} {o:Oper}
theorem copyT_run (hg:g.OK) {c:Call} {x y:Operand} {t t1:TypeId} (ho:o.op=.call c) (hb:c.callee=.builtin .copy) (hx:c.args.toList=[x,y]) (ht:c.argTypes.toList=[t,t1]) :
    Spec (copyT g st.rows st.wr t (qZ st.tm x) (qZ st.tm y)) fun r=>RunOK g.P st o r:=by
  unfold copyT
  split
  · exact copy_run hg ho hb hx ht
  rename_i r off n cs m l hw
  obtain ⟨hsrcw,hdst,hrow,hbnd,hzw⟩:=wcopy_inv hw
  refine WZ fun B M0 rho a w hm hf=>?_
  have h1:c.args = #[x,y]:=by rw [← Array.toArray_toList (xs:=c.args),hx]
  have h2:c.argTypes = #[t,t1]:=by rw [← Array.toArray_toList (xs:=c.argTypes),ht]
  have exec:∀ {v:Value} {w':World},(Builtin.copy_ #[t,t1] o.type #[a.eval x,a.eval y]).run g.P w=.ok v w'→(execOp a.eval o).run g.P w=.ok (.value v) w':=by
    intro v w' h
    rw [zaZ ho hb,h1,h2]
    simp only [builtin,Sem.run_bind,List.map_toArray,List.map_cons,List.map_nil,h,Result.andThen_ok,Sem.run_pure]
  refine Spec.bind (wZ hg fun i d z hi hd hz=>?_)
  dsimp only
  split
  · rename_i e htk
    have hd':=zae htk;subst hd'
    refine Spec.bind (wZ hg fun i2 d2 z2 hi2 hd2 hz2=>?_)
    dsimp only
    split
    · rename_i hs2
      have c3':i2.size=2:=hs2
      refine Spec.bind (Spec.chk fun c1=>Spec.bind (Spec.chk fun c2=>Spec.pure' ?_))
      have c1:=of_decide_eq_true c1
      have c2:=of_decide_eq_true c2
      have hp:zb4 st.rows i2.size (qZ st.tm y)=some (m,.inl (yZ .W (l.take m))):=by
        rcases wsrc_inv hsrcw with ⟨e1,e2⟩ | ⟨r',b',e1,e2⟩
        · rw [e1,c3',e2,List.take_length]
          show(if 2=EK.whole.sz then some (l.length,Sum.inl (hZ .whole l)) else none)=_
          rw [if_pos (show 2=EK.whole.sz from rfl),zd3]
        · rw [e1,c3']
          unfold zb4
          dsimp only
          rw [e2]
          show(if 0=0∧2=2∧2=EK.whole.sz∧m≤l.length then some (m,Sum.inl ((hZ .whole l).take (m*2))) else none)=_
          rw [if_pos (show 0=0∧2=2∧2=EK.whole.sz∧m≤l.length from ⟨rfl,rfl,rfl,c1⟩),zd3,zh9]
      have hxv:=hf.eval x
      rw [hdst] at hxv
      have hle:(yZ .W (l.take m)).length=m*i2.size:=by rw [zbq,c3'];simp;omega
      have hle2:(yZ .W (l.take m)).length=m*2:=by rw [hle,c3']
      obtain ⟨ad,cp,news,hv,hnl,hel,hsrc⟩:=zeR hm hp (hf.eval y) (show(yZ .W (l.take m)).length=m*i2.size from hle)
      have hnl':news.length=m*i2.size:=hnl
      generalize heq:a.eval x=u at hxv
      cases hxv with
      | @own _ _ _ _ b cap hr hsb hcap hbz=>
        have hrho:rho[r]? = some b:=hr
        have hrows:=EZ hrow (by simp)
        obtain ⟨cc,e',hbk,hfit⟩:=hm.row r _ b hrows hrho
        have hcr:CR (iZ M0 st.rows rho w) (yZ .W (l.take m)) news.toArray:=hel
        have hkk:Nat.min m n=m:=Nat.min_eq_left c2
        have hel':(yZ .W (l.take m)).length=news.length:=by have:=hcr.1;simpa using this
        have hlen:off+(yZ .W (l.take m)).length≤cs.length:=by omega
        have hfitlen:=hfit.1
        have hsp:=zeG cc news off (by omega)
        have hfo:=fits_leL (zeS (b:=true) hfit hcr hlen) (over_leL c2 c1 hzw hbnd)
        have hs:=zcQ (wr:=st.wr) (c':=(cc.toList.take off++news++cc.toList.drop (off+news.length)).toArray) (row':=.flat (over cs off (yZ .W (padW (l.take m) 0 n))) true) hm hrows rfl hrho hbk hsp.1 rfl hfo
        refine ⟨_,_,rho,.int .i64 (m:Int),exec ?_,.inl rfl,hs,.lit _⟩
        have hone:∀u∈news,u.oneCell'=true:=fun u hu=>zcG (arr:=news.toArray) hcr (zh8 _) u (by simpa using hu)
        have hst:=run_storeCells_at (P:=g.P) b off e' news 0 cc w hbk (by omega) hone
        have hsr:=hsrc m (Nat.le_refl _) g.P w rfl
        rw [List.take_of_length_le (by omega)] at hsr
        simp only [Nat.add_zero] at hst
        generalize w.setRow b (cc.toList.take off++news++cc.toList.drop (off+news.length)).toArray=W at hst ⊢
        simp only [Builtin.copy_]
        simp only [heq,hv]
        simp [run_underlying hd,Builtin.lenOf,tZ hi2,hkk]
        rw [hsr]
        simp only [Result.andThen_ok]
        rw [hst]
        rfl
    · exact Spec.fail
  · exact Spec.fail
end
end Go.Ev
end
section
namespace Go.Ev
open Go.RowKit (Below)
section
variable {g:Cfg} {n0:Nat→Prop} {st:St} {o:Oper}
def PureOut (P:Program) (n0:Nat→Prop) (st:St) (o:Oper) (r:Out):Prop:=r.rows=st.rows∧r.wr=st.wr∧PureOK P n0 st o r.v
theorem FZ {m:M AV} (h:Spec m fun v=>PureOK g.P n0 st o v):Spec (same st.rows st.wr m) fun r=>PureOut g.P n0 st o r:=
  same_spec (h.mono fun _ hv=>⟨rfl,rfl,hv⟩)
theorem PureOut.op {P:Program} {n0:Nat→Prop} {r:Out} (h:PureOut P n0 st o r):OpOK P st o r:=by
  obtain ⟨h1,h2,h3⟩:=h
  obtain ⟨v,rows,wr⟩:=r
  simp only at h1 h2 h3
  subst h1;subst h2
  exact h3.run.op
theorem zl9 (hg:g.OK) {run:zaP} (hrun:zbF g.P run) {c:Call} {f:Operand} (ho:o.op=.call c) (hc:c.callee=.value f) {h:FuncId} {cs:List AV} (hf0:qZ st.tm f=.fn h cs) :
    Spec (callA g run st.rows st.wr h (c.args.toList.map (qZ st.tm)++cs)) fun r=>OpOK g.P st o r:=by
  intro cc s x s' ps he hps
  have hcall:=call_spec hg hrun st.rows st.wr h (c.args.toList.map (qZ st.tm)++cs) cc s x s' ps he hps
  have hlk:∃fn,fnOf g.P h=some fn:=by
    cases hl:fnOf g.P h with
    | some fn=>exact ⟨fn,rfl⟩
    | none=>
      exfalso
      unfold callA at he
      have:(ofOpt 73 (fnOf g.P h):M Func)=fail 73:=by rw [hl];rfl
      rw [this] at he
      change M.bind _ _ cc s=_ at he
      simp [M.bind,fail] at he
  obtain ⟨fn,hfn⟩:=hlk
  obtain ⟨hF1,hF2,hF3⟩:=hg.F h fn hfn
  intro B M0 rho a w hm hf K Q hK
  have hfv:=hf.eval f
  rw [hf0] at hfv
  generalize heq:a.eval f=u at hfv
  cases hfv with
  | @fn _ _ caps hl hr=>
    have hfr:Fa (iZ M0 st.rows rho w) (c.args.toList.map (qZ st.tm)++cs) (c.args.map a.eval++caps):=by
      refine ⟨by simp [hl],fun i hi=>?_⟩
      by_cases hia:i<c.args.size
      · have e1:(c.args.toList.map (qZ st.tm)++cs).getD i .junk=qZ st.tm c.args[i]:=by
          simp only [List.getD];rw [List.getElem?_append_left (by simpa using hia)];simp [hia]
        have e2:(c.args.map a.eval++caps).getD i undef=a.eval c.args[i]:=by
          rw [zao,Array.getElem?_append_left (by simpa using hia)];simp [hia]
        rw [e1,e2];exact hf.eval _
      · have hi':i-c.args.size<cs.length:=by simp at hi;omega
        have e1:(c.args.toList.map (qZ st.tm)++cs).getD i .junk=cs.getD (i-c.args.size) .junk:=by
          simp only [List.getD];rw [List.getElem?_append_right (by simpa using Nat.le_of_not_lt hia)];simp
        have e2:(c.args.map a.eval++caps).getD i undef=caps.getD (i-c.args.size) undef:=by
          rw [zao,zao,Array.getElem?_append_right (by simpa using Nat.le_of_not_lt hia)];simp
        rw [e1,e2];exact hr _ hi'
    have hexec:(execOp a.eval o).run g.P w=.ok (.enter h (c.args.map a.eval++caps)) w:=by
      simp only [execOp,ho,resolve,hc,heq,Deferred.ofValue,Sem.run_bind,Sem.run_pure,Result.andThen_ok,invoke]
      have:=zcx hF1 hF2 hF3 (c.args.map a.eval++caps) w
      simpa using this
    unfold Oper.wp
    rw [hexec]
    show Calls g.P h _ w _
    refine (hcall B M0 rho w _ hm hfr).mono ?_
    rintro e w' ⟨v,rfl,rho',hs,hv⟩
    exact hK v w' rho' hs hv
theorem zgh (hg:g.OK) {run:zaP} {n:Nat} {W:List Nat} (hp:zlv n W st o=true):Spec (opA g run st o) fun r=>PureOut g.P (fun r=>r<n∧r ∉ W) st o r:=by
  obtain ⟨dst,op,type,pos,after,guard⟩:=o
  cases op<;>simp only [zlv,Bool.false_eq_true] at hp<;>dsimp only [opA]
  case move x=>exact FZ (Spec.pure' (zk9 (.inl rfl)))
  case assign x=>exact FZ (Spec.pure' (zk9 (.inr rfl)))
  case pick c a b=>exact FZ (pick_pure rfl)
  case build t parts=>exact FZ (zog hg rfl)
  case load t a=>
    refine FZ (ziQ hg rfl fun r hx=>?_)
    generalize qZ st.tm a=z at hp hx
    cases z<;>simp only [zj9,Option.some.injEq] at hx<;>first | (cases hx;done) | skip
    · subst hx;simpa using hp
    · subst hx;simpa using hp
  case nilCheck x=>exact FZ (zjM rfl)
  case binOp op t x y t'=>exact FZ (zob hg rfl)
  case unOp op t x=>exact FZ (unOp_pure rfl)
  case convert a b x=>exact FZ (zkx hg rfl)
  case makeFunc fn first caps=>
    cases fn with
    | func f=>exact FZ (zjH rfl)
    | _=>exact Spec.fail
  case slice t x lo hi mx=>
    refine FZ ?_
    cases mx with
    | none=>exact zmK hg rfl
    | some m=>exact Spec.fail
  case fieldAddr t x f=>exact FZ (zir hg rfl)
  case field t x f=>exact FZ (zop hg rfl)
  case indexAddr t x i=>exact FZ (zms hg rfl)
  case index t x i=>exact FZ (zot hg rfl)
  case extract x i=>exact FZ (zkZ rfl)
  case call c=>
    obtain ⟨callee,args,argTypes⟩:=c
    cases callee with
    | value f=>simp at hp
    | invoke r m=>simp at hp
    | builtin b=>
      dsimp only
      split
      · rename_i x t h1 h2
        exact FZ (len_pure hg rfl rfl h1 h2)
      · simp at hp
      · simp at hp
      · rename_i x y h1
        exact FZ (zhu (isMax:=false) rfl rfl h1)
      · rename_i x y h1
        exact FZ (zhu (isMax:=true) rfl rfl h1)
      · exact Spec.fail
theorem op_spec (hg:g.OK) {run:zaP} (hrun:zbF g.P run):Spec (opA g run st o) fun r=>OpOK g.P st o r:=by
  by_cases hp:∃n0,zlv n0 [] st o=true
  · obtain ⟨n0,hp⟩:=hp
    exact(zgh hg hp).mono fun r h=>h.op
  · obtain ⟨dst,op,type,pos,after,guard⟩:=o
    cases op<;>dsimp only [opA]<;>try (exact absurd ⟨0,rfl⟩ hp)
    case alloc t=>exact(alloc_run hg rfl).mono fun r h=>h.op
    case box t x=>exact(box_run rfl).mono fun r h=>h.op
    case buildSlice t n parts=>exact(zof hg (zio hg rfl) rfl).mono fun r h=>h.op
    case load t a=>
      have hn:∀r,zj9 (qZ st.tm a)=some r→(fun _:Nat=>True) r:=fun _ _=>trivial
      exact(FZ (ziQ hg rfl hn)).mono fun r h=>h.op
    case store t a v=>exact(zqk hg (store_run hg rfl) rfl).mono fun r h=>h.op
    case makeSlice t l c=>exact(makeT_run hg (zjI hg rfl) rfl).mono fun r h=>h.op
    case call c=>
      obtain ⟨callee,args,argTypes⟩:=c
      cases callee with
      | invoke r m=>exact Spec.fail
      | value f=>
        dsimp only
        split
        · rename_i h cs hx
          exact zl9 hg hrun (c:=⟨.value f,args,argTypes⟩) rfl rfl hx
        · exact Spec.fail
      | builtin b=>
        dsimp only
        split
        · exact absurd ⟨0,rfl⟩ hp
        · rename_i x y t t1 h1 h2
          exact(zl8 hg (zoa (c:=⟨.builtin .append,args,argTypes⟩) hg rfl rfl h1 h2) (c:=⟨.builtin .append,args,argTypes⟩) rfl rfl h1 h2).mono fun r h=>h.op
        · rename_i x y t t1 h1 h2
          exact(copyT_run hg rfl rfl h1 h2).mono fun r h=>h.op
        · exact absurd ⟨0,rfl⟩ hp
        · exact absurd ⟨0,rfl⟩ hp
        · exact Spec.fail
    all_goals exact Spec.fail
end
end Go.Ev
end
