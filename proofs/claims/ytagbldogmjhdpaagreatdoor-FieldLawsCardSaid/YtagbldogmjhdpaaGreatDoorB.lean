/- Part of a proof about a given program: see the last module of the claim. -/
import Derived.Test.YtagbldogmjhdpaaGreatDoorA
import Derived.OrdersIn
section
namespace Go.Ev
open Go.RowKit (Below)
section
variable {g:Cfg} {n0:Nat→Prop} {st:St} {o:Oper}
theorem zhz {g:Cfg} (hg:g.OK):∀ {fs:List Field} {pl:List (Nat × Nat)},zj0 g (fs.map fun f=>(f.type,f.offset))=some pl →
 ∀w,(fs.mapM (m:=Sem) fun f=>do pure (f.offset,← sizeOf f.type)).run g.P w=.ok pl w
 | [],pl,h,w=>by cases h;rfl
 | f :: fs,pl,h,w=>by
  simp only [List.map_cons,zj0] at h
  split at h
  ·rename_i ti l h1 h2
   cases h
   obtain ⟨i,d,z,k1,k2,k3,rfl⟩:=zik h1
   have ih:=zhz hg h2 w
   simp only [List.mapM_cons,Sem.run_bind,qZ k1,Result.andThen_ok,Sem.run_pure,ih]
  ·cases h
theorem zdC {E:Env} {tm:Fm} {a:Act} (hf:Fr E tm a.tmps):∀(parts:List (Nat × Operand)),
 (zeH tm parts).length=(parts.map fun(i,x)=>(i,a.eval x)).length ∧
 ∀i:Nat,∀p q,(zeH tm parts)[i]? = some p→(parts.map fun(i,x)=>(i,a.eval x))[i]? = some q→p.1=q.1∧Rd E p.2 q.2
 | []=>⟨rfl,fun i p q h=>by simp [zeH] at h⟩
 | (j,x) :: l=>by
  obtain ⟨h1,h2⟩:=zdC hf l
  refine ⟨by simp [zeH,h1],fun i p q hp hq=>?_⟩
  cases i with
  | zero=>
   simp [zeH] at hp hq
   subst hp;subst hq
   exact ⟨rfl,hf.eval x⟩
  | succ i=>
   simp only [zeH,List.getElem?_cons_succ,List.map_cons] at hp hq
   exact h2 i p q hp hq
theorem zne {E:Env} (z:Value):CR E (z.cells.toList.map AV.lit) z.cells:=by
 refine ⟨by simp,fun i hi=>?_⟩
 have hi':i<z.cells.size:=by simpa using hi
 have:(z.cells.toList.map AV.lit).getD i .junk=.lit (z.cells.getD i undef):=by simp [List.getD,hi']
 rw [this];exact .lit _
theorem zoS (hg:g.OK) {t:TypeId} {parts:Array (Nat × Operand)} (ho:o.op=.build t parts) :
 Spec (buildA g t (zeH st.tm parts.toList)) fun v=>PureOK g.P n0 st o v:=by
 refine zat fun E a hf=>?_
 obtain ⟨p1,p2⟩:=zdC hf parts.toList
 have hex:∀w,(execOp a.eval o).run g.P w=(do pure (.value (← Instr.build t (parts.map fun(i,x)=>(i,a.eval x)))):Sem Next).run g.P w:=by
  intro w;simp only [execOp,ho]
 have htl:(parts.map fun(i,x)=>(i,a.eval x)).toList=parts.toList.map fun(i,x)=>(i,a.eval x):=by simp
 unfold buildA
 refine Spec.bind (tZ hg fun i d z hi hd hz=>?_)
 dsimp only
 split
 ·rename_i fs htk
  obtain ⟨fields,rfl,rfl⟩:=zim htk
  refine Spec.bind (Spec.ofOpt fun pl hpl=>Spec.bind (Spec.ofOpt fun cs hcs=>Spec.pure' ?_))
  obtain ⟨arr',f1,f2⟩:=zhf hcs (zne (E:=E) z) p1 p2
  refine ⟨.agg arr',.agg f2.1 f2.2,fun w=>?_⟩
  have hm:(fields.mapM (m:=Sem) fun f=>do pure (f.offset,← sizeOf f.type)).run g.P w=.ok pl.toArray w:=by
   have:=zhz hg hpl w
   rw [← Array.toArray_toList (xs:=fields),List.mapM_toArray]
   simp_all
  rw [hex]
  simp only [Instr.build,Sem.run_bind,VZ hi hz,Result.andThen_ok,run_underlying hd]
  simp_all
 ·rename_i n e htk
  have hd':=zl3 htk;subst hd'
  refine Spec.bind (tZ hg fun i2 d2 z2 hi2 hd2 _=>?_)
  refine Spec.bind (Spec.ofOpt fun cs hcs=>Spec.pure' ?_)
  obtain ⟨arr',f1,f2⟩:=zhf hcs (zne (E:=E) z) p1 p2
  refine ⟨.agg arr',.agg f2.1 f2.2,fun w=>?_⟩
  rw [hex]
  simp only [Instr.build,Sem.run_bind,VZ hi hz,Result.andThen_ok,run_underlying hd,qZ hi2,htl,f1,Sem.run_pure]
 ·exact Spec.fail
def RowFits (E:Env) (row:Row) (c:Array Value):Prop:=
 match row with
 | .dead=>True
 | .flat cs _=>cs.length≤c.size∧∀i,i<cs.length→Rd E (cs.getD i .junk) (c.getD i undef)
 | .ints l _=>l.length≤c.size∧∀i,i<l.length→c[i]? = some (.int .i64 (l.getD i 0))
 | .lst k l _=>(hZ k l).length≤c.size∧∀i,i<(hZ k l).length→Rd E ((hZ k l).getD i .junk) (c.getD i undef)
theorem RowFits.ext {E E':Env} (h:Ext E E') {row:Row} {c:Array Value} (hr:RowFits E row c):RowFits E' row c:=by
 cases row with
 | dead=>trivial
 | ints l b=>exact hr
 | flat cs b=>exact ⟨hr.1,fun i hi=>(hr.2 i hi).ext h⟩
 | lst k l b=>exact ⟨hr.1,fun i hi=>(hr.2 i hi).ext h⟩
theorem ze5 {E:Env} {row:Row} {b:Nat} {c:Array Value} {e:TypeId} (hb:E.heap[b]? = some (.cells c e (0,0))) (h:RowFits E row c):RowAt E row b:=by
 cases row with
 | dead=>trivial
 | ints l lv=>exact ⟨c,e,hb,h.1,h.2⟩
 | flat cs lv=>exact ⟨c,e,hb,h.1,h.2⟩
 | lst k l lv=>exact ⟨c,e,hb,h.1,h.2⟩
theorem RowAt.ext {E E':Env} (h:Ext E E') {row:Row} {b:Nat} (hh:E'.heap[b]? = E.heap[b]?) (hr:RowAt E row b):RowAt E' row b:=by
 cases row with
 | dead=>trivial
 | ints l lv=>
  obtain ⟨c,e,hb,h1,h2⟩:=hr
  exact ⟨c,e,by rw [hh];exact hb,h1,h2⟩
 | flat cs lv=>
  obtain ⟨c,e,hb,h1,h2⟩:=hr
  exact ⟨c,e,by rw [hh];exact hb,h1,fun i hi=>(h2 i hi).ext h⟩
 | lst k l lv=>
  obtain ⟨c,e,hb,h1,h2⟩:=hr
  exact ⟨c,e,by rw [hh];exact hb,h1,fun i hi=>(h2 i hi).ext h⟩
theorem zcG {B:Nat} {M0:Nat→Prop} {rows:List Row} {rho:List Nat} {wr:List Nat} {w:World} (hm:Mem B M0 rows rho w) {row:Row} {c:Array Value} {e:TypeId}
 (hf:RowFits (iZ M0 rows rho w) row c) :
 Stp B M0 rows rho wr w (rows++[row]) (rho++[w.heap.size]) wr (w.alloc (.cells c e)):=by
 have hl:=hm.len
 have hold:∀k,k<w.heap.size→(w.alloc (.cells c e)).heap[k]? = w.heap[k]?:=fun k hk=>Below.heap_alloc w _ k hk
 have hnew:(w.alloc (.cells c e)).heap[w.heap.size]? = some (.cells c e (0,0)):=heap_alloc_new w _
 have hsz:(w.alloc (.cells c e)).heap.size=w.heap.size+1:=by simp
 have hrows:∀(r:Nat) (row':Row) (b:Nat),(rows++[row])[r]? = some row'→(rho++[w.heap.size])[r]? = some b→(rows[r]? = some row'∧rho[r]? = some b)∨(row'=row∧b=w.heap.size∧r=rows.length):=by
  grind
 have hext:Ext (iZ M0 rows rho w) (iZ M0 (rows++[row]) (rho++[w.heap.size]) (w.alloc (.cells c e))):=by
  refine ⟨by show w.heap.size≤(w.alloc (.cells c e)).heap.size;omega,fun b hb hM=>⟨hold b hb,?_⟩,fun r b hr=>?_,fun b hb=>?_⟩
  ·rintro (h0 | ⟨r,row',h1,h2,h3⟩)
   ·exact hM (.inl h0)
   ·rcases hrows r row' b h1 h3 with ⟨k1,k2⟩ | ⟨_,k2,_⟩
    ·exact hM (.inr ⟨r,row',k1,h2,k2⟩)
    ·have:b<w.heap.size:=hb
     omega
  ·exact List.getElem?_append_left (by have:=(List.getElem?_eq_some_iff.1 hr).1;exact this) |>.trans hr
  ·show YZ (w.alloc _).heap b=YZ w.heap b
   unfold YZ;rw [hold b hb]
 refine ⟨hext,⟨by have:=hm.hB;omega,hm.m0,by simp [hl],fun r b hr=>?_,fun r row' b h1 h2=>?_,fun r r' row1 row2 b h1 h2 a1 a2 b1 b2=>?_⟩,?_,?_⟩
 ·by_cases hlt:r<rho.length
  ·rw [List.getElem?_append_left hlt] at hr
   obtain ⟨k1,k2⟩:=hm.bnd r b hr
   exact ⟨k1,by omega⟩
  ·rw [List.getElem?_append_right (by omega)] at hr
   have h3:r-rho.length=0:=by
    grind
   rw [h3] at hr
   have:b=w.heap.size:=by simpa using hr.symm
   subst this
   exact ⟨hm.hB,by omega⟩
 ·rcases hrows r row' b h1 h2 with ⟨k1,k2⟩ | ⟨rfl,rfl,_⟩
  ·exact(hm.row r row' b k1 k2).ext hext (hold b (hm.bnd r b k2).2)
  ·exact ze5 hnew (hf.ext hext)
 ·rcases hrows r row1 b h1 b1 with ⟨k1,k2⟩ | ⟨rfl,k2,k3⟩
  ·rcases hrows r' row2 b h2 b2 with ⟨j1,j2⟩ | ⟨rfl,j2,j3⟩
   ·exact hm.inj r r' row1 row2 b k1 j1 a1 a2 k2 j2
   ·have:=(hm.bnd r b k2).2;omega
  ·rcases hrows r' row2 b h2 b2 with ⟨j1,j2⟩ | ⟨rfl,j2,j3⟩
   ·have:=(hm.bnd r' b j2).2;omega
   ·omega
 ·exact(Below.refl B w).alloc hm.hB _
 ·refine ⟨by simp,fun s hs _=>hs,fun r row' b hr h1 h2 h3 _=>⟨hold b (hm.bnd r b h3).2,?_,row',?_,h2⟩⟩
  ·grind
  grind
theorem zce {B:Nat} {M0:Nat→Prop} {rows:List Row} {rho:List Nat} {wr:List Nat} {w:World} (hm:Mem B M0 rows rho w) {r b:Nat} {row row':Row} {c c':Array Value} {e:TypeId}
    (hrow:rows[r]? = some row) (hlive:row.live=true) (hr:rho[r]? = some b) (hb:w.heap[b]? = some (.cells c e (0,0))) (hsz:c'.size=c.size)
    (hlv:row'.live=true) (hf:RowFits (iZ M0 rows rho w) row' c') :
    Stp B M0 rows rho wr w (rows.set r row') rho (r :: wr) (w.setRow b c'):=by
  have hrl:r<rows.length:=(List.getElem?_eq_some_iff.1 hrow).1
  have hhsz:(w.setRow b c').heap.size=w.heap.size:=by simp
  have hnew:(w.setRow b c').heap[b]? = some (.cells c' e (0,0)):=setRow_heap w b c c' e _ hb
  have hold:∀k,k≠b→(w.setRow b c').heap[k]? = w.heap[k]?:=by
    intro k hk
    simp only [World.setRow,Array.getElem?_modify]
    grind
  have hrows:∀(s:Nat) (q:Row),(rows.set r row')[s]? = some q→(s=r∧q=row')∨(s≠r∧rows[s]? = some q):=by
    grind
  have hMr:zcU M0 rows rho b:=.inr ⟨r,row,hrow,hlive,hr⟩
  have hMeq:∀k,¬zcU M0 rows rho k→¬zcU M0 (rows.set r row') rho k:=by
    rintro k hk (h0 | ⟨s,q,h1,h2,h3⟩)
    · exact hk (.inl h0)
    · rcases hrows s q h1 with ⟨rfl,rfl⟩ | ⟨_,k1⟩
      · simp_all
      · exact hk (.inr ⟨s,q,k1,h2,h3⟩)
  have hbsz:∀k,YZ (w.setRow b c').heap k=YZ w.heap k:=by
    intro k
    unfold YZ
    grind
  have hext:Ext (iZ M0 rows rho w) (iZ M0 (rows.set r row') rho (w.setRow b c')):=
    ⟨by show w.heap.size≤(w.setRow b c').heap.size;omega,fun k _ hM=>⟨hold k (fun h=>hM (h▸hMr)),hMeq k hM⟩,fun _ _ h=>h,fun k _=>hbsz k⟩
  refine ⟨hext,⟨by have:=hm.hB;omega,hm.m0,by simp [hm.len],fun s k hs=>by rw [hhsz];exact hm.bnd s k hs,fun s q k h1 h2=>?_,fun s s' q q' k h1 h2 a1 a2 b1 b2=>?_⟩,?_,?_⟩
  · rcases hrows s q h1 with ⟨rfl,rfl⟩ | ⟨hne,k1⟩
    · have:k=b:=by simp_all
      subst this
      exact ze5 hnew (hf.ext hext)
    · cases hq:q.alive with
      | false=>cases q<;>first | trivial | cases hq
      | true=>
        have hkb:k≠b:=by
          intro hkb;subst hkb
          exact hne (hm.inj s r q row k k1 hrow hq (zbh hlive) h2 hr)
        exact(hm.row s q k k1 h2).ext hext (hold k hkb)
  · have key:∀(s:Nat) (q:Row),(rows.set r row')[s]? = some q→q.alive=true→∃q0:Row,rows[s]? = some q0∧q0.alive=true:=by
      intro s q h ha
      rcases hrows s q h with ⟨rfl,rfl⟩ | ⟨_,k1⟩
      · exact ⟨row,hrow,zbh hlive⟩
      · exact ⟨q,k1,ha⟩
    obtain ⟨q0,g1,g2⟩:=key s q h1 a1
    obtain ⟨q1,g3,g4⟩:=key s' q' h2 a2
    exact hm.inj s s' q0 q1 k g1 g3 g2 g4 b1 b2
  · have hbB:B≤b:=(hm.bnd r b hr).1
    refine ⟨rfl,rfl,rfl,by omega,fun k hk=>hold k (by omega)⟩
  · refine ⟨Nat.le_refl _,fun s hs _=>List.mem_cons_of_mem _ hs,fun s q k hsn h1 h2 h3 h4=>?_⟩
    have hne:s≠r:=fun h=>h4 (h▸List.mem_cons_self)
    have hkb:k≠b:=by
      intro hkb;subst hkb
      exact hne (hm.inj s r q row k h1 hrow h2 (zbh hlive) h3 hr)
    grind
end
section
variable {g:Cfg} {n0:Nat→Prop} {st:St} {o:Oper}
theorem zhg {E:Env} {cs:List AV} {c:Array Value} {b:Bool} (h:CR E cs c):RowFits E (.flat cs b) c:=⟨by have:=h.1;omega,h.2⟩
theorem OZ {m:M Out} (h:∀B M0 rho (a:Act) w,Mem B M0 st.rows rho w→Fr (iZ M0 st.rows rho w) st.tm a.tmps →
 Spec m fun r=>∃nx w' rho' v,(execOp a.eval o).run g.P w=.ok nx w'∧(nx=.value v∨nx=.skip∧v=undef) ∧
  Stp B M0 st.rows rho st.wr w r.rows rho' r.wr w'∧Rd (iZ M0 r.rows rho' w') r.v v):Spec m fun r=>RunOK g.P st o r:=by
 intro c s x s' cs he hcs B M0 rho a w hm hf
 exact h B M0 rho a w hm hf c s x s' cs he hcs
theorem zca {wr:List Nat} {m:M (AV × List Row)} {Q:Out→Prop} (h:Spec m fun p=>Q ⟨p.1,p.2,wr⟩):Spec (zpc wr m) Q:=
 Spec.bind (h.mono fun _ hv=>Spec.pure' hv)
theorem zcC {rho:List Nat} {rows:List Row} {b:Nat} (h:rho.length=rows.length):(rho++[b])[rows.length]? = some b:=by
 rw [← h];simp
theorem alloc_run (hg:g.OK) {t:TypeId} (ho:o.op=.alloc t):Spec (zpc st.wr (allocA g st.rows t)) fun r=>RunOK g.P st o r:=by
 refine OZ fun B M0 rho a w hm hf=>zca ?_
 unfold allocA
 refine Spec.bind (tZ hg fun i d z hi hd hz=>Spec.pure' ?_)
 dsimp only
 have hs:=zcG (wr:=st.wr) (e:=t) hm (row:=.flat (z.cells.toList.map .lit) true) (c:=z.cells) (zhg (zne z))
 refine ⟨_,_,_,.pointer (some ⟨w.heap.size,0,none⟩),?_,.inl rfl,hs,.ref (zcC hm.len)⟩
 simp only [execOp,ho,Instr.alloc,Sem.run_bind,VZ hi hz,Result.andThen_ok,newVar,newRow,run_newObj,Sem.run_pure,World.alloc_eq]
theorem box_run {t:TypeId} {x:Operand} (ho:o.op=.box t x):Spec (zpc st.wr (boxA st.rows (pZ st.tm x))) fun r=>RunOK g.P st o r:=by
 refine OZ fun B M0 rho a w hm hf=>zca ?_
 unfold boxA
 refine Spec.bind (Spec.ofOpt fun vc hvc=>Spec.pure' ?_)
 have hcr:=zfq hvc (hf.eval x)
 have hs:=zcG (wr:=st.wr) (e:=t) hm (row:=.flat vc true) (c:=(a.eval x).cells) (zhg hcr)
 refine ⟨_,_,_,.pointer (some ⟨w.heap.size,0,none⟩),?_,.inl rfl,hs,.ref (zcC hm.len)⟩
 simp only [execOp,ho,Instr.box,Sem.run_bind,newVar,newRow,run_newObj,Result.andThen_ok,Sem.run_pure,World.alloc_eq]
theorem zct:∀ {cs:List AV} {l:List Int},zeB cs=some l→cs=l.map fun n=>AV.lit (.int .i64 n)
 | [],l,h=>by cases h;rfl
 | x :: cs,l,h=>by
  unfold zeB at h
  split at h
  ·rename_i h1;cases h1
  ·rename_i n l' heq
   cases heq
   split at h
   ·rename_i r hr
    cases h
    rw [zct hr];rfl
   ·cases h
  ·cases h
theorem zqB {E:Env} {b:Bool} {cs:List AV} {c:Array Value} (h:CR E cs c):RowFits E (rowOf b cs) c∧(rowOf b cs).live=true:=by
 unfold rowOf
 split
 ·rename_i l hl
  have:=zct hl
  subst this
  refine ⟨⟨by have:=h.1;simp at this;omega,fun i hi=>?_⟩,rfl⟩
  have h1:=h.2 i (by simpa using hi)
  have h2:(l.map fun n=>AV.lit (.int .i64 n)).getD i .junk=.lit (.int .i64 (l.getD i 0)):=by simp [List.getD,hi]
  rw [h2] at h1
  have h3:=h1.lit_inv
  have hc:i<c.size:=by have:=h.1;simp at this;omega
  simp_all
 ·exact ⟨zhg h,rfl⟩
theorem UZ (z:List AV):∀n,(zmd n z).length=n*z.length
 | 0=>by simp [zmd]
 | n+1=>by simp [zmd,UZ z n,Nat.succ_mul,Nat.add_comm]
theorem zdE (z:List AV) (hz:0<z.length):∀n i,i<n*z.length→(zmd n z).getD i .junk=z.getD (i % z.length) .junk
 | 0,i,h=>by simp at h
 | n + 1,i,h=>by
  simp only [zmd,List.getD]
  by_cases hi:i<z.length
  ·rw [List.getElem?_append_left hi,Nat.mod_eq_of_lt hi]
  ·rw [List.getElem?_append_right (by omega)]
   have h':i-z.length<n*z.length:=by rw [Nat.succ_mul] at h;omega
   have:=zdE z hz n (i-z.length) h'
   simp only [List.getD] at this
   rw [this,← Nat.mod_eq_sub_mod (show i≥z.length by omega)]
theorem zkf {E:Env} (z:Value) (n:Nat) (hz:0<z.cells.size):CR E (zmd n (z.cells.toList.map .lit)) ((Array.range (n*z.cells.size)).map fun i=>z.cells[i % z.cells.size]!):=by
 refine ⟨by simp [UZ],fun i hi=>?_⟩
 have hi':i<n*z.cells.size:=by simpa [UZ] using hi
 rw [zdE _ (by simpa using hz) n i (by simpa using hi')]
 have hm:i % z.cells.size<z.cells.size:=Nat.mod_lt _ hz
 have e1:(z.cells.toList.map AV.lit).getD (i % (z.cells.toList.map AV.lit).length) .junk=.lit (z.cells.getD (i % z.cells.size) undef):=by
  simp [List.getD,hm]
 have e2:((Array.range (n*z.cells.size)).map fun i=>z.cells[i % z.cells.size]!).getD i undef=z.cells.getD (i % z.cells.size) undef:=by
  simp [Array.getD,hi',hm]
 rw [e1,e2];exact .lit _
theorem zbt {w:World} {c:Array Value} {e:TypeId}:YZ (w.alloc (.cells c e)).heap w.heap.size=c.size:=by
 unfold YZ;rw [heap_alloc_new]
theorem zix (hg : g.OK) {t:TypeId} {n:Nat} {parts:Array (Nat × Operand)} (ho:o.op=.buildSlice t n parts) :
 Spec (zpc st.wr (zch g st.rows t n (zeH st.tm parts.toList))) fun r=>RunOK g.P st o r:=by
 refine OZ fun B M0 rho a w hm hf=>zca ?_
 obtain ⟨p1,p2⟩:=zdC hf parts.toList
 have htl:(parts.map fun(i,x)=>(i,a.eval x)).toList=parts.toList.map fun(i,x)=>(i,a.eval x):=by simp
 unfold zch
 refine Spec.bind (tZ hg fun i d z hi hd hz=>?_)
 dsimp only
 split
 ·rename_i e htk
  have hd':=TZ htk;subst hd'
  refine Spec.bind (tZ hg fun i2 d2 z2 hi2 hd2 hz2=>?_)
  dsimp only
  split
  ·exact Spec.fail
  ·rename_i hc
   have c1:0<i2.size:=by omega
   have c2:¬(16777216<n*i2.size):=by omega
   have c3:z2.cells.toList.length=i2.size:=by
    omega
   have c3':z2.cells.size=i2.size:=by simpa using c3
   refine Spec.bind (Spec.ofOpt fun cs hcs=>?_)
   split
   ·refine Spec.pure' ?_
    have hz0:=zkf (E:=iZ M0 st.rows rho w) z2 n (by omega)
    rw [c3'] at hz0
    obtain ⟨arr',f1,f2⟩:=zhf hcs hz0 p1 p2
    obtain ⟨r1,r2⟩:=zqB (b:=isI64 (zdM d2)) f2
    have hs:=zcG (wr:=st.wr) (e:=e) hm r1
    have hsz' : arr'.size=n*i2.size:=by
     have h1:=f2.1
     have h2:=hz0.1
     have h3 : cs.length=(zmd n (z2.cells.toList.map AV.lit)).length:=by
      clear f1 f2 r1 r2 hs h1
      revert hcs
      generalize zmd n (z2.cells.toList.map AV.lit)=l0
      generalize zeH st.tm parts.toList=ps
      intro hcs
      induction ps generalizing l0 with
      | nil=>cases hcs;rfl
      | cons p ps ih=>
       obtain ⟨j,x⟩:=p
       unfold ziB at hcs
       split at hcs
       ·split at hcs
        ·rename_i hh
         rw [ih _ hcs,zaR hh.2]
        ·cases hcs
       ·cases hcs
     simp_all
    refine ⟨_,_,_,.slice (some ⟨w.heap.size,0,none⟩) n n,?_,.inl rfl,hs,.own (zcC hm.len) (by show w.heap.size<(w.alloc (.cells arr' e)).heap.size;simp) (Nat.le_refl _) ?_⟩
    ·have hne:¬(n*i2.size=0)∨n*i2.size=0:=by omega
     have hr:(Instr.buildSlice t n (parts.map fun(i,x)=>(i,a.eval x))).run g.P w=.ok (.slice (some ⟨w.heap.size,0,none⟩) n n) (w.alloc (.cells arr' e)):=by
      unfold Instr.buildSlice
      simp only [Sem.run_bind,run_underlying hd,Result.andThen_ok,qZ hi2]
      have h24:¬(n*i2.size > 2 ^ 24):=by omega
      simp only [if_neg h24]
      by_cases h0:n*i2.size=0
      ·have hn0:(Array.range 0).map (fun(k:Nat)=>z2.cells[k % i2.size]!)=(Array.range 0).map (fun(k:Nat)=>(#[]:Array Value)[k % (#[]:Array Value).size]!):=by simp
       rw [h0] at f1
       simp only [h0,if_true,Sem.run_bind,Sem.run_pure,Result.andThen_ok]
       rw [hn0] at f1
       rw [htl,f1]
       rfl
      ·simp only [if_neg h0,Sem.run_bind,VZ hi2 hz2,Result.andThen_ok,Sem.run_pure,c3']
       rw [htl,f1]
       rfl
     simp only [execOp,ho,Sem.run_bind,hr,Result.andThen_ok,Sem.run_pure]
    ·show 0+n*i2.size≤YZ (w.alloc (.cells arr' e)).heap w.heap.size
     rw [zbt];omega
   ·exact Spec.fail
 ·exact Spec.fail
end
section
variable {g:Cfg} {n0:Nat→Prop} {st:St} {o:Oper}
theorem zo8 {E:Env} {x:AV} {v:Value} (h:Rd E x v) (hx:zcN x=true):v.oneCell'=true:=by
 cases h<;>first | rfl | exact hx | (cases hx;done) | (rename_i h1;obtain ⟨_,_,rfl,_,_⟩:=zji h1;rfl)
theorem zb6 {E:Env} {vc:List AV} {arr:Array Value} (h:CR E vc arr) (hc:vc.all zcN=true):∀v∈arr.toList,v.oneCell'=true:=by
 intro v hv
 obtain ⟨i,hi,he⟩:=List.getElem_of_mem hv
 have hi':i<vc.length:=by have:=h.1;simp at hi;omega
 have h1:=h.2 i hi'
 have h2:arr.getD i undef=v:=by
  have hia:i<arr.size:=by simpa using hi
  simp_all
 rw [h2] at h1
 refine zo8 h1 ?_
 simp_all
theorem zej (cur:Array Value) (vs:List Value) (off:Nat) (h:off+vs.length≤cur.size) :
 ((cur.toList.take off++vs++cur.toList.drop (off+vs.length)).toArray).size=cur.size ∧
 ∀i,((cur.toList.take off++vs++cur.toList.drop (off+vs.length)).toArray)[i]? = if off≤i∧i<off+vs.length then vs[i-off]? else cur[i]?:=by
 refine ⟨by simp;omega,fun i=>?_⟩
 grind
theorem zaQ {a:Array Value} {i:Nat}:a.getD i undef=(a[i]?).getD undef:=by simp
theorem zex {E:Env} {cs vc:List AV} {cur arr:Array Value} {off:Nat} {b:Bool} (h:RowFits E (.flat cs b) cur) (hv:CR E vc arr) (hl:off+vc.length≤cs.length) :
 RowFits E (.flat (over cs off vc) true) (cur.toList.take off++arr.toList++cur.toList.drop (off+arr.toList.length)).toArray:=by
 have h0:=h.1
 have hv1:=hv.1
 have e1:arr.toList.length=vc.length:=by simp;omega
 obtain ⟨s1,s2⟩:=zej cur arr.toList off (by rw [e1];omega)
 refine ⟨by rw [zaR hl,s1];exact h0,fun i hi=>?_⟩
 rw [zaR hl] at hi
 rw [zn1 hl,zaQ,s2,e1]
 by_cases hin:off≤i∧i<off+vc.length
 ·rw [if_pos hin,if_pos hin]
  have:=hv.2 (i-off) (by omega)
  simp_all
 ·rw [if_neg hin,if_neg hin]
  have:=h.2 i hi
  simp_all
theorem yZ {rows:List Row} {r:Nat} {row:Row} (h:rows.getD r .dead=row) (hne:row≠.dead):rows[r]? = some row:=by
 grind
theorem store_run (hg:g.OK) {t:TypeId} {a v:Operand} (ho:o.op=.store t a v) :
 Spec (do let ti ← ty g t;let rows ← zlZ st.rows ti (pZ st.tm a) (pZ st.tm v);M.pure (⟨.lit undef,rows,zod (pZ st.tm a) :: st.wr⟩:Out)) fun r=>RunOK g.P st o r:=by
 refine OZ fun B M0 rho act w hm hf=>?_
 refine Spec.bind (tZ hg fun i d z hi hd hz=>?_)
 have exec:∀(ad:Addr) (w':World),act.eval a=.pointer (some ad)→(storeVar t ad (act.eval v)).run g.P w=.ok () w'→(execOp act.eval o).run g.P w=.ok .skip w':=by
  intro ad w' he hr
  simp only [execOp,ho,Instr.storeAt,he,Instr.sureAddr,Sem.run_bind,Sem.run_pure,Result.andThen_ok,hr]
 unfold zlZ
 split
 ·rename_i r off hx
  have hax:=hf.eval a
  rw [hx] at hax
  generalize heq:act.eval a=u at hax
  cases hax with
  | @ref _ _ b hr=>
   have hrho:rho[r]? = some b:=hr
   split
   ·rename_i cs hrow
    refine Spec.bind (Spec.bind (Spec.ofOpt fun vc hvc=>?_))
    split
    ·rename_i hc
     obtain ⟨c1,c2,c3⟩:=hc
     refine Spec.pure' (Spec.pure' ?_)
     have hrows:=yZ hrow (by simp)
     obtain ⟨c,e,hb,hfit⟩:=hm.row r _ b hrows hrho
     have hcr:=zfq hvc (hf.eval v)
     have hsp:=zej c (act.eval v).cells.toList off (by have:=hcr.1;have:=hfit.1;simp;omega)
     have hs:=zce (wr:=st.wr) (c':=(c.toList.take off++(act.eval v).cells.toList++c.toList.drop (off+(act.eval v).cells.toList.length)).toArray) (row':=.flat (over cs off vc) true) hm hrows rfl hrho hb hsp.1 rfl (zex (b:=true) hfit hcr c2)
     refine ⟨.skip,_,rho,undef,exec ⟨b,off,none⟩ _ heq ?_,.inr ⟨rfl,rfl⟩,by rw [hx];exact hs,.lit _⟩
     unfold storeVar
     have hsz:(act.eval v).cells.size=i.size:=by have:=hcr.1;simp only at c1;omega
     simp only [Sem.run_bind,qZ hi,Result.andThen_ok,hsz,ne_eq,not_true_eq_false,if_false]
     have hst:=run_storeCells_at (P:=g.P) b off e (act.eval v).cells.toList 0 c w hb (by grind) (zb6 hcr c3)
     simpa using hst
    ·exact Spec.fail
   ·rename_i l hrow
    split
    ·rename_i n hvx
     split
     ·rename_i hsz1
      refine Spec.bind (Spec.bind (Spec.chk fun hlt=>Spec.pure' (Spec.pure' ?_)))
      have hlt':off<l.length:=by simpa using hlt
      have hrows:=yZ hrow (by simp)
      obtain ⟨c,e,hb,hlc,hcs⟩:=hm.row r _ b hrows hrho
      have hv:=hf.eval v
      rw [hvx] at hv
      have hvv:=hv.lit_inv
      have hsp:=zej c [.int .i64 n] off (by simp;omega)
      have hfit:RowFits (iZ M0 st.rows rho w) (.ints (l.set off n) true) (c.toList.take off++[Value.int .i64 n]++c.toList.drop (off+[Value.int .i64 n].length)).toArray:=by
       refine ⟨by rw [hsp.1];simpa using hlc,fun k hk=>?_⟩
       grind
      have hs:=zce (wr:=st.wr) hm hrows rfl hrho hb hsp.1 rfl hfit
      refine ⟨.skip,_,rho,undef,exec ⟨b,off,none⟩ _ heq ?_,.inr ⟨rfl,rfl⟩,by rw [hx];exact hs,.lit _⟩
      unfold storeVar
      have hcells:(act.eval v).cells = #[.int .i64 n]:=by rw [hvv];rfl
      have hsz1':i.size=1:=hsz1
      simp only [Sem.run_bind,qZ hi,Result.andThen_ok,hcells,hsz1']
      have hst:=run_storeCells_at (P:=g.P) b off e [.int .i64 n] 0 c w hb (by simp;omega) (by simp [Value.oneCell'])
      simpa using hst
     ·exact Spec.bind Spec.fail
    ·exact Spec.bind Spec.fail
   ·exact Spec.bind Spec.fail
 ·exact Spec.bind Spec.fail
theorem zjQ (hg:g.OK) {t:TypeId} {l c:Operand} (ho:o.op=.makeSlice t l c) :
 Spec (zpc st.wr (zdA g st.rows t (pZ st.tm l) (pZ st.tm c))) fun r=>RunOK g.P st o r:=by
 refine OZ fun B M0 rho a w hm hf=>zca ?_
 unfold zdA
 refine Spec.bind (tZ hg fun i d z hi hd hz=>?_)
 dsimp only
 split
 ·rename_i e htk
  have hd':=TZ htk;subst hd'
  refine Spec.bind (tZ hg fun i2 d2 z2 hi2 hd2 hz2=>?_)
  refine Spec.bind (Spec.ofOpt fun nl hnl=>Spec.bind (Spec.ofOpt fun nc hnc=>?_))
  refine Spec.bind (Spec.chk fun c1=>Spec.bind (Spec.chk fun c2=>Spec.bind (Spec.chk fun c3=>Spec.bind (Spec.chk fun c4=>?_))))
  simp only [decide_eq_true_eq] at c1 c2 c3 c4
  obtain ⟨kl,hkl⟩:=(hf.eval l).asI hnl
  obtain ⟨kc,hkc⟩:=(hf.eval c).asI hnc
  have wl:IntKind.i64.wrap nl=nl:=zaT (by simp [inR,IntKind.min,IntKind.max,IntKind.signed,IntKind.bits];omega)
  have wc:IntKind.i64.wrap nc=nc:=zaT (by simp [inR,IntKind.min,IntKind.max,IntKind.signed,IntKind.bits];omega)
  have hp48:(2:Int) ^ 48=281474976710656:=by decide
  have run:z2.cells.size=i2.size→0<i2.size→(Instr.makeSlice t (a.eval l) (a.eval c)).run g.P w =
   .ok (.slice (some ⟨w.heap.size,0,none⟩) nl.toNat nc.toNat) (w.alloc (.cells ((Array.range (nc.toNat*i2.size)).map fun(k:Nat)=>z2.cells[k % z2.cells.size]!) e)):=by
   intro hzs hpos
   have h1:¬((decide (nc<0)||decide ((i2.bytes:Int)*nc > 2 ^ 48)||decide (nl<0)||decide (nl > nc))=true):=by
    grind
   simp only [Instr.makeSlice,Sem.run_bind,run_underlying hd,Result.andThen_ok,asInt,hkl,hkc,asIntOf,Sem.run_pure,zbp hi2,wl,wc]
   rw [if_neg h1]
   simp only [Sem.run_bind,run_askRoom,Result.andThen_ok,qZ hi2]
   by_cases h0:nc.toNat*i2.size=0
   ·simp only [h0,if_true,Sem.run_bind,Sem.run_pure,Result.andThen_ok,newRow,run_newObj,World.alloc_eq]
    grind
   ·simp only [if_neg h0,Sem.run_bind,VZ hi2 hz2,Result.andThen_ok,Sem.run_pure,newRow,run_newObj,World.alloc_eq]
  have hcl:nl.toNat≤nc.toNat:=by omega
  dsimp only
  split
  ·rename_i hc
   obtain ⟨hk,hz1,hs1⟩:=hc
   have hs1':i2.size=1:=hs1
   have hzl:=zct hz1
   have hzc:z2.cells = #[.int .i64 0]:=by
    have h1:z2.cells.toList.map AV.lit=[AV.lit (.int .i64 0)]:=hzl
    have h2:z2.cells.toList.length=1:=by simp_all
    match h3:z2.cells.toList,h2 with
    | [v],_=>
     grind
   have hzs:z2.cells.size=i2.size:=by rw [hzc,hs1'];rfl
   refine Spec.pure' ?_
   have hrun:=run hzs (by omega)
   rw [hs1',Nat.mul_one] at hrun
   have hfit:RowFits (iZ M0 st.rows rho w) (.ints (List.replicate nl.toNat 0) true) ((Array.range nc.toNat).map fun(k:Nat)=>z2.cells[k % z2.cells.size]!):=by
    refine ⟨by simp;omega,fun k hk=>?_⟩
    grind
   have hs:=zcG (wr:=st.wr) (e:=e) hm hfit
   refine ⟨_,_,_,_,by simp only [execOp,ho,Sem.run_bind,hrun,Result.andThen_ok,Sem.run_pure],.inl rfl,hs,.own (zcC hm.len) ?_ hcl ?_⟩
   ·show w.heap.size<(w.alloc _).heap.size;simp
   ·show 0+nc.toNat*1≤YZ (w.alloc _).heap w.heap.size
    rw [zbt];simp
  ·split
   ·exact Spec.fail
   ·rename_i hc
    have hpos:0<i2.size:=by omega
    have hzs:z2.cells.size=i2.size:=by
     simp_all
    refine Spec.pure' ?_
    have hcr:=zkf (E:=iZ M0 st.rows rho w) z2 nc.toNat (by omega)
    have hfit:RowFits (iZ M0 st.rows rho w) (.flat (zmd nl.toNat (z2.cells.toList.map .lit)) true) ((Array.range (nc.toNat*z2.cells.size)).map fun(k:Nat)=>z2.cells[k % z2.cells.size]!):=by
     have hmul:nl.toNat*z2.cells.size≤nc.toNat*z2.cells.size:=Nat.mul_le_mul_right _ hcl
     refine ⟨by simp [UZ,hmul],fun k hk=>?_⟩
     have hk':k<nl.toNat*z2.cells.size:=by simpa [UZ] using hk
     have:=hcr.2 k (by simp [UZ];omega)
     rw [zdE _ (by simp;omega) _ _ (by simpa using hk')]
     rw [zdE _ (by simp;omega) _ _ (by simp;omega)] at this
     exact this
    rw [hzs] at hfit
    have hrun:=run hzs hpos
    rw [hzs] at hrun
    have hs:=zcG (wr:=st.wr) (e:=e) hm hfit
    refine ⟨_,_,_,_,by simp only [execOp,ho,Sem.run_bind,hrun,Result.andThen_ok,Sem.run_pure],.inl rfl,hs,.own (zcC hm.len) ?_ hcl ?_⟩
    ·show w.heap.size<(w.alloc _).heap.size;simp
    ·show 0+nc.toNat*i2.size≤YZ (w.alloc _).heap w.heap.size
     rw [zbt];simp
 ·exact Spec.fail
end
section
variable {P:Program} (w:World)
theorem zh2 (t ty e:TypeId) (i:TypeInfo) (z:Value) (ht:P.underlying t=some (.slice e)) (hi:P.info? e=some i) (hz:i.zero=some z)
 (a:Option Addr) (n c:Nat) (news:List Value) (hsrc:∀w':World,w'.heap=w.heap→(Builtin.firstCells i.size n (.slice a n c)).run P w'=.ok news.toArray w')
 (h0:0<n) (h63:(n:Int)≤9223372036854775807) (h48:n*i.bytes≤281474976710656) :
 (Builtin.append_ #[t,t] ty #[.slice none 0 0,.slice a n c]).run P w =
  .ok (.slice (some ⟨w.heap.size,0,none⟩) n (grownCap w n 0 e)) (w.drew.alloc (.cells (news.toArray++Builtin.zeroCells z.cells (grownCap w n 0 e-n)) e)):=by
 have hn:n≠0:=by omega
 have h63':¬(9223372036854775807<(n:Int)):=by omega
 have h48':¬(281474976710656<Builtin.nextslicecap n 0*i.bytes):=by rw [nextslicecap_zero h0];omega
 have hf:=hsrc w.drew rfl
 simp [Builtin.append_,run_underlying ht,sizeOf,typeInfo,zeroValue,hi,hz,Builtin.lenOf,hn,h63',h48',Question.forced,run_firstCells_none,hf,newRow,grownCap]
theorem zgk (t ty e:TypeId) (i:TypeInfo) (z:Value) (ht:P.underlying t=some (.slice e)) (hi:P.info? e=some i) (hz:i.zero=some z)
 (b:Addr) (sLen sCap:Nat) (olds:List Value) (hlo:olds.length=sLen*i.size) (holds:∀j v,olds[j]? = some v→w.cell? (b.add j)=some v)
 (a:Option Addr) (n c:Nat) (news:List Value) (hsrc:∀w':World,w'.heap=w.heap→(Builtin.firstCells i.size n (.slice a n c)).run P w'=.ok news.toArray w')
 (hg:sCap<sLen+n) (h63:((sLen+n:Nat):Int)≤9223372036854775807) (hfit:Builtin.nextslicecap (sLen+n) sCap*i.bytes≤281474976710656) :
 (Builtin.append_ #[t,t] ty #[.slice (some b) sLen sCap,.slice a n c]).run P w =
  .ok (.slice (some ⟨w.heap.size,0,none⟩) (sLen+n) (grownCap w (sLen+n) sCap e))
   (w.drew.alloc (.cells (olds.toArray++news.toArray++Builtin.zeroCells z.cells (grownCap w (sLen+n) sCap e-(sLen+n))) e)):=by
 have hn:¬(sLen+n≤sCap):=by omega
 have h63':¬(9223372036854775807<((sLen:Int)+(n:Int))):=by omega
 have h48':¬(281474976710656<Builtin.nextslicecap (sLen+n) sCap*i.bytes):=by omega
 have hf:=hsrc w.drew rfl
 have hfo:=run_firstCells_some (P:=P) w.drew i.size sLen b sLen sCap olds hlo (by simpa using holds)
 simp [Builtin.append_,run_underlying ht,sizeOf,typeInfo,zeroValue,hi,hz,Builtin.lenOf,hn,h63',h48',Question.forced,hf,hfo,newRow,grownCap]
 grind
theorem zgl (t ty e e':TypeId) (i:TypeInfo) (ht:P.underlying t=some (.slice e)) (hi:P.info? e=some i)
 (g sLen sCap:Nat) (cur:Array Value) (hg:w.heap[g]? = some (.cells cur e' (0,0)))
 (a:Option Addr) (m c:Nat) (news:List Value) (hsrc:∀w':World,w'.heap=w.heap→(Builtin.firstCells i.size m (.slice a m c)).run P w'=.ok news.toArray w') (h1:∀u∈news,u.oneCell'=true)
 (hroom:sLen+m≤sCap) (hfit:sLen*i.size+news.length≤cur.size) :
 (Builtin.append_ #[t,t] ty #[.slice (some ⟨g,0,none⟩) sLen sCap,.slice a m c]).run P w =
  .ok (.slice (some ⟨g,0,none⟩) (sLen+m) sCap) (w.setRow g (cur.toList.take (sLen*i.size)++news++cur.toList.drop (sLen*i.size+news.length)).toArray):=by
 have hf:=hsrc w rfl
 have hst:=run_storeCells_at P g (sLen*i.size) e' news 0 cur w hg (by simpa using hfit) h1
 simp only [Nat.add_zero] at hst
 simp [Builtin.append_,run_underlying ht,sizeOf,typeInfo,hi,Builtin.lenOf,hroom,hf,Addr.add_lit,hst]
end
section
variable {g:Cfg} {n0:Nat→Prop} {st:St} {o:Oper}
theorem zkr {B:Nat} {M0:Nat→Prop} {rows:List Row} {rho:List Nat} {wr:List Nat} {w:World} (hm:Mem B M0 rows rho w):Stp B M0 rows rho wr w rows rho wr w.drew:=
 ⟨⟨Nat.le_refl _,fun _ _ h=>⟨rfl,h⟩,fun _ _ h=>h,fun _ _=>rfl⟩,⟨hm.hB,hm.m0,hm.len,hm.bnd,hm.row,hm.inj⟩,(Below.refl B w).drew,Nat.le_refl _,fun _ h _=>h,fun _ row _ _ h1 h2 h3 _=>⟨rfl,h3,row,h1,h2⟩⟩
def ElRd (E:Env) (el:List AV ⊕ List Int) (news:List Value):Prop:=
 match el with
 | .inl cs=>CR E cs news.toArray
 | .inr l=>news=l.map fun n=>Value.int .i64 n
def zmf (el:List AV ⊕ List Int) (m sz:Nat):Prop:=
 match el with
 | .inl cs=>cs.length=m*sz
 | .inr l=>l.length=m∧sz=1
theorem zew {B:Nat} {M0:Nat→Prop} {rows:List Row} {rho:List Nat} {w:World} (hm:Mem B M0 rows rho w) {sz m:Nat} {x:AV} {el:List AV ⊕ List Int} {v:Value}
 (he:zby rows sz x=some (m,el)) (hv:Rd (iZ M0 rows rho w) x v) (hlen:zmf el m sz) :
 ∃a c news,v=.slice a m c∧news.length=m*sz∧ElRd (iZ M0 rows rho w) el news ∧
  ∀k,k≤m→∀(P:Program) (w':World),w'.heap=w.heap→(Builtin.firstCells sz k (.slice a m c)).run P w'=.ok (news.take (k*sz)).toArray w':=by
 have some_run:∀ {b o c:Nat} {news:List Value},news.length=m*sz→(∀j u,news[j]? = some u→AZ w.heap b (o+j)=some u) →
  ∀k,k≤m→∀(P:Program) (w':World),w'.heap=w.heap→(Builtin.firstCells sz k (.slice (some ⟨b,o,none⟩) m c)).run P w'=.ok (news.take (k*sz)).toArray w':=by
  intro b o c news hl hn k hk P w' hw
  have hmul:k*sz≤m*sz:=Nat.mul_le_mul_right _ hk
  refine run_firstCells_some w' sz k ⟨b,o,none⟩ m c (news.take (k*sz)) (by simp;omega) (fun j u hu=>?_)
  have hj:j<k*sz:=by grind
  rw [List.getElem?_take,if_pos hj] at hu
  rw [zcV,cell?_eq,hw];exact hn j u hu
 unfold zby at he
 split at he
 ·rename_i r off n sz'
  split at he
  ·rename_i cs lv hrow
   split at he
   ·rename_i hc
    cases he
    obtain ⟨rfl,c2⟩:=hc
    cases hv with
    | @own _ _ _ _ b cap hr hs hcap hb=>
     obtain ⟨c,e,hbk,hlc,hcs⟩:=hm.row r _ b (yZ hrow (by simp)) hr
     have hbk':w.heap[b]? = some (.cells c e (0,0)):=hbk
     have hnl:((c.toList.drop off).take (m*sz)).length=m*sz:=by simp;omega
     have hget:∀j,j<m*sz→((c.toList.drop off).take (m*sz))[j]? = c[off+j]?:=by
      simp_all
     refine ⟨_,cap,(c.toList.drop off).take (m*sz),rfl,hnl,⟨by simp;omega,fun i hi=>?_⟩,some_run hnl fun j u hu=>?_⟩
     ·have hi':i<m*sz:=by simp at hi;omega
      have h1:((cs.drop off).take (m*sz)).getD i .junk=cs.getD (off+i) .junk:=by
       grind
      have h2:(((c.toList.drop off).take (m*sz)).toArray).getD i undef=c.getD (off+i) undef:=by
       rw [zaQ,zaQ,List.getElem?_toArray,hget i hi']
      grind
     ·have hj:j<m*sz:=by grind
      rw [hget j hj] at hu
      simp only [AZ,hbk'];exact hu
   ·cases he
  ·rename_i l lv hrow
   split at he
   ·rename_i hc
    cases he
    obtain ⟨rfl,rfl,rfl⟩:=hc
    cases hv with
    | @own _ _ _ _ b cap hr hs hcap hb=>
     obtain ⟨c,e,hbk,hlc,hcs⟩:=hm.row r _ b (yZ hrow (by simp)) hr
     have hbk':w.heap[b]? = some (.cells c e (0,0)):=hbk
     have hnl:((l.take m).map fun n=>Value.int .i64 n).length=m*1:=by have h1:(l.take m).length=m:=hlen.1;simpa using h1
     refine ⟨_,cap,(l.take m).map fun n=>Value.int .i64 n,rfl,hnl,rfl,some_run hnl fun j u hu=>?_⟩
     have hj:j<(l.take m).length:=by grind
     have hjl:j<l.length:=by simp at hj;omega
     have hjn:j<m:=by simp at hj;omega
     simp only [AZ,hbk',Nat.zero_add]
     simp_all
   ·cases he
  ·rename_i k l lv hrow
   split at he
   ·rename_i hc
    cases he
    obtain ⟨rfl,rfl,hsz,hnle⟩:=hc
    have hcl:=sZ k l
    have hnm:m*sz'≤l.length*k.sz:=by rw [hsz];exact Nat.mul_le_mul_right _ hnle
    cases hv with
    | @own _ _ _ _ b cap hr hs hcap hb=>
     obtain ⟨c,e,hbk,hlc,hcs⟩:=hm.row r _ b (yZ hrow (by simp)) hr
     have hbk':w.heap[b]? = some (.cells c e (0,0)):=hbk
     have hnl:((c.toList.drop 0).take (m*sz')).length=m*sz':=by simp;omega
     have hget:∀j,j<m*sz'→((c.toList.drop 0).take (m*sz'))[j]? = c[0+j]?:=by
      simp_all
     refine ⟨_,cap,(c.toList.drop 0).take (m*sz'),rfl,hnl,⟨by simp;omega,fun i hi=>?_⟩,some_run hnl fun j u hu=>?_⟩
     ·have hi':i<m*sz':=by simp at hi;omega
      have h1:((hZ k l).take (m*sz')).getD i .junk=(hZ k l).getD (0+i) .junk:=by
       grind
      have h2:(((c.toList.drop 0).take (m*sz')).toArray).getD i undef=c.getD (0+i) undef:=by
       rw [zaQ,zaQ,List.getElem?_toArray,hget i hi']
      grind
     ·have hj:j<m*sz':=by grind
      rw [hget j hj] at hu
      simp only [AZ,hbk'];exact hu
   ·cases he
  ·cases he
 ·rename_i cs n
  split at he
  ·rename_i hc
   cases he
   cases hv with
   | @sl0 _ a cap=>
    have hnil:cs=[]:=by simp_all
    subst hnil
    refine ⟨a,cap,[],rfl,by simp,⟨rfl,fun i hi=>by simp at hi⟩,fun k hk P w' hw=>?_⟩
    have hk0:k=0:=by omega
    subst hk0
    cases a with
    | none=>simp [Builtin.firstCells]
    | some ad=>
     have:=run_firstCells_some (P:=P) w' sz 0 ad 0 cap [] (by simp) (fun j u hu=>by simp at hu)
     simpa using this
   | @sl _ _ b base cap vals hs hM hcap hv hr=>
    have hnl:((List.range cs.length).map vals).length=m*sz:=by simpa using hc
    refine ⟨_,cap,(List.range cs.length).map vals,rfl,hnl,⟨by simp,fun i hi=>?_⟩,some_run hnl fun j u hu=>?_⟩
    ·simp_all
    ·have hj:j<cs.length:=by grind
     have:=hv j hj
     simp [hj] at hu
     rw [← hu];exact this
  ·cases he
 ·rename_i k l
  split at he
  ·rename_i hsz
   cases he
   have hc:(hZ k l).length=l.length*sz:=by rw [hsz];exact sZ k l
   cases hv with
   | lst hv=>
    generalize hN:l.length=m at hv hc hlen some_run
    generalize hcs:hZ k l=cs at hv hc hlen
    cases hv with
    | @sl0 _ a cap=>
     have hnil:cs=[]:=by simp_all
     subst hnil
     refine ⟨a,cap,[],rfl,by simp,⟨rfl,fun i hi=>by simp at hi⟩,fun k hk P w' hw=>?_⟩
     have hk0:k=0:=by omega
     subst hk0
     cases a with
     | none=>simp [Builtin.firstCells]
     | some ad=>
      have:=run_firstCells_some (P:=P) w' sz 0 ad 0 cap [] (by simp) (fun j u hu=>by simp at hu)
      simpa using this
    | @sl _ _ b base cap vals hs hM hcap hv hr=>
     have hnl:((List.range cs.length).map vals).length=m*sz:=by simpa using hc
     refine ⟨_,cap,(List.range cs.length).map vals,rfl,hnl,⟨by simp,fun i hi=>?_⟩,some_run hnl fun j u hu=>?_⟩
     ·simp_all
     ·have hj:j<cs.length:=by grind
      have:=hv j hj
      simp [hj] at hu
      rw [← hu];exact this
  ·cases he
 ·split at he
  ·rename_i l hl
   split at he
   ·rename_i hsz
    cases he
    subst hsz
    obtain ⟨a,cap,rfl,hcap,hat⟩:=zaU hl hv
    have hnl:(l.map fun n=>Value.int .i64 n).length=l.length*1:=by simp
    refine ⟨a,cap,l.map fun n=>Value.int .i64 n,rfl,hnl,rfl,?_⟩
    rcases hat with rfl | ⟨b,base,rfl,hM,hcell⟩
    ·intro k hk P w' hw
     have hk0:k=0:=by simpa using hk
     subst hk0
     cases a with
     | none=>simp [Builtin.firstCells]
     | some ad=>
      rfl
    ·refine some_run hnl fun j u hu=>?_
     have hj:j<l.length:=by grind
     have:=hcell j hj
     simp [hj] at hu
     rw [← hu]
     have e1:l.getD j 0=l[j]:=by simp [List.getD,hj]
     rw [e1] at this;exact this
   ·cases he
  ·cases he
end
section
variable {g:Cfg} {n0:Nat→Prop} {st:St} {o:Oper}
theorem zaI {rows:List Row} {r s:Nat} {row q:Row} (hrl:r<rows.length) (h:(rows.set r row)[s]? = some q):(s=r∧q=row)∨(s≠r∧rows[s]? = some q):=by
 grind
theorem stp_kill {B:Nat} {M0:Nat→Prop} {rows:List Row} {rho:List Nat} {wr:List Nat} {w:World} (hm:Mem B M0 rows rho w) {r:Nat} (hrl:r<rows.length) :
 Stp B M0 rows rho wr w (rows.set r .dead) rho (r :: wr) w:=by
 have hM:∀k,¬zcU M0 rows rho k→¬zcU M0 (rows.set r .dead) rho k:=by
  rintro k hk (h0 | ⟨s,q,h1,h2,h3⟩)
  ·exact hk (.inl h0)
  ·rcases zaI hrl h1 with ⟨rfl,rfl⟩ | ⟨_,k1⟩
   ·cases h2
   ·exact hk (.inr ⟨s,q,k1,h2,h3⟩)
 have hext:Ext (iZ M0 rows rho w) (iZ M0 (rows.set r .dead) rho w):=⟨Nat.le_refl _,fun k _ hk=>⟨rfl,hM k hk⟩,fun _ _ h=>h,fun _ _=>rfl⟩
 refine ⟨hext,⟨hm.hB,hm.m0,by simp [hm.len],hm.bnd,fun s q k h1 h2=>?_,fun s s' q q' k h1 h2 a1 a2 b1 b2=>?_⟩,Below.refl _ _,Nat.le_refl _,fun s hs _=>List.mem_cons_of_mem _ hs,fun s q k _ h1 h2 h3 h4=>⟨rfl,h3,q,by grind,h2⟩⟩
 ·rcases zaI hrl h1 with ⟨rfl,rfl⟩ | ⟨_,k1⟩
  ·trivial
  ·exact(hm.row s q k k1 h2).ext hext rfl
 ·rcases zaI hrl h1 with ⟨rfl,rfl⟩ | ⟨_,k1⟩
  ·cases a1
  ·rcases zaI hrl h2 with ⟨rfl,rfl⟩ | ⟨_,k2⟩
   ·cases a2
   ·exact hm.inj s s' q q' k k1 k2 a1 a2 b1 b2
theorem stp_move {B:Nat} {M0:Nat→Prop} {rows:List Row} {rho:List Nat} {wr:List Nat} {w:World} (hm:Mem B M0 rows rho w) {r b:Nat} {row:Row} (hrow:rows[r]? = some row) (hlive:row.live=true)
    (hr:rho[r]? = some b) (hwr:r∈wr):Stp B M0 rows rho wr w (rows.set r .dead++[row]) (rho++[b]) (rows.length :: wr) w:=by
  have hl:=hm.len
  have hrl:r<rows.length:=(List.getElem?_eq_some_iff.1 hrow).1
  have hrows:∀(s:Nat) (q:Row) (k:Nat),(rows.set r .dead++[row])[s]? = some q→(rho++[b])[s]? = some k→(s<rows.length∧(rows.set r .dead)[s]? = some q∧rho[s]? = some k)∨(s=rows.length∧q=row∧k=b):=by
    grind
  have hM:∀k,¬zcU M0 rows rho k→¬zcU M0 (rows.set r .dead++[row]) (rho++[b]) k:=by
    rintro k hk (h0 | ⟨s,q,h1,h2,h3⟩)
    · exact hk (.inl h0)
    · rcases hrows s q k h1 h3 with ⟨_,k1,k2⟩ | ⟨_,rfl,rfl⟩
      · rcases zaI hrl k1 with ⟨rfl,rfl⟩ | ⟨_,k3⟩
        · cases h2
        · exact hk (.inr ⟨s,q,k3,h2,k2⟩)
      · exact hk (.inr ⟨r,q,hrow,hlive,hr⟩)
  have hext:Ext (iZ M0 rows rho w) (iZ M0 (rows.set r .dead++[row]) (rho++[b]) w):=
    ⟨Nat.le_refl _,fun k _ hk=>⟨rfl,hM k hk⟩,fun s k hs=>(List.getElem?_append_left (by have:=(List.getElem?_eq_some_iff.1 hs).1;exact this)).trans hs,fun _ _=>rfl⟩
  refine ⟨hext,⟨hm.hB,hm.m0,by simp [hl],fun s k hs=>?_,fun s q k h1 h2=>?_,fun s s' q q' k h1 h2 a1 a2 b1 b2=>?_⟩,Below.refl _ _,by simp,fun s hs _=>List.mem_cons_of_mem _ hs,fun s q k hs h1 h2 h3 h4=>⟨rfl,?_,q,?_,h2⟩⟩
  · by_cases hlt:s<rho.length
    · rw [List.getElem?_append_left hlt] at hs
      exact hm.bnd s k hs
    · rw [List.getElem?_append_right (by omega)] at hs
      have h3:s-rho.length=0:=by
        grind
      rw [h3] at hs
      have:k=b:=by simpa using hs.symm
      subst this
      exact hm.bnd r k hr
  · rcases hrows s q k h1 h2 with ⟨_,k1,k2⟩ | ⟨_,rfl,rfl⟩
    · rcases zaI hrl k1 with ⟨rfl,rfl⟩ | ⟨_,k3⟩
      · trivial
      · exact(hm.row s q k k3 k2).ext hext rfl
    · exact(hm.row r q k hrow hr).ext hext rfl
  · have key:∀(s:Nat) (q:Row),(rows.set r .dead++[row])[s]? = some q→(rho++[b])[s]? = some k→q.alive=true→∃(s0:Nat) (q0:Row),rows[s0]? = some q0∧q0.alive=true∧rho[s0]? = some k∧((s0=s∧s≠r∧s<rows.length)∨(s0=r∧s=rows.length)):=by
      intro s q h hk ha
      rcases hrows s q k h hk with ⟨hlt,k1,k2⟩ | ⟨hs,rfl,rfl⟩
      · rcases zaI hrl k1 with ⟨rfl,rfl⟩ | ⟨hne,k3⟩
        · cases ha
        grind
      grind
    obtain ⟨s0,q0,g1,g2,g3,g4⟩:=key s q h1 b1 a1
    obtain ⟨s1,q1,g5,g6,g7,g8⟩:=key s' q' h2 b2 a2
    have:=hm.inj s0 s1 q0 q1 k g1 g5 g2 g6 g3 g7
    omega
  · grind
  grind
theorem Stp.log {B M0 rows rho wr w rows' rho' wr' w'} (h:Stp B M0 rows rho wr w rows' rho' wr' w') {wr2:List Nat} (hs:∀s∈wr',s∈wr2):Stp B M0 rows rho wr w rows' rho' wr2 w':=
 ⟨h.ext,h.mem,h.below,h.frm.1,fun s h1 h2=>hs s (h.frm.2.1 s h1 h2),fun r row b h1 h2 h3 h4 h5=>h.frm.2.2 r row b h1 h2 h3 h4 (fun h6=>h5 (hs r h6))⟩
def zlO:List AV ⊕ List Int→Row
 | .inl cs=>.flat cs true
 | .inr l=>.ints l true
theorem ziY {rows:List Row} {sz m:Nat} {x:AV} {el:List AV ⊕ List Int} (h:zby rows sz x=some (m,el)) :
 (∀cs,el=.inl cs→cs.length=m*sz)∧(∀l,el=.inr l→sz=1):=by
 unfold zby at h
 split at h
 ·split at h
  ·grind
  ·grind
  ·rename_i k l _ _
   split at h
   ·rename_i hc
    cases h
    refine ⟨fun cs hcs=>?_,fun l hl=>by cases hl⟩
    cases hcs
    obtain ⟨_,_,hsz,hnl⟩:=hc
    have hcl:=sZ k l
    simp_all
   ·cases h
  ·cases h
 ·grind
 ·rename_i k l
  split at h
  ·rename_i hc
   cases h
   exact ⟨fun cs hcs=>(by cases hcs;rw [hc];exact sZ k l),fun l hl=>(by cases hl)⟩
  ·cases h
 grind
theorem zlg {E:Env} {cs es:List AV} {b:Bool} {c:Array Value} {k:Nat} {news:List Value} {arr:Array Value} (hf:RowFits E (.flat cs b) c) (hk:k≤cs.length) (he:CR E es news.toArray)
    (h1:∀i,i<k→arr[i]? = c[i]?) (h2:∀i,i<news.length→arr[k+i]? = news[i]?) (h3:k+news.length≤arr.size):RowFits E (.flat (cs.take k++es) true) arr:=by
  have hel:es.length=news.length:=by have:=he.1;simpa using this
  have hkl:(cs.take k).length=k:=by simp;omega
  refine ⟨by simp_all,fun i hi=>?_⟩
  rw [List.length_append,hkl] at hi
  rw [zaQ]
  by_cases hik:i<k
  · have e1:(cs.take k++es).getD i .junk=cs.getD i .junk:=by
      grind
    rw [e1,h1 i hik,← zaQ]
    exact hf.2 i (by omega)
  · obtain ⟨j,rfl⟩:∃j,i=k+j:=⟨i-k,by omega⟩
    have e1:(cs.take k++es).getD (k+j) .junk=es.getD j .junk:=by
      simp_all
    rw [e1,h2 j (by omega)]
    have:=he.2 j (by omega)
    simp_all
theorem join_ints {E:Env} {l q:List Int} {b:Bool} {c:Array Value} {k:Nat} {arr:Array Value} (hf:RowFits E (.ints l b) c) (hk:k≤l.length)
    (h1:∀i,i<k→arr[i]? = c[i]?) (h2:∀i,i<q.length→arr[k+i]? = some (.int .i64 (q.getD i 0))) (h3:k+q.length≤arr.size):RowFits E (.ints (l.take k++q) true) arr:=by
  have hkl:(l.take k).length=k:=by simp;omega
  refine ⟨by simp_all,fun i hi=>?_⟩
  rw [List.length_append,hkl] at hi
  by_cases hik:i<k
  · have e1:(l.take k++q).getD i 0=l.getD i 0:=by
      grind
    rw [e1,h1 i hik]
    exact hf.2 i (by omega)
  grind
theorem fits_new {E:Env} {el:List AV ⊕ List Int} {news:List Value} {m sz:Nat} (h:ElRd E el news) (hl:zmf el m sz) (rest:Array Value) :
 RowFits E (zlO el) (news.toArray++rest):=by
 cases el with
 | inl cs=>
  have h':CR E cs news.toArray:=h
  refine ⟨by have:=h'.1;simp at this ⊢;omega,fun i hi=>?_⟩
  have h1:=h'.2 i hi
  have hi':i<news.length:=by have:=h'.1;simp at this;omega
  rw [zaQ] at h1 ⊢
  grind
 | inr l=>
  have h':news=l.map fun n=>Value.int .i64 n:=h
  subst h'
  refine ⟨by simp,fun i hi=>?_⟩
  rw [Array.getElem?_append_left (by simpa using hi)]
  simp [hi,List.getD]
theorem Stp.kill_last {B M0 rows rho wr w rows' rho' wr' w'} (h:Stp B M0 rows rho wr w rows' rho' wr' w') {r:Nat} (hr:r<rows'.length):Stp B M0 rows rho wr w (rows'.set r .dead) rho' (r :: wr') w':=
 h.trans (stp_kill h.mem hr)
theorem zdN {P:Program} {B:Nat} {M0:Nat→Prop} {rows:List Row} {rho wr:List Nat} {w:World} (hm:Mem B M0 rows rho w) {t tt e:TypeId} {i2:TypeInfo} {z2:Value}
 (hd:P.underlying t=some (.slice e)) (hi2:P.info? e=some i2) (hz2:i2.zero=some z2) (hzs:z2.cells.size=i2.size) {x:AV} {vy:Value} {m:Nat} {el:List AV ⊕ List Int}
 (hp:zby rows i2.size x=some (m,el)) (hy:Rd (iZ M0 rows rho w) x vy) (c1:0<m) (c2:m*i2.bytes≤140737488355328) (c3:m≤4611686018427387904) (hlen:zmf el m i2.size) :
 ∃w' rho' v,(Builtin.append_ #[t,t] tt #[.slice none 0 0,vy]).run P w=.ok v w' ∧
  Stp B M0 rows rho wr w (rows++[zlO el]) rho' wr w'∧Rd (iZ M0 (rows++[zlO el]) rho' w') (.own rows.length 0 m i2.size) v:=by
 obtain ⟨ad,cp,news,hv,hnl,hel,hsrc⟩:=zew hm hp hy hlen
 have hnl':news.length=m*i2.size:=hnl
 have hrun:=zh2 (P:=P) w t tt e i2 z2 hd hi2 hz2 ad m cp news (fun w' hw=>by grind) c1 (by omega) (by omega)
 have hfit:=fits_new hel hlen (Builtin.zeroCells z2.cells (grownCap w m 0 e-m))
 have hs1:=(zkr (wr:=wr) hm)
 have hs2:=hs1.trans (zcG (e:=e) hs1.mem (hfit.ext hs1.ext))
 refine ⟨_,_,_,by rw [hv];exact hrun,hs2,.own (zcC hm.len) (by show w.heap.size<(w.drew.alloc _).heap.size;simp) ?_ ?_⟩
 ·have:=grownCap_ge w m 0 e;omega
 ·show 0+grownCap w m 0 e*i2.size≤YZ (w.drew.alloc _).heap w.drew.heap.size
  rw [zbt]
  have hge:=grownCap_ge w m 0 e
  simp only [Array.size_append,List.size_toArray,size_zeroCells,hzs,hnl']
  rw [← Nat.add_mul]
  simp_all
theorem zdO {P:Program} {B:Nat} {M0:Nat→Prop} {rows:List Row} {rho wr:List Nat} {w:World} (hm:Mem B M0 rows rho w) {t tt e:TypeId} {i2:TypeInfo} {z2:Value}
 (hd:P.underlying t=some (.slice e)) (hi2:P.info? e=some i2) (hz2:i2.zero=some z2) (hzs:z2.cells.size=i2.size) {x:AV} {vx vy:Value} {m:Nat} {el:List AV ⊕ List Int}
 (hp:zby rows i2.size x=some (m,el)) (hy:Rd (iZ M0 rows rho w) x vy) {r n sz:Nat} (hxv:Rd (iZ M0 rows rho w) (.own r 0 n sz) vx)
 (c1:(n+m)*i2.bytes≤140737488355328) (c2:n+m≤4611686018427387904) {row row':Row} (hrow:rows[r]? = some row) (hlive:row.live=true) (hlive':row'.live=true) (hsz':sz=i2.size) (hlen:zmf el m i2.size)
 (hfits:∀E (c:Array Value) (news:List Value),RowFits E row c→ElRd E el news→n*i2.size≤c.size∧∀arr:Array Value,(∀i,i<n*i2.size→arr[i]? = c[i]?)→(∀i,i<news.length→arr[n*i2.size+i]? = news[i]?)→n*i2.size+news.length≤arr.size→RowFits E row' arr)
 (hone:∀E (news:List Value),ElRd E el news→∀u∈news,u.oneCell'=true) :
 ∃w' rho' v,(Builtin.append_ #[t,t] tt #[vx,vy]).run P w=.ok v w' ∧
  Stp B M0 rows rho wr w (rows.set r .dead++[row']) rho' (rows.length :: r :: wr) w'∧Rd (iZ M0 (rows.set r .dead++[row']) rho' w') (.own rows.length 0 (n+m) sz) v:=by
 have hrl:r<rows.length:=(List.getElem?_eq_some_iff.1 hrow).1
 obtain ⟨ad,cp,news,hv,hnl,hel,hsrc⟩:=zew hm hp hy hlen
 have hnl':news.length=m*i2.size:=hnl
 cases hxv with
 | @own _ _ _ _ b cap hr hsb hcap hbz=>
  have hrho:rho[r]? = some b:=hr
  have hat:=hm.row r row b hrow hrho
  obtain ⟨c,e',hbk,hcfit⟩:∃c e',w.heap[b]? = some (.cells c e' (0,0))∧RowFits (iZ M0 rows rho w) row c:=by
   cases row with
   | dead=>cases hlive
   | flat cs lv=>obtain ⟨c,e',k1,k2,k3⟩:=hat;exact ⟨c,e',k1,k2,k3⟩
   | ints l lv=>obtain ⟨c,e',k1,k2,k3⟩:=hat;exact ⟨c,e',k1,k2,k3⟩
   | lst k l lv=>obtain ⟨c,e',k1,k2,k3⟩:=hat;exact ⟨c,e',k1,k2,k3⟩
  have hbz':cap*i2.size≤c.size:=by
   have:YZ w.heap b=c.size:=by simp [YZ,hbk]
   have hb2:0+cap*sz≤YZ w.heap b:=hbz
   simp_all
  obtain ⟨hnc,hjoin⟩:=hfits _ c news hcfit hel
  by_cases hroom:n+m≤cap
  ·have hmul:(n+m)*i2.size≤cap*i2.size:=Nat.mul_le_mul_right _ hroom
   rw [Nat.add_mul] at hmul
   obtain ⟨s1,s2⟩:=zej c news (n*i2.size) (by omega)
   have hfit:RowFits (iZ M0 rows rho w) row' (c.toList.take (n*i2.size)++news++c.toList.drop (n*i2.size+news.length)).toArray:=by
    refine hjoin _ (fun i hi=>by rw [s2,if_neg (by omega)]) (fun i hi=>by simp_all) (by rw [s1];omega)
   have hs1:=zce (wr:=wr) hm hrow hlive hrho hbk s1 hlive' hfit
   have hs2:=hs1.trans (stp_move hs1.mem (r:=r) (b:=b) (row:=row') (by simp [hrl]) hlive' hrho List.mem_cons_self)
   have hrun:=zgl (P:=P) w t tt e e' i2 hd hi2 b n cap c hbk ad m cp news (fun w' hw=>by grind) (hone _ news hel) hroom (by omega)
   refine ⟨_,_,_,by rw [hv];exact hrun,by simpa using hs2,.own (b:=b) (cap:=cap) ?_ ?_ hroom ?_⟩
   ·have:=hm.len;show(rho++[b])[rows.length]? = some b;rw [← this];simp
   ·show b<(w.setRow b _).heap.size;simp;exact(hm.bnd r b hrho).2
   ·have hnew:=setRow_heap w b c (c.toList.take (n*i2.size)++news++c.toList.drop (n*i2.size+news.length)).toArray e' _ hbk
    show 0+cap*sz≤YZ (w.setRow b _).heap b
    unfold YZ;simp_all
  ·have hlo:(c.toList.take (n*i2.size)).length=n*i2.size:=by simp;omega
   have hrun:=zgk (P:=P) w t tt e i2 z2 hd hi2 hz2 ⟨b,0,none⟩ n cap (c.toList.take (n*i2.size)) hlo (fun j u hu=>by
    have hj:j<n*i2.size:=by grind
    rw [List.getElem?_take,if_pos hj,Array.getElem?_toList] at hu
    rw [zcV,cell?_eq,Nat.zero_add];simp only [AZ,hbk];exact hu) ad m cp news (fun w' hw=>by grind) (by omega) (by omega) (growslice_fits (by omega) c1)
   have hge:=grownCap_ge w (n+m) cap e
   have harr:RowFits (iZ M0 rows rho w) row' ((c.toList.take (n*i2.size)).toArray++news.toArray++Builtin.zeroCells z2.cells (grownCap w (n+m) cap e-(n+m))):=by
    refine hjoin _ (fun i hi=>?_) (fun i hi=>?_) (by simp;omega)
    ·grind
    ·rw [Array.append_assoc,Array.getElem?_append_right (by simp;omega),Array.getElem?_append_left (by simp;omega)]
     simp_all
   have hs1:=(zkr (wr:=wr) hm)
   have hs2:=hs1.trans (zcG (e:=e) hs1.mem (harr.ext hs1.ext))
   have hs3:=(hs2.kill_last (r:=r) (by simp;omega)).log (wr2:=rows.length :: r :: wr) (fun s hs=>List.mem_cons_of_mem _ hs)
   have hset:(rows++[row']).set r .dead=rows.set r .dead++[row']:=by simp_all
   rw [hset] at hs3
   refine ⟨_,_,_,by rw [hv];exact hrun,hs3,.own (zcC hm.len) (by show w.heap.size<(w.drew.alloc _).heap.size;simp) hge ?_⟩
   show 0+grownCap w (n+m) cap e*sz≤YZ (w.drew.alloc _).heap w.drew.heap.size
   rw [zbt]
   simp only [Array.size_append,List.size_toArray,size_zeroCells,hzs,hnl',hlo,hsz']
   rw [← Nat.add_mul,← Nat.add_mul]
   simp_all
theorem zoL (hg : g.OK) {c:Call} {x y:Operand} {t t1:TypeId} (ho:o.op=.call c) (hb:c.callee=.builtin .append) (hx:c.args.toList=[x,y]) (ht:c.argTypes.toList=[t,t1]) :
 Spec (zjr g st.rows st.wr t t1 (pZ st.tm x) (pZ st.tm y)) fun r=>RunOK g.P st o r:=by
 refine OZ fun B M0 rho a w hm hf=>?_
 have h1:c.args = #[x,y]:=by grind
 have h2:c.argTypes = #[t,t1]:=by grind
 have exec:∀ {v:Value} {w':World},(Builtin.append_ #[t,t1] o.type #[a.eval x,a.eval y]).run g.P w=.ok v w'→(execOp a.eval o).run g.P w=.ok (.value v) w':=by
  intro v w' h
  rw [zaw ho hb,h1,h2]
  simp only [builtin,Sem.run_bind,List.map_toArray,List.map_cons,List.map_nil,h,Result.andThen_ok,Sem.run_pure]
 unfold zjr
 refine Spec.bind (tZ hg fun i d z hi hd hz=>?_)
 dsimp only
 split
 ·exact Spec.fail
 ·rename_i htt
  have htt':t=t1:=by simpa using htt
  subst htt'
  split
  ·rename_i e htk
   have hd':=TZ htk;subst hd'
   refine Spec.bind (tZ hg fun i2 d2 z2 hi2 hd2 hz2=>?_)
   refine Spec.bind (Spec.ofOpt fun p hp=>?_)
   obtain ⟨m,el⟩:=p
   dsimp only
   split
   ·exact Spec.fail
   ·rename_i hsz
    have hpos:0<i2.size:=by omega
    split
    ·-- onto nil
     rename_i hs
     have hsv:a.eval x=.slice none 0 0:=by have:=hf.eval x;rw [hs] at this;exact this.lit_inv
     refine Spec.bind (Spec.chk fun c1=>Spec.bind (Spec.chk fun c2=>Spec.bind (Spec.chk fun c3=>?_)))
     simp only [decide_eq_true_eq] at c1 c2 c3
     have fin:zmf el m i2.size→∃nx w' rho' v,(execOp a.eval o).run g.P w=.ok nx w'∧(nx=.value v∨nx=.skip∧v=undef) ∧
      Stp B M0 st.rows rho st.wr w (st.rows++[zlO el]) rho' st.wr w' ∧
      Rd (iZ M0 (st.rows++[zlO el]) rho' w') (.own st.rows.length 0 m i2.size) v:=by
      intro hlen
      have hzs:z2.cells.size=i2.size:=by
       simp_all
      obtain ⟨w',rho',v,k1,k2,k3⟩:=zdN (wr:=st.wr) (tt:=o.type) hm hd hi2 hz2 hzs hp (hf.eval y) c1 c2 c3 hlen
      grind
     split
     ·rename_i cs
      exact Spec.pure' (fin ((ziY hp).1 cs rfl))
     ·rename_i l
      refine Spec.bind (Spec.chk fun c4=>?_)
      simp only [decide_eq_true_eq] at c4
      have hs1:i2.size=1:=(ziY hp).2 l rfl
      have:=fin ⟨c4,hs1⟩
      rw [hs1] at this
      exact Spec.pure' this
    ·-- onto a row of one's own
     rename_i r n sz hs
     have hxv:=hf.eval x
     rw [hs] at hxv
     refine Spec.bind (Spec.chk fun c1=>Spec.bind (Spec.chk fun c2=>?_))
     simp only [decide_eq_true_eq] at c1 c2
     have hzs:z2.cells.size=i2.size:=by
      simp_all
     have fin:∀(row row':Row),st.rows[r]? = some row→row.live=true→row'.live=true→sz=i2.size→zmf el m i2.size →
      (∀E (c:Array Value) (news:List Value),RowFits E row c→ElRd E el news→n*i2.size≤c.size∧∀arr:Array Value,(∀i,i<n*i2.size→arr[i]? = c[i]?)→(∀i,i<news.length→arr[n*i2.size+i]? = news[i]?)→n*i2.size+news.length≤arr.size→RowFits E row' arr) →
      (∀E (news:List Value),ElRd E el news→∀u∈news,u.oneCell'=true) →
      ∃nx w' rho' v,(execOp a.eval o).run g.P w=.ok nx w'∧(nx=.value v∨nx=.skip∧v=undef) ∧
      Stp B M0 st.rows rho st.wr w (st.rows.set r .dead++[row']) rho' (st.rows.length :: r :: st.wr) w' ∧
      Rd (iZ M0 (st.rows.set r .dead++[row']) rho' w') (.own st.rows.length 0 (n+m) sz) v:=by
      intro row row' hrow hlive hlive' hsz' hlen hfits hone
      obtain ⟨w',rho',v,k1,k2,k3⟩:=zdO (wr:=st.wr) (tt:=o.type) hm hd hi2 hz2 hzs hp (hf.eval y) hxv c1 c2 hrow hlive hlive' hsz' hlen hfits hone
      grind
     split
     ·rename_i cs es hrow
      split
      ·rename_i hc
       obtain ⟨c3,c4,c5,c6⟩:=hc
       have c3':sz=i2.size:=c3
       refine Spec.pure' (fin (.flat cs true) (.flat (cs.take (n*sz)++es) true) (yZ hrow (by simp)) rfl rfl c3 (by rw [← c3'];exact c5) (fun E c news hfc hel=>?_) (fun E news hel=>zb6 (arr:=news.toArray) hel c6))
       rw [← c3']
       exact ⟨by have:=hfc.1;omega,fun arr k1 k2 k3=>zlg hfc c4 hel k1 k2 k3⟩
      ·exact Spec.fail
     ·rename_i l q hrow
      split
      ·rename_i hc
       obtain ⟨c3,c4⟩:=hc
       have c4':i2.size=1:=c4
       refine Spec.bind (Spec.chk fun c5=>Spec.bind (Spec.chk fun c6=>?_))
       simp only [decide_eq_true_eq] at c5 c6
       have:=fin (.ints l true) (.ints (l.take n++q) true) (yZ hrow (by simp)) rfl rfl (by rw [c3,c4']) ⟨c6,c4'⟩ (fun E c news hfc hel=>?_) (fun E news hel=>?_)
       ·rw [c3] at this;exact Spec.pure' this
       ·have hel':news=q.map fun n=>Value.int .i64 n:=hel
        subst hel'
        rw [c4',Nat.mul_one]
        refine ⟨by have:=hfc.1;omega,fun arr k1 k2 k3=>join_ints hfc c5 k1 (fun i hi=>?_) (by simpa using k3)⟩
        simp_all
       ·have hel':news=q.map fun n=>Value.int .i64 n:=hel
        subst hel'
        intro u hu
        obtain ⟨k,_,rfl⟩:=List.mem_map.1 hu
        rfl
      ·exact Spec.fail
     ·exact Spec.fail
    ·exact Spec.fail
  ·exact Spec.fail
end
section
variable {g:Cfg} {n0:Nat→Prop} {st:St} {o:Oper}
theorem copy_run (hg:g.OK) {c:Call} {x y:Operand} {t t1:TypeId} (ho:o.op=.call c) (hb:c.callee=.builtin .copy) (hx:c.args.toList=[x,y]) (ht:c.argTypes.toList=[t,t1]) :
 Spec (copyA g st.rows st.wr t (pZ st.tm x) (pZ st.tm y)) fun r=>RunOK g.P st o r:=by
 refine OZ fun B M0 rho a w hm hf=>?_
 have h1:c.args = #[x,y]:=by grind
 have h2:c.argTypes = #[t,t1]:=by grind
 have exec:∀ {v:Value} {w':World},(Builtin.copy_ #[t,t1] o.type #[a.eval x,a.eval y]).run g.P w=.ok v w'→(execOp a.eval o).run g.P w=.ok (.value v) w':=by
  intro v w' h
  rw [zaw ho hb,h1,h2]
  simp only [builtin,Sem.run_bind,List.map_toArray,List.map_cons,List.map_nil,h,Result.andThen_ok,Sem.run_pure]
 unfold copyA
 refine Spec.bind (tZ hg fun i d z hi hd hz=>?_)
 dsimp only
 split
 ·rename_i e htk
  have hd':=TZ htk;subst hd'
  refine Spec.bind (tZ hg fun i2 d2 z2 hi2 hd2 hz2=>?_)
  refine Spec.bind (Spec.ofOpt fun p hp=>?_)
  obtain ⟨m,el⟩:=p
  dsimp only
  split
  ·rename_i r off n sz hs
   have hxv:=hf.eval x
   rw [hs] at hxv
   split
   ·rename_i cs es hrow
    split
    ·rename_i hc
     obtain ⟨c3,c4,c5,c6⟩:=hc
     have c3':sz=i2.size:=c3
     refine Spec.pure' ?_
     obtain ⟨ad,cp,news,hv,hnl,hel,hsrc⟩:=zew hm hp (hf.eval y) (show es.length=m*i2.size by rw [← c3'];exact c5)
     have hnl':news.length=m*i2.size:=hnl
     generalize heq:a.eval x=u at hxv
     cases hxv with
     | @own _ _ _ _ b cap hr hsb hcap hbz=>
      have hrho:rho[r]? = some b:=hr
      have hrows:=yZ hrow (by simp)
      obtain ⟨cc,e',hbk,hfit⟩:=hm.row r _ b hrows hrho
      have hcr:CR (iZ M0 st.rows rho w) es news.toArray:=hel
      have hk:Nat.min m n≤m:=Nat.min_le_left _ _
      have hkn:Nat.min m n*sz≤n*sz:=Nat.mul_le_mul_right _ (Nat.min_le_right _ _)
      have hkm:Nat.min m n*sz≤m*sz:=Nat.mul_le_mul_right _ hk
      generalize hkk:Nat.min m n=k at hk hkn hkm
      have hel':es.length=news.length:=by simp_all
      have hnk:(news.take (k*sz)).length=k*sz:=by simp_all
      have hek:(es.take (k*sz)).length=k*sz:=by simp;omega
      have hcr':CR (iZ M0 st.rows rho w) (es.take (k*sz)) (news.take (k*sz)).toArray:=by
       refine ⟨by simp_all,fun i hi=>?_⟩
       have hi':i<k*sz:=by omega
       have e1:(es.take (k*sz)).getD i .junk=es.getD i .junk:=by grind
       have e2:((news.take (k*sz)).toArray).getD i undef=news.toArray.getD i undef:=by
        rw [zaQ,zaQ];grind
       rw [e1,e2];exact hcr.2 i (by omega)
      have hlen:off+(es.take (k*sz)).length≤cs.length:=by omega
      have hfitlen:=hfit.1
      have hsp:=zej cc (news.take (k*sz)) off (by omega)
      have hfo:=zex (b:=true) hfit hcr' hlen
      have hs:=zce (wr:=st.wr) (c':=(cc.toList.take off++(news.take (k*sz))++cc.toList.drop (off+(news.take (k*sz)).length)).toArray) (row':=.flat (over cs off (es.take (k*sz))) true) hm hrows rfl hrho hbk hsp.1 rfl hfo
      refine ⟨_,_,rho,.int .i64 (k:Int),exec ?_,.inl rfl,hs,.lit _⟩
      have hone:∀u∈news.take (k*sz),u.oneCell'=true:=fun u hu=>zb6 (arr:=news.toArray) hcr c6 u (by grind)
      have hst:=run_storeCells_at (P:=g.P) b off e' (news.take (k*sz)) 0 cc w hbk (by omega) hone
      have hsr:=hsrc k hk g.P w rfl
      simp only at hsr
      rw [← c3'] at hsr
      simp only [Nat.add_zero] at hst
      generalize w.setRow b (cc.toList.take off++(news.take (k*sz))++cc.toList.drop (off+(news.take (k*sz)).length)).toArray=W at hst ⊢
      simp only [Builtin.copy_]
      simp only [heq,hv]
      simp [run_underlying hd,Builtin.lenOf,qZ hi2,← c3',hkk]
      rw [hsr]
      simp only [Result.andThen_ok]
      rw [hst]
      rfl
    ·exact Spec.fail
   ·exact Spec.fail
  ·exact Spec.fail
 ·exact Spec.fail
theorem zdI {B:Nat} {M0:Nat→Prop} {rows:List Row} {rho:List Nat} {wr:List Nat} {w:World} (hm:Mem B M0 rows rho w) {r:Nat} {row row':Row} (hrow:rows[r]? = some row)
    (hs:(∃cs b,row=.flat cs b∧row'=.flat cs false)∨(∃l b,row=.ints l b∧row'=.ints l false)∨(∃k l b,row=.lst k l b∧row'=.lst k l false)) :
    Stp B M0 rows rho wr w (rows.set r row') rho wr w:=by
  have hrl:r<rows.length:=(List.getElem?_eq_some_iff.1 hrow).1
  have hnl:row'.live=false:=by rcases hs with ⟨cs,b,_,rfl⟩ | ⟨l,b,_,rfl⟩ | ⟨k,l,b,_,rfl⟩<;>rfl
  have hal:row.alive=true:=by rcases hs with ⟨cs,b,rfl,_⟩ | ⟨l,b,rfl,_⟩ | ⟨k,l,b,rfl,_⟩<;>rfl
  have hM:∀k,¬zcU M0 rows rho k→¬zcU M0 (rows.set r row') rho k:=by
    rintro k hk (h0 | ⟨s,q,h1,h2,h3⟩)
    · exact hk (.inl h0)
    · rcases zaI hrl h1 with ⟨rfl,rfl⟩ | ⟨_,k1⟩
      · rw [hnl] at h2;cases h2
      · exact hk (.inr ⟨s,q,k1,h2,h3⟩)
  have hext:Ext (iZ M0 rows rho w) (iZ M0 (rows.set r row') rho w):=⟨Nat.le_refl _,fun k _ hk=>⟨rfl,hM k hk⟩,fun _ _ h=>h,fun _ _=>rfl⟩
  refine ⟨hext,⟨hm.hB,hm.m0,by simp [hm.len],hm.bnd,fun s q k h1 h2=>?_,fun s s' q q' k h1 h2 a1 a2 b1 b2=>?_⟩,Below.refl _ _,Nat.le_refl _,fun s hs _=>hs,fun s q k _ h1 h2 h3 _=>⟨rfl,h3,?_⟩⟩
  · rcases zaI hrl h1 with ⟨rfl,rfl⟩ | ⟨_,k1⟩
    · have:=(hm.row s row k hrow h2).ext hext rfl
      rcases hs with ⟨cs,b,rfl,rfl⟩ | ⟨l,b,rfl,rfl⟩ | ⟨k,l,b,rfl,rfl⟩<;>exact this
    · exact(hm.row s q k k1 h2).ext hext rfl
  · have key:∀(s:Nat) (q:Row),(rows.set r row')[s]? = some q→q.alive=true→∃q0:Row,rows[s]? = some q0∧q0.alive=true:=by
      grind
    obtain ⟨q0,g1,g2⟩:=key s q h1 a1
    obtain ⟨q1,g3,g4⟩:=key s' q' h2 a2
    exact hm.inj s s' q0 q1 k g1 g3 g2 g4 b1 b2
  · by_cases hsr:r=s
    · subst hsr
      exact ⟨row',by simp [hrl],by rcases hs with ⟨cs,b,_,rfl⟩ | ⟨l,b,_,rfl⟩ | ⟨k,l,b,_,rfl⟩<;>rfl⟩
    simp_all
theorem zbL {B:Nat} {M0:Nat→Prop} {rows:List Row} {rho:List Nat} {w:World} (hm:Mem B M0 rows rho w) {r b:Nat} {row:Row} (hrow:rows[r]? = some row) (hal:row.alive=true) (hnl:row.live=false)
 (hr:rho[r]? = some b):¬zcU M0 rows rho b:=by
 rintro (h0 | ⟨s,q,h1,h2,h3⟩)
 ·have:=hm.m0 b h0
  have:=(hm.bnd r b hr).1
  omega
 ·have:=hm.inj r s row q b hrow h1 hal (zbh h2) hr h3
  simp_all
end
theorem Rd.heap {E:Env} {h':Array Obj} (hs:E.heap.size≤h'.size) (hc:∀b o v,AZ E.heap b o=some v→AZ h' b o=some v)
 (hb:∀b,b<E.heap.size→YZ h' b=YZ E.heap b) {x:AV} {v:Value} (h:Rd E x v):Rd ⟨h',E.M,E.rho⟩ x v:=by
 have ints:∀ {l:List Int} {a:Option Addr},IntsAt E l a→IntsAt ⟨h',E.M,E.rho⟩ l a:=by
  rintro l a (rfl | ⟨b,o,rfl,hM,hv⟩)
  ·exact .inl rfl
  ·exact .inr ⟨b,o,rfl,hM,fun i hi=>hc _ _ _ (hv i hi)⟩
 induction h with
 | lit v=>exact .lit v
 | tt=>exact .tt
 | ff=>exact .ff
 | junk v=>exact .junk v
 | ref h1=>exact .ref h1
 | own h1 hs1 hc1 hb1=>exact .own h1 (Nat.lt_of_lt_of_le hs1 hs) hc1 (by simp_all)
 | sl0=>exact .sl0
 | sl vals hs1 hM hc1 hv _ ih=>exact .sl vals (Nat.lt_of_lt_of_le hs1 hs) hM hc1 (fun i hi=>hc _ _ _ (hv i hi)) ih
 | sq h1 hc1=>exact .sq (ints h1) hc1
 | qel hs1 hM h1=>exact .qel (Nat.lt_of_lt_of_le hs1 hs) hM (fun j hj=>hc _ _ _ (h1 j hj))
 | pd vals hs1 hM hv _ ih=>exact .pd vals (Nat.lt_of_lt_of_le hs1 hs) hM (fun i hi=>hc _ _ _ (hv i hi)) ih
 | agg hl _ ih=>exact .agg hl ih
 | tup hl _ ih=>exact .tup hl ih
 | fn hl _ ih=>exact .fn hl ih
 | wd h1 hc1=>exact .wd (ints h1) hc1
 | ni h1 hc1=>exact .ni (ints h1) hc1
 | zl _ ih=>exact .zl ih
 | lst _ ih=>exact .lst ih
 | rel h1=>exact .rel h1
theorem zkG {o:Obj} (h:o.isCells=false):(match some o with | some (.cells c _ _)=>c.size | _=>0)=0:=by
 cases o<;>first | rfl | cases h
section
variable {B:Nat} {M0:Nat→Prop} {rows rows':List Row} {rho rho' wr wr':List Nat} {w w':World} {l:Nat} {o o':Obj}
theorem zju (ho:w.heap[l]? = some o) (hc:o.isCells=false) {b i:Nat} {v:Value} (h:AZ w.heap b i=some v):AZ (w.putObj l o').heap b i=some v:=by
 by_cases e:b=l
 ·subst e
  unfold AZ at h
  rw [ho] at h
  cases o<;>first | (cases h;done) | (cases hc;done)
 ·unfold AZ at *
  rw [World.putObj_heap_other e];exact h
theorem zfZ (ho:w.heap[l]? = some o) (hc:o.isCells=false) (hc':o'.isCells=false) (b:Nat):YZ (w.putObj l o').heap b=YZ w.heap b:=by
 by_cases e:b=l
 ·subst e
  unfold YZ
  rw [World.putObj_heap_same (Array.getElem?_eq_some_iff.1 ho).1,ho]
  exact(zkG hc').trans (zkG hc).symm
 ·unfold YZ
  rw [World.putObj_heap_other e]
theorem Rd.putObj (ho:w.heap[l]? = some o) (hc:o.isCells=false) (hc':o'.isCells=false) {x:AV} {v:Value} (h:Rd (iZ M0 rows rho w) x v):Rd (iZ M0 rows rho (w.putObj l o')) x v:=
 Rd.heap (E:=iZ M0 rows rho w) (h':=(w.putObj l o').heap) (by simp [iZ]) (fun _ _ _ h=>zju ho hc h) (fun b _=>zfZ ho hc hc' b) h
theorem Fr.putObj {tm:Fm} {tmps:Array Value} (hf:Fr (iZ M0 rows rho w) tm tmps) (ho:w.heap[l]? = some o) (hc:o.isCells=false) (hc':o'.isCells=false) :
 Fr (iZ M0 rows rho (w.putObj l o')) tm tmps:=⟨hf.1,fun i=>(hf.2 i).putObj ho hc hc'⟩
theorem Mem.putObj (hm:Mem B M0 rows rho w) (ho:w.heap[l]? = some o) (hc:o.isCells=false) (hc':o'.isCells=false):Mem B M0 rows rho (w.putObj l o') where
 hB:=by simpa using hm.hB
 m0:=hm.m0
 len:=hm.len
 bnd r b h:=by simpa using hm.bnd r b h
 row r row b h1 h2:=by
  have h:=hm.row r row b h1 h2
  have hne:∀ {c:Array Value} {e:TypeId} {f:Nat × Nat},w.heap[b]? = some (.cells c e f)→b≠l:=by
   intro c e f hb hbl
   subst hbl
   rw [ho] at hb;cases hb;cases hc
  cases row with
  | dead=>exact trivial
  | flat cs lv=>
   obtain ⟨c,e,hb,h3,h4⟩:=h
   exact ⟨c,e,(World.putObj_heap_other (hne hb)).trans hb,h3,fun i hi=>(h4 i hi).putObj ho hc hc'⟩
  | ints l lv=>
   obtain ⟨c,e,hb,h3,h4⟩:=h
   exact ⟨c,e,(World.putObj_heap_other (hne hb)).trans hb,h3,h4⟩
  | lst k l lv=>
   obtain ⟨c,e,hb,h3,h4⟩:=h
   exact ⟨c,e,(World.putObj_heap_other (hne hb)).trans hb,h3,fun i hi=>(h4 i hi).putObj ho hc hc'⟩
 inj:=hm.inj
theorem Stp.putObj (h:Stp B M0 rows rho wr w rows' rho' wr' w') (hm:Mem B M0 rows rho w) (hl:w.heap.size≤l) (ho:w'.heap[l]? = some o) (hc:o.isCells=false) (hc':o'.isCells=false) :
 Stp B M0 rows rho wr w rows' rho' wr' (w'.putObj l o') where
 ext := ⟨by simpa [iZ] using h.ext.size,fun b hb hM=>by
  obtain ⟨h1,h2⟩:=h.ext.keep b hb hM
  have hb':b<w.heap.size:=hb
  exact ⟨(World.putObj_heap_other (show b≠l by omega)).trans h1,h2⟩,h.ext.rho,fun b hb=>(zfZ ho hc hc' b).trans (h.ext.bsz b hb)⟩
 mem:=h.mem.putObj ho hc hc'
 below:=⟨h.below.os,h.below.tape,h.below.output,by simpa using h.below.size,fun k hk=>by
  have:=hm.hB
  exact(World.putObj_heap_other (show k≠l by omega)).trans (h.below.block k hk)⟩
 frm := ⟨h.frm.1,h.frm.2.1,fun r row b h1 h2 h3 h4 h5=>by
  obtain ⟨k1,k2⟩:=h.frm.2.2 r row b h1 h2 h3 h4 h5
  have:=(hm.bnd r b h4).2
  exact ⟨(World.putObj_heap_other (show b≠l by omega)).trans k1,k2⟩⟩
theorem Stp.of_below (hm:Mem B M0 rows rho w) (hb:Below w.heap.size w w'):Stp B M0 rows rho wr w rows rho wr w':=by
 have hext:Ext (iZ M0 rows rho w) (iZ M0 rows rho w'):=⟨hb.size,fun b hlt hM=>⟨hb.block b hlt,hM⟩,fun _ _ h=>h,fun b hlt=>by
  show YZ w'.heap b=YZ w.heap b
  unfold YZ;rw [hb.block b hlt]⟩
 exact ⟨hext,⟨Nat.le_trans hm.hB hb.size,hm.m0,hm.len,fun r b h=>⟨(hm.bnd r b h).1,Nat.lt_of_lt_of_le (hm.bnd r b h).2 hb.size⟩,
  fun r row b h1 h2=>(hm.row r row b h1 h2).ext hext (hb.block b (hm.bnd r b h2).2),hm.inj⟩,hb.mono hm.hB,Nat.le_refl _,fun s h _=>h,fun r row b _ h1 h2 h3 _=>⟨hb.block b (hm.bnd r b h3).2,h3,row,h1,h2⟩⟩
theorem Mem.lt (hm:Mem B M0 rows rho w) {b:Nat} (h:zcU M0 rows rho b):b<w.heap.size:=by
 rcases h with h0 | ⟨r,row,_,_,h3⟩
 ·have:=hm.m0 b h0;have:=hm.hB;omega
 ·exact(hm.bnd r b h3).2
end
theorem zo0 {E:Env} {rows:List Row} {sz n:Nat} {x:AV} {els:List AV ⊕ List Int} {v:Value} (he:zby rows sz x=some (n,els)) (hd:BZ 20 x=true) (hv:Rd E x v) :
 ∃a cap,∃vals:Nat→Value,v=.slice a n cap∧(n=0∨∃b o,a=some ⟨b,o,none⟩∧b<E.heap.size∧¬E.M b∧∀i,i<n*sz→AZ E.heap b (o+i)=some (vals i)) ∧
  ∀i,i<n*sz→Rd E (znj els i) (vals i):=by
 unfold zby at he
 split at he
 ·cases hd
 ·rename_i cs m
  split at he
  ·rename_i hl
   cases he
   cases hv with
   | sl0=>simp
   | sl vals hs hM hc hv hr=>exact ⟨_,_,vals,rfl,.inr ⟨_,_,rfl,hs,hM,fun i hi=>hv i (by omega)⟩,fun i hi=>hr i (by omega)⟩
  ·cases he
 ·rename_i k l
  split at he
  ·rename_i hl
   cases he
   have hcl:(hZ k l).length=l.length*sz:=by rw [hl];exact sZ k l
   cases hv with
   | lst hv=>
    generalize l.length=m at hv hcl
    cases hv with
    | sl0=>simp
    | sl vals hs hM hc hv hr=>exact ⟨_,_,vals,rfl,.inr ⟨_,_,rfl,hs,hM,fun i hi=>hv i (by omega)⟩,fun i hi=>hr i (by omega)⟩
  ·cases he
 ·split at he
  ·rename_i l hx
   split at he
   ·rename_i hsz
    cases he
    subst hsz
    obtain ⟨a,cap,rfl,hcap,hi⟩:=zaU hx hv
    refine ⟨a,cap,fun i=>.int .i64 (l.getD i 0),rfl,?_,fun i hi=>.lit _⟩
    rcases hi with rfl | ⟨b,o,rfl,hM,hv⟩
    ·exact .inl rfl
    ·cases l with
     | nil=>exact .inl rfl
     | cons z l=>exact .inr ⟨b,o,rfl,zbM (hv 0 (by simp)),hM,fun i hi=>hv i (by omega)⟩
   ·cases he
  ·cases he
section
variable {g:Cfg} {n0:Nat→Prop} {st:St} {o:Oper}
def FrzOK (f:Nat):Prop:=
 (∀rows x x' rows' ps,frz f rows x=some (x',rows',ps)→(∀p∈ps,p)→∀B M0 rho wr w v,Mem B M0 rows rho w→Rd (iZ M0 rows rho w) x v →
  Stp B M0 rows rho wr w rows' rho wr w∧Rd (iZ M0 rows' rho w) x' v) ∧
 (∀rows l l' rows' ps,frzL f rows l=some (l',rows',ps)→(∀p∈ps,p)→∀B M0 rho wr w (vals:Nat→Value),Mem B M0 rows rho w→(∀i,i<l.length→Rd (iZ M0 rows rho w) (l.getD i .junk) (vals i)) →
  Stp B M0 rows rho wr w rows' rho wr w∧l'.length=l.length∧∀i,i<l'.length→Rd (iZ M0 rows' rho w) (l'.getD i .junk) (vals i))
theorem zhj : ∀ f, FrzOK f
 | 0=>⟨fun rows x x' rows' ps h=>by simp [frz] at h,fun rows l l' rows' ps h=>by simp [frzL] at h⟩
 | f + 1 => by
  obtain ⟨ih1,ih2⟩:=zhj f
  refine ⟨fun rows x x' rows' ps h hps B M0 rho wr w v hm hr=>?_,fun rows l l' rows' ps h hps B M0 rho wr w vals hm hr=>?_⟩
  ·unfold frz at h
   split at h
   ·rename_i r off n sz
    cases hr with
    | @own _ _ _ _ b cap hrb hsb hcap hbz=>
     have hrho:rho[r]? = some b:=hrb
     split at h
     ·rename_i cs lv hrow
      split at h
      ·rename_i hle
       split at h
       ·rename_i cs' rows'' ps' hL
        cases h
        have hrows:=yZ hrow (by simp)
        have hs1:=zdI (wr:=wr) hm hrows (.inl ⟨cs,lv,rfl,rfl⟩)
        have hrl:r<rows.length:=(List.getElem?_eq_some_iff.1 hrows).1
        have hrow1:(rows.set r (.flat cs false))[r]? = some (.flat cs false):=by simp [hrl]
        obtain ⟨c,e,hbk,hlc,hcs⟩:=hs1.mem.row r _ b hrow1 hrho
        have hbk':w.heap[b]? = some (.cells c e (0,0)):=hbk
        obtain ⟨hs2,hl2,hr2⟩:=ih2 _ _ _ _ _ hL hps B M0 rho wr w (fun i=>c.getD (off+i) undef) hs1.mem (fun i hi=>by
         grind)
        refine ⟨hs1.trans hs2,.sl (fun i=>c.getD (off+i) undef) hsb ?_ hcap (fun i hi=>?_) hr2⟩
        ·have h1:=zbL hs1.mem hrow1 rfl rfl hrho
         exact(hs2.ext.keep b hsb h1).2
        ·have hi':i<n*sz:=by grind
         have hoc:off+i<c.size:=by omega
         show AZ w.heap b (off+i)=_
         simp [AZ,hbk',hoc,Array.getD]
       ·cases h
      ·cases h
     ·rename_i l lv hrow
      split at h
      ·rename_i hc
       obtain ⟨rfl,rfl⟩:=hc
       cases h
       have hnl:n≤l.length:=hps _ (List.mem_cons_self ..)
       have hrows:=yZ hrow (by simp)
       have hs1:=zdI (wr:=wr) hm hrows (.inr (.inl ⟨l,lv,rfl,rfl⟩))
       have hrl:r<rows.length:=(List.getElem?_eq_some_iff.1 hrows).1
       have hrow1:(rows.set r (.ints l false))[r]? = some (.ints l false):=by simp [hrl]
       obtain ⟨c,e,hbk,hlc,hcs⟩:=hs1.mem.row r _ b hrow1 hrho
       have hbk':w.heap[b]? = some (.cells c e (0,0)):=hbk
       have hlen:(l.take n).length=n:=by simp;omega
       refine ⟨hs1,?_⟩
       have:=Rd.sq (E:=iZ M0 (rows.set r (.ints l false)) rho w) (l:=l.take n) (a:=some ⟨b,0,none⟩) (cap:=cap) (.inr ⟨b,0,rfl,zbL hs1.mem hrow1 rfl rfl hrho,fun i hi=>?_⟩) (by omega)
       ·rw [hlen] at this;exact this
       ·have hi':i<n:=by omega
        show AZ w.heap b (0+i)=_
        have h1:(l.take n).getD i 0=l.getD i 0:=by grind
        rw [h1,Nat.zero_add]
        simp only [AZ,hbk']
        exact hcs i (by omega)
      ·cases h
     ·rename_i k l lv hrow
      split at h
      ·rename_i hc
       obtain ⟨rfl,rfl⟩:=hc
       cases h
       have hnl:n≤l.length:=hps _ (List.mem_cons_self ..)
       have hrows:=yZ hrow (by simp)
       have hs1:=zdI (wr:=wr) hm hrows (.inr (.inr ⟨k,l,lv,rfl,rfl⟩))
       have hrl:r<rows.length:=(List.getElem?_eq_some_iff.1 hrows).1
       have hrow1:(rows.set r (.lst k l false))[r]? = some (.lst k l false):=by simp [hrl]
       obtain ⟨c,e,hbk,hlc,hcs⟩:=hs1.mem.row r _ b hrow1 hrho
       have hbk':w.heap[b]? = some (.cells c e (0,0)):=hbk
       have hlen:(l.take n).length=n:=by simp;omega
       refine ⟨hs1,.lst ?_⟩
       rw [hlen]
       have hcl:(hZ k (l.take n)).length=n*k.sz:=by rw [sZ,hlen]
       have hcl2:=sZ k l
       have hmul:n*k.sz≤l.length*k.sz:=Nat.mul_le_mul_right _ hnl
       refine .sl (b:=b) (o:=0) (fun i=>c.getD i undef) hsb (zbL hs1.mem hrow1 rfl rfl hrho) hcap (fun i hi=>?_) (fun i hi=>?_)
       ·have hoc:i<c.size:=by omega
        show AZ w.heap b (0+i)=_
        simp [AZ,hbk',hoc,Array.getD]
       ·rw [zcj]
        grind
      ·cases h
     ·cases h
   ·rename_i r off
    cases hr with
    | @ref _ _ b hrb=>
     have hrho:rho[r]? = some b:=hrb
     split at h
     ·rename_i cs lv hrow
      split at h
      ·rename_i cs' rows'' ps' hL
       cases h
       have hrows:=yZ hrow (by simp)
       have hs1:=zdI (wr:=wr) hm hrows (.inl ⟨cs,lv,rfl,rfl⟩)
       have hrl:r<rows.length:=(List.getElem?_eq_some_iff.1 hrows).1
       have hrow1:(rows.set r (.flat cs false))[r]? = some (.flat cs false):=by simp [hrl]
       obtain ⟨c,e,hbk,hlc,hcs⟩:=hs1.mem.row r _ b hrow1 hrho
       have hbk':w.heap[b]? = some (.cells c e (0,0)):=hbk
       obtain ⟨hs2,hl2,hr2⟩:=ih2 _ _ _ _ _ hL hps B M0 rho wr w (fun i=>c.getD i undef) hs1.mem hcs
       refine ⟨hs1.trans hs2,?_⟩
       have hsb:=(hm.bnd r b hrho).2
       have:=Rd.pd (E:=iZ M0 rows' rho w) (cells:=cs') (off:=off) (b:=b) (o:=0) (fun i=>c.getD i undef) hsb (by
        have h1:=zbL hs1.mem hrow1 rfl rfl hrho
        exact(hs2.ext.keep b hsb h1).2) (fun i hi=>by
         have hoc:i<c.size:=by omega
         show AZ w.heap b (0+i)=_
         simp [AZ,hbk',hoc,Array.getD]) hr2
       grind
      ·cases h
     ·cases h
   ·split at h
    ·rename_i cs' rows'' ps' hL
     cases h
     cases hr with
     | agg hl hrr=>
      obtain ⟨hs2,hl2,hr2⟩:=ih2 _ _ _ _ _ hL hps B M0 rho wr w _ hm hrr
      exact ⟨hs2,.agg (by omega) hr2⟩
    ·cases h
   ·split at h
    ·rename_i cs' rows'' ps' hL
     cases h
     cases hr with
     | tup hl hrr=>
      obtain ⟨hs2,hl2,hr2⟩:=ih2 _ _ _ _ _ hL hps B M0 rho wr w _ hm hrr
      exact ⟨hs2,.tup (by omega) hr2⟩
    ·cases h
   ·cases h
   ·split at h
    ·cases h;exact ⟨Stp.refl hm,hr⟩
    ·cases h
   ·split at h
    ·cases h;exact ⟨Stp.refl hm,hr⟩
    ·cases h
   ·split at h
    ·cases h;exact ⟨Stp.refl hm,hr⟩
    ·cases h
   ·cases h;exact ⟨Stp.refl hm,hr⟩
  ·cases l with
   | nil=>
    simp only [frzL,Option.some.injEq,Prod.mk.injEq] at h
    obtain ⟨rfl,rfl,rfl⟩:=h
    exact ⟨Stp.refl hm,rfl,fun i hi=>by simp at hi⟩
   | cons x l=>
    simp only [frzL] at h
    split at h
    ·rename_i x1 rows1 ps1 hx
     split at h
     ·rename_i l1 rows2 ps2 hl
      simp only [Option.some.injEq,Prod.mk.injEq] at h
      obtain ⟨rfl,rfl,rfl⟩:=h
      obtain ⟨hs1,hr1⟩:=ih1 _ _ _ _ _ hx (fun p hp=>hps p (List.mem_append_left _ hp)) B M0 rho wr w (vals 0) hm (hr 0 (by simp))
      obtain ⟨hs2,hl2,hr2⟩:=ih2 _ _ _ _ _ hl (fun p hp=>hps p (List.mem_append_right _ hp)) B M0 rho wr w (fun i=>vals (i+1)) hs1.mem (fun i hi=>(hr (i+1) (by simpa using hi)).ext hs1.ext)
      refine ⟨hs1.trans hs2,by simp [hl2],fun i hi=>?_⟩
      cases i with
      | zero=>exact hr1.ext hs2.ext
      | succ i=>grind
     ·cases h
    ·cases h
theorem zbW {P : Program} {f : FuncId} {fn : Func} (hf : P.funcs[f]? = some fn) (hb : fn.body.isNone = false) (hn : (fn.name == "runtime.NumGoroutine") = false) (args : Array Value) (w : World) :
 (callFunc f args).run P w=.ok (.enter f args) w:=by
 simp only [callFunc,Sem.run_bind,run_program,Result.andThen_ok,hf,hn,hb,Bool.false_eq_true,if_false,Sem.run_pure]
def zbg (P:Program) (run:zao):Prop:=∀c st,Spec (run c st) fun r=>AW P c st r
def zkz (P:Program) (rows:List Row) (wr:List Nat) (f:FuncId) (args:List AV) (r:Out):Prop:=
 ∀B M0 rho w (vs:Array Value),Mem B M0 rows rho w→Fa (iZ M0 rows rho w) args vs →
  Calls P f vs w fun e w'=>∃v,e=.returned v∧∃rho',Stp B M0 rows rho wr w r.rows rho' r.wr w'∧Rd (iZ M0 r.rows rho' w') r.v v
theorem M.assoc {α β γ:Type} (m:M α) (f:α→M β) (k:β→M γ):M.bind (M.bind m f) k=M.bind m fun x=>M.bind (f x) k:=by
 funext c s
 unfold M.bind
 cases m c s with
 | need b=>rfl
 | atLoop b st=>rfl
 | fail n=>rfl
 | ok x s1 c1=>
  grind
theorem Spec.assoc {α β γ:Type} {m:M α} {f:α→M β} {k:β→M γ} {Q:γ→Prop} (h:Spec ((m >>= f) >>= k) Q):Spec (m >>= fun x=>f x >>= k) Q:=by
 have:((m >>= f) >>= k)=(m >>= fun x=>f x >>= k):=M.assoc m f k
 rw [← this];exact h
def zlI (tmps:Array Value):ResultVar→Sem Value
 | .tmp t=>pure (tmps.getD t undef)
 | .cell a t=>do loadVar t (← asAddr (tmps.getD a undef))
theorem zdc (hg:g.OK) {st:St} {B:Nat} {M0:Nat→Prop} {rho:List Nat} {w:World} {tmps:Array Value} (hm:Mem B M0 st.rows rho w) (hf:Fr (iZ M0 st.rows rho w) st.tm tmps) :
 ∀(l:List ResultVar),Spec (zaG g st l) fun vs=>∃us:List Value,vs.length=us.length∧(∀i,i<vs.length→Rd (iZ M0 st.rows rho w) (vs.getD i .junk) (us.getD i undef)) ∧
  (l.mapM (zlI tmps)).run g.P w=.ok us w
 | []=>Spec.pure' ⟨[],rfl,fun i hi=>by simp at hi,rfl⟩
 | .tmp t :: l=>by
  refine Spec.bind ((zdc hg hm hf l).mono fun vs ⟨us,h1,h2,h3⟩=>Spec.pure' ⟨tmps.getD t undef :: us,by simp [h1],fun i hi=>?_,?_⟩)
  ·cases i with
   | zero=>exact hf.getD t
   | succ i=>simp_all
  ·simp only [List.mapM_cons,Sem.run_bind,zlI,Sem.run_pure,Result.andThen_ok,h3]
 | .cell a t :: l=>by
  unfold zaG
  have hload:Spec (do let ti ← ty g t;zli st.rows ti (st.tm.get a)) fun x=>∃v,Rd (iZ M0 st.rows rho w) x v∧(do loadVar t (← asAddr (tmps.getD a undef)):Sem Value).run g.P w=.ok v w:=by
   let o : Oper := { dst := none, op := .load t (.tmp a), type := 0, pos := "", after := #[], guard := none }
   have hp:=zlj (g:=g) (n0:=fun _=>True) (st:=st) (o:=o) hg (t:=t) (a:=.tmp a) rfl
   intro c s x s' cs he hcs
   have hn:∀r off,pZ st.tm (.tmp a)=.ref r off→True:=fun _ _ _=>trivial
   obtain ⟨v,hv,hr⟩:=hp hn c s x s' cs he hcs B M0 rho ⟨tmps,[]⟩ w hm hf
   refine ⟨v,hv,?_⟩
   have hr1:=hr w (Keeps.refl _ _ _ _ _)
   have hr2:((Instr.loadAt t (tmps.getD a undef)).run g.P w).andThen (fun x w'=>(pure (.value x):Sem Next).run g.P w')=.ok (.value v) w:=by
    have:(execOp (Act.eval ⟨tmps,[]⟩) o)=(do pure (.value (← Instr.loadAt t (tmps.getD a undef))):Sem Next):=rfl
    simp_all
   have hr3:(Instr.loadAt t (tmps.getD a undef)).run g.P w=.ok v w:=by
    cases hq:(Instr.loadAt t (tmps.getD a undef)).run g.P w with
    | ok x w'=>
     simp_all
    | halt h w'=>rw [hq] at hr2;simp at hr2
   generalize tmps.getD a undef=p at hr3
   cases p with
   | pointer ad=>
    cases ad with
    | none=>simp [Instr.loadAt,Instr.sureAddr] at hr3
    | some ad=>
     simp only [Instr.loadAt,Instr.sureAddr,Sem.run_bind,Sem.run_pure,Result.andThen_ok] at hr3
     simp only [asAddr,Sem.run_bind,Sem.run_pure,Result.andThen_ok,hr3]
   | _=>simp [Instr.loadAt,Instr.sureAddr] at hr3
  refine Spec.assoc (m:=ty g t) (f:=fun ti=>zli st.rows ti (st.tm.get a)) ?_
  refine Spec.bind (hload.mono fun x ⟨v,hv,hr⟩=>Spec.bind ((zdc hg hm hf l).mono fun vs ⟨us,h1,h2,h3⟩=>Spec.pure' ⟨v :: us,by simp [h1],fun i hi=>?_,?_⟩))
  ·grind
  ·have hr':(zlI tmps (.cell a t)).run g.P w=.ok v w:=hr
   simp_all
theorem zf5 {P:Program} {fn:Func} {R:Ending→World→Prop} {B:Nat} {M0:Nat→Prop} {rows rows':List Row} {rho rho' wr wr':List Nat} {w:World} {tm:Fm} {tmps:Array Value} (hm:Mem B M0 rows rho w)
 (hleave:∀w2,Stp B M0 rows rho wr w rows' rho' wr' w2→Fr (iZ M0 rows' rho' w2) tm tmps→LeavesIn (fen none) 0 P fn tmps R [] .returning w2) :
 ∀(rs:List Nat) (w':World),Stp B M0 rows rho wr w rows' rho' wr' w'→Fr (iZ M0 rows' rho' w') tm tmps→rs.Nodup →
  (∀r∈rs,w.heap.size≤r∧r<w'.heap.size∧¬zcU M0 rows' rho' r∧w'.heap[r]? = some (.deferred (some [])))→LeavesInM (fen none) 0 P fn tmps R (rs.map markD) .returning w'
 | [],w',hs,hf,_,_=>hleave w' hs hf
 | r :: rs,w',hs,hf,hnd,hall=>by
  obtain ⟨h1,h2,h3,h4⟩:=hall r (by simp)
  obtain ⟨hn1,hn2⟩:=List.nodup_cons.1 hnd
  refine ⟨(by intro h;cases h),.inl ⟨r,w'.putObj r (.deferred none),rfl,run_takeDeferred h4,?_⟩⟩
  refine zf5 hm hleave rs _ (hs.putObj hm h1 h4 rfl rfl) (hf.putObj h4 rfl rfl) hn2 (fun s hs'=>?_)
  obtain ⟨k1,k2,k3,k4⟩:=hall s (by simp [hs'])
  exact ⟨k1,by simpa using k2,k3,(World.putObj_heap_other (show s≠r from fun e=>hn1 (by rw [← e];exact hs'))).trans k4⟩
theorem zdQ (hg : g.OK) {run:zao} (hrun:zbg g.P run) {f:FuncId} {fn:Func} (hfn:fnOf g.P f=some fn) {c:Code} (hc:fn.body=some c) {args:List AV} (hnt:¬fn.ntmps<args.length) (rows:List Row) (wr:List Nat) :
 Spec (run c ⟨Fm.args fn.ntmps args,rows,wr⟩) fun r=>(r.1=.normal∨r.1=.ret)→Spec (zaG g r.2 fn.results.toList) fun vs=>zkz g.P rows wr f args ⟨one vs,r.2.rows,r.2.wr⟩:=by
 obtain ⟨hF1,hF2,hF3⟩:=hg.F f fn hfn
 refine (hrun c _).mono fun r haw=>?_
 obtain ⟨ex,st'⟩:=r
 intro hex
 have fin : Spec (do let vs ← zaG g st' fn.results.toList;M.pure (⟨one vs,st'.rows,st'.wr⟩:Out)) fun r=>zkz g.P rows wr f args r:=by
  intro cc s x s' cs he hcs B M0 rho w vs hm hf
  have hsz:vs.size=args.length:=hf.1.symm
  refine callsIn_wide.1 (callsIn_of_wp_marks (F:=fen none) (n:=0) hF1 hc trivial ?_ rfl)
  have hfr:Fr (iZ M0 rows rho w) (Fm.args fn.ntmps args) (vs++Array.replicate (fn.ntmps-vs.size) undef):=Fr.args hf hnt
  refine wpIn_mono (haw B M0 w.heap.size rho ⟨vs++Array.replicate (fn.ntmps-vs.size) undef,[]⟩ w none rfl hm hfr (Mk.nil (Nat.le_refl _))) ?_
  rintro e a' w1 ⟨hee,rho',hs1,hf1,hmk⟩
  have hleave : ∀w',Stp B M0 rows rho wr w st'.rows rho' st'.wr w'→Fr (iZ M0 st'.rows rho' w') st'.tm a'.tmps →
   ∃v,(results fn a'.tmps).run g.P w'=.ok v w'∧∃u,Ending.returned v=.returned u∧∃rho',Stp B M0 rows rho wr w x.rows rho' x.wr w'∧Rd (iZ M0 x.rows rho' w') x.v u:=by
   intro w' hs hf'
   have hres := Spec.bind (Q:=fun r:Out=>∃v,(results fn a'.tmps).run g.P w'=.ok v w'∧r.rows=st'.rows∧r.wr=st'.wr∧Rd (iZ M0 st'.rows rho' w') r.v v)
    ((zdc hg hs.mem hf' fn.results.toList).mono fun vs ⟨us,h1,h2,h3⟩=>Spec.pure' (x:=(⟨one vs,st'.rows,st'.wr⟩:Out)) (Q:=fun r:Out=>∃v,(results fn a'.tmps).run g.P w'=.ok v w'∧r.rows=st'.rows∧r.wr=st'.wr∧Rd (iZ M0 st'.rows rho' w') r.v v) (by
     have hm3:(fn.results.mapM (zlI a'.tmps)).run g.P w'=.ok us.toArray w':=by
      rw [← Array.toArray_toList (xs:=fn.results),List.mapM_toArray,Sem.run_map,h3];rfl
     have hres:results fn a'.tmps=(do let vs ← fn.results.mapM (zlI a'.tmps);pure (if h:vs.size=1 then vs[0] else .tuple vs)):=rfl
     rw [hres,Sem.run_bind,hm3]
     simp only [Result.andThen_ok,Sem.run_pure]
     by_cases h1':us.length=1
     ·obtain ⟨u,rfl⟩:=List.length_eq_one_iff.1 h1'
      obtain ⟨v,rfl⟩:=List.length_eq_one_iff.1 (h1.trans h1')
      exact ⟨u,by simp,by simp,by simp,h2 0 (by simp)⟩
     ·refine ⟨.tuple us.toArray,by simp [h1'],by simp,by simp,?_⟩
      have hone:one vs=.tup vs:=by
       cases vs with
       | nil=>rfl
       | cons v vs=>cases vs with
        | nil=>exact absurd h1.symm h1'
        | cons _ _=>rfl
      show Rd _ (one vs) _
      rw [hone]
      refine .tup (by simpa using h1) fun i hi=>?_
      simp_all))
   obtain ⟨v,k1,k2,k3,k4⟩:=hres cc s x s' cs he hcs
   grind
  obtain ⟨_,rs,hrs,hnd,hall⟩:=hmk
  have hfin:=zf5 (P:=g.P) (fn:=fn) (R:=fun e w'=>∃v,e=.returned v∧∃rho',Stp B M0 rows rho wr w x.rows rho' x.wr w'∧Rd (iZ M0 x.rows rho' w') x.v v) hm (fun w2 h1 h2=>hleave w2 h1 h2) rs w1 hs1 hf1 hnd hall
  rw [← hrs] at hfin
  subst hee
  rcases hex with rfl | rfl
  ·exact hfin
  ·exact hfin
 intro cc s vs s' cs he hcs
 refine fin cc s ⟨one vs,st'.rows,st'.wr⟩ s' cs ?_ hcs
 show M.bind _ _ cc s=_
 unfold M.bind
 rw [he]
 simp [M.pure]
theorem use_spec {f:FuncId}:Spec (useA g f) fun b=>b=true→g.has.contains f=true:=by
 unfold useA
 split
 ·exact Spec.pure' fun h=>(by cases h)
 ·rename_i h
  split
  ·exact Spec.pure' fun _=>h
  ·refine Spec.bind (Spec.nextLoop fun o=>?_)
   cases o with
   | some _=>exact Spec.pure' fun _=>h
   | none=>exact Spec.pure' fun h=>(by cases h)
theorem call_spec (hg:g.OK) {run:zao} (hrun:zbg g.P run) (rows:List Row) (wr:List Nat) (f:FuncId) (args:List AV) :
    Spec (callA g run rows wr f args) fun r=>zkz g.P rows wr f args r:=by
  unfold callA
  refine Spec.bind (Spec.ofOpt fun fn hfn=>?_)
  obtain ⟨hF1,hF2,hF3⟩:=hg.F f fn hfn
  refine Spec.bind (use_spec.mono fun use huse=>?_)
  split
  · rename_i hu
    have hhas:=huse hu
    refine Spec.bind (Spec.ofOpt fun p hp=>?_)
    obtain ⟨as,rows',fps⟩:=p
    dsimp only
    refine Spec.bind (Spec.tellAll fun hfps=>?_)
    split
    · rename_i hdata
      refine Spec.bind ((hg.C f as hhas hdata).mono fun v hfc=>Spec.pure' ?_)
      intro B M0 rho w vs hm hf
      obtain ⟨hs,hl,hr⟩:=(zhj 40).2 rows args as rows' fps hp hfps B M0 rho wr w (fun i=>vs.getD i undef) hm hf.2
      have hall:∀i,i<as.length→Rd ⟨w.heap,zcU M0 rows' rho,[]⟩ (as.getD i .junk) (vs.getD i undef):=fun i hi=>
        Rd.data (E:=iZ M0 rows' rho w) (E':=⟨w.heap,zcU M0 rows' rho,[]⟩) rfl (fun _ h=>h) (hr i hi) 20 (List.all_eq_true.1 hdata _ (by simp [List.getD,hi]))
      have hMb:∀b,zcU M0 rows' rho b→b<w.heap.size:=by
        rintro b (h0 | ⟨r,row,_,_,h3⟩)
        · have:=hm.m0 b h0;have:=hm.hB;omega
        · exact(hs.mem.bnd r b h3).2
      refine (hfc (zcU M0 rows' rho) w vs hMb (by rw [hl];exact hf.1) hall).mono ?_
      rintro e w' ⟨u,he,hb,hu⟩
      have hext:Ext (iZ M0 rows' rho w) (iZ M0 rows' rho w'):=⟨hb.size,fun b hlt hM=>⟨hb.block b hlt,hM⟩,fun _ _ h=>h,fun b hlt=>by
        show YZ w'.heap b=YZ w.heap b
        unfold YZ;rw [hb.block b hlt]⟩
      have hmem:Mem B M0 rows' rho w':=⟨Nat.le_trans hm.hB hb.size,hm.m0,hs.mem.len,fun r b h=>⟨(hs.mem.bnd r b h).1,Nat.lt_of_lt_of_le (hs.mem.bnd r b h).2 hb.size⟩,
        fun r row b h1 h2=>(hs.mem.row r row b h1 h2).ext hext (hb.block b (hs.mem.bnd r b h2).2),hs.mem.inj⟩
      have hstep:Stp B M0 rows' rho wr w rows' rho wr w':=⟨hext,hmem,hb.mono hm.hB,Nat.le_refl _,fun s h _=>h,fun r row b _ h1 h2 h3 _=>⟨hb.block b (hs.mem.bnd r b h3).2,h3,row,h1,h2⟩⟩
      refine ⟨u,he,rho,hs.trans hstep,Rd.ext (E:=⟨w'.heap,zcU M0 rows' rho,[]⟩) (E':=iZ M0 rows' rho w') ⟨Nat.le_refl _,fun _ _ h=>⟨rfl,h⟩,fun r b h=>(by cases h),fun _ _=>rfl⟩ hu⟩
    · exact Spec.fail
  · refine Spec.bind (Spec.ofOpt fun c hc=>?_)
    split
    · exact Spec.fail
    · rename_i hnt
      refine Spec.bind ((zdQ hg hrun hfn hc hnt rows wr).mono fun r hr=>?_)
      obtain ⟨ex,st'⟩:=r
      dsimp only at hr ⊢
      have fin:(ex=.normal∨ex=.ret)→Spec (do let vs ← zaG g st' fn.results.toList;M.pure (⟨one vs,st'.rows,st'.wr⟩:Out)) fun r=>zkz g.P rows wr f args r:=fun hex=>
        Spec.bind ((hr hex).mono fun vs h=>Spec.pure' h)
      split
      · exact Spec.fail
      · rename_i hne
        refine fin ?_
        cases ex with
        | normal=>exact .inl rfl
        | ret=>exact .inr rfl
        | exit id=>exact absurd rfl (hne id)
end
def Le (x y:AV):Prop:=∀(E:Env) (v:Value),Rd E x v→Rd E y v
theorem Le.refl (x:AV):Le x x:=fun _ _ h=>h
theorem Le.trans {x y z:AV} (h:Le x y) (k:Le y z):Le x z:=fun E v hr=>k E v (h E v hr)
inductive LeL:List AV→List AV→Prop
 | nil:LeL [] []
 | cons {x y:AV} {l q:List AV} (h:Le x y) (k:LeL l q):LeL (x :: l) (y :: q)
theorem LeL.refl:∀l,LeL l l
 | []=>.nil
 | x :: l=>.cons (Le.refl x) (LeL.refl l)
theorem LeL.length {l q:List AV} (h:LeL l q):l.length=q.length:=by
 induction h with
 | nil=>rfl
 | cons _ _ ih=>simp [ih]
theorem LeL.getD {l q:List AV} (h:LeL l q):∀i,Le (l.getD i .junk) (q.getD i .junk):=by
 induction h with
 | nil=>intro i;exact Le.refl _
 | cons h _ ih=>
  intro i
  cases i with
  | zero=>exact h
  | succ i=>simpa using ih i
theorem LeL.append {a b c d:List AV} (h:LeL a b) (k:LeL c d):LeL (a++c) (b++d):=by
 induction h with
 | nil=>exact k
 | cons h _ ih=>exact .cons h ih
theorem Le.sl {l q:List AV} {n:Nat} (h:LeL l q):Le (.sl l n) (.sl q n):=by
 intro E v hr
 cases hr with
 | sl0=>exact .sl0
 | sl vals hs hM hc hv hc2=>exact .sl vals hs hM hc (fun i hi=>hv i (by rw [h.length];exact hi)) fun i hi=>h.getD i _ _ (hc2 i (by rw [h.length];exact hi))
theorem cells_int (l:List Int):hZ (.int .i64) l=l.map fun n=>AV.lit (.int .i64 n):=by
 induction l with
 | nil=>rfl
 | cons n l ih=>simp only [hZ,EK.cells,List.map_cons,List.cons_append,List.nil_append,ih]
theorem zjO (e:EK) (l:List e.ty):Le (.lst e l) (slA e l):=by
 unfold slA
 split
 ·intro E v h
  cases h with
  | lst h=>
   rename_i l
   have hcs:=cells_int l
   generalize hN:List.length l=N at h
   cases h with
   | @sl0 _ a cap=>
    have:l=[]:=List.eq_nil_of_length_eq_zero hN
    subst this
    exact .sq (.inl rfl) (Nat.zero_le _)
   | @sl _ _ b o cap vals hs hM hc hv hr=>
    rw [hcs] at hv hr
    have:Rd E (.sq l) (.slice (some ⟨b,o,none⟩) l.length cap):=.sq (.inr ⟨b,o,rfl,hM,fun i hi=>by
     have h1:=hv i (by simpa using hi)
     have h2:=hr i (by simpa using hi)
     have h3:(l.map fun n=>AV.lit (.int .i64 n)).getD i .junk=.lit (.int .i64 (l.getD i 0)):=by simp [List.getD,hi]
     rw [h3] at h2
     rw [h1,h2.lit_inv]⟩) (by omega)
    rw [hN] at this;exact this
 ·exact Le.refl _
theorem castL_spec {k k':EK} {l:List k.ty}:Spec (castL k k' l) fun l'=>l'.length=l.length∧hZ k' l'=hZ k l∧Le (.lst k l) (.lst k' l'):=by
 unfold castL
 split
 ·rename_i h
  subst h
  exact Spec.pure' ⟨rfl,rfl,Le.refl _⟩
 ·exact Spec.fail
theorem zg9 {k:EK} (hk:∀cs,Spec (k.dec cs) fun x=>LeL cs (k.cells x)):∀n cs,Spec (decN k.dec k.sz n cs) fun l=>l.length=n∧LeL cs (hZ k l)
 | 0,cs=>by
  unfold decN
  split
  ·exact Spec.pure' ⟨rfl,.nil⟩
  ·exact Spec.fail
 | n+1,cs=>by
  unfold decN
  refine Spec.bind ((hk _).mono fun x hx=>Spec.bind ((zg9 hk n _).mono fun l hl=>Spec.pure' ⟨by simp [hl.1],?_⟩))
  have:=hx.append hl.2
  rw [List.take_append_drop] at this
  exact this
theorem zjC {s d:AV}:Spec (zjB s d) fun z=>LeL [s,d] (EK.cells .whole z):=by
 unfold zjB
 refine Spec.bind (Spec.ofOpt fun b hb=>?_)
 split
 ·refine Spec.bind (Spec.tellB fun ht=>Spec.pure' ?_)
  exact .cons (fun E u hu=>by rw [hu.asB hb,ht];exact .lit _) (.cons (Le.refl _) .nil)
 ·refine Spec.bind (Spec.ofOpt fun q hq=>?_)
  split
  ·refine Spec.bind (Spec.tellB fun ht=>Spec.pure' ?_)
   refine .cons (fun E u hu=>by rw [hu.asB hb,ht];exact .lit _) (.cons (fun E u hu=>?_) .nil)
   obtain ⟨a,cap,rfl,hc,hi⟩:=zaU hq hu
   have:Rd E (.wd 0) (.slice a (digs (0:Int).natAbs).length cap):=.wd (.inl rfl) (Nat.zero_le _)
   exact this
  ·exact Spec.fail
theorem zbj:∀(k:EK) (cs:List AV),Spec (k.dec cs) fun x=>LeL cs (k.cells x)
 | .int ik,cs=>by
  unfold EK.dec
  split
  ·split
   ·rename_i h;subst h;exact Spec.pure' (LeL.refl _)
   ·exact Spec.fail
  ·exact Spec.fail
 | .bool,cs=>by
  unfold EK.dec
  split
  ·exact Spec.ofOpt fun b hb=>.cons (fun E u hu=>by rw [hu.asB hb];exact .lit _) .nil
  ·exact Spec.fail
 | .str,cs=>by
  unfold EK.dec
  split
  ·exact Spec.pure' (LeL.refl _)
  ·exact Spec.fail
 | .whole,cs=>by
  unfold EK.dec
  split
  ·exact zjC
  ·exact Spec.fail
 | .un,cs=>by
  unfold EK.dec
  split
  ·exact Spec.pure' .nil
  ·exact Spec.fail
 | .pr a b,cs=>by
  unfold EK.dec
  refine Spec.bind ((zbj a _).mono fun x hx=>Spec.bind ((zbj b _).mono fun y hy=>Spec.pure' ?_))
  have:=hx.append hy
  rw [List.take_append_drop] at this
  exact this
 | .sl e, cs=>by
  unfold EK.dec
  split
  ·split
   ·refine castL_spec.mono fun l' h=>.cons (h.2.2.trans (zjO _ _)) .nil
   ·refine (zg9 (zbj e) _ _).mono fun l h=>.cons (Le.trans (fun E v hv=>?_) (zjO _ _)) .nil
    have:=Le.sl h.2 E v hv
    rw [← h.1] at this
    exact .lst this
   ·refine Spec.pure' (.cons (Le.trans (fun E v hv=>?_) (zjO _ _)) .nil)
    rw [hv.lit_inv]
    exact .lst .sl0
   ·split
    ·refine Spec.ofOpt fun l hl=>.cons (fun E v hv=>?_) .nil
     obtain ⟨a,cap,rfl,hc,hi⟩:=zaU hl hv
     exact .sq hi hc
    ·exact Spec.fail
  ·exact Spec.fail
theorem zoW {k:EK} {x:AV} (hk:k≠.int .i64):Spec (dataL k x) fun l=>Le x (.lst k l):=by
 refine (zbj (.sl k) [x]).mono fun l h=>?_
 have e:EK.cells (.sl k) l=[.lst k l]:=by
  unfold EK.cells slA
  simp_all
 rw [e] at h
 exact h.getD 0
theorem CR.le {E:Env} {cs ds:List AV} {arr:Array Value} (h:CR E cs arr) (k:LeL cs ds):CR E ds arr:=
 ⟨by rw [← k.length];exact h.1,fun i hi=>k.getD i _ _ (h.2 i (by rw [k.length];exact hi))⟩
section
variable {g:Cfg} {n0:Nat→Prop} {st:St} {o:Oper}
theorem zfH {t e:TypeId} {k:EK} (h:elemK g t=some (e,k)):∃i d z,g.P.info? t=some i∧g.P.underlying t=some (.slice e)∧i.zero=some z∧d=(.slice e:TypeDesc)∧k≠.int .i64:=by
 unfold elemK at h
 split at h
 ·rename_i ti hti
  obtain ⟨i,d,z,h1,h2,h3,rfl⟩:=zik hti
  split at h
  ·rename_i e' htk
   have hd':=TZ htk
   grind
  ·cases h
 ·cases h
theorem fits_lst {E:Env} {k:EK} {cs:List AV} {l:List k.ty} {arr:Array Value} {b:Bool} (h:CR E cs arr) (hl:LeL cs (hZ k l)):RowFits E (.lst k l b) arr:=
 ⟨by have:=hl.length;have:=h.1;omega,(h.le hl).2⟩
theorem slA_cell (e:EK) (l:List e.ty):zcN (slA e l)=true:=by
 unfold slA
 split<;>rfl
theorem zd3:∀(k:EK) (x:k.ty),(k.cells x).all zcN=true
 | .int _,_=>rfl
 | .bool,_=>rfl
 | .str,_=>rfl
 | .whole,_=>rfl
 | .un,_=>rfl
 | .pr a b,p=>by
  unfold EK.cells
  rw [List.all_append,zd3 a,zd3 b];rfl
 | .sl e,l=>by
  unfold EK.cells
  rw [List.all_cons,slA_cell];rfl
theorem zf2 (k:EK):∀l:List k.ty,(hZ k l).all zcN=true
 | []=>rfl
 | x :: l=>by
  unfold hZ
  rw [List.all_append,zd3 k x,zf2 k l];rfl
theorem zrs {B:Nat} {M0:Nat→Prop} {rows:List Row} {rho:List Nat} {wr:List Nat} {w:World} (hm:Mem B M0 rows rho w) {r:Nat} {row row':Row} (hrow:rows[r]? = some row)
    (hl:row'.live=row.live) (ha:row'.alive=row.alive) (hs:∀(E:Env) (b:Nat),RowAt E row b→RowAt E row' b):Stp B M0 rows rho wr w (rows.set r row') rho wr w:=by
  have hrl:r<rows.length:=(List.getElem?_eq_some_iff.1 hrow).1
  have hM:∀k,¬zcU M0 rows rho k→¬zcU M0 (rows.set r row') rho k:=by
    rintro k hk (h0 | ⟨s,q,h1,h2,h3⟩)
    · exact hk (.inl h0)
    · rcases zaI hrl h1 with ⟨rfl,rfl⟩ | ⟨_,k1⟩
      · exact hk (.inr ⟨s,row,hrow,by rw [← hl];exact h2,h3⟩)
      · exact hk (.inr ⟨s,q,k1,h2,h3⟩)
  have hext:Ext (iZ M0 rows rho w) (iZ M0 (rows.set r row') rho w):=⟨Nat.le_refl _,fun k _ hk=>⟨rfl,hM k hk⟩,fun _ _ h=>h,fun _ _=>rfl⟩
  refine ⟨hext,⟨hm.hB,hm.m0,by simp [hm.len],hm.bnd,fun s q k h1 h2=>?_,fun s s' q q' k h1 h2 a1 a2 b1 b2=>?_⟩,Below.refl _ _,Nat.le_refl _,fun s hs _=>hs,fun s q k _ h1 h2 h3 _=>⟨rfl,h3,?_⟩⟩
  · rcases zaI hrl h1 with ⟨rfl,rfl⟩ | ⟨_,k1⟩
    · exact hs _ _ ((hm.row s row k hrow h2).ext hext rfl)
    · exact(hm.row s q k k1 h2).ext hext rfl
  · have key:∀(s:Nat) (q:Row),(rows.set r row')[s]? = some q→q.alive=true→∃q0:Row,rows[s]? = some q0∧q0.alive=true:=by
      grind
    obtain ⟨q0,g1,g2⟩:=key s q h1 a1
    obtain ⟨q1,g3,g4⟩:=key s' q' h2 a2
    exact hm.inj s s' q0 q1 k g1 g3 g2 g4 b1 b2
  grind
theorem zmj (hg : g.OK) {c:Call} {x y:Operand} {t t1:TypeId} (hold:Spec (zjr g st.rows st.wr t t1 (pZ st.tm x) (pZ st.tm y)) fun r=>RunOK g.P st o r)
 (ho:o.op=.call c) (hb:c.callee=.builtin .append) (hx:c.args.toList=[x,y]) (ht:c.argTypes.toList=[t,t1]) :
 Spec (zmi g st.rows st.wr t t1 (pZ st.tm x) (pZ st.tm y)) fun r=>RunOK g.P st o r:=by
 unfold zmi
 split
 ·exact hold
 ·rename_i e k hek
  obtain ⟨i,d,z,hi,hd,hz,_,hk⟩:=zfH hek
  split
  ·exact Spec.fail
  ·rename_i htt
   have htt':t=t1:=by simpa using htt
   subst htt'
   refine OZ fun B M0 rho a w hm hf=>?_
   have h1:c.args = #[x,y]:=by grind
   have h2:c.argTypes = #[t,t]:=by grind
   have exec:∀ {v:Value} {w':World},(Builtin.append_ #[t,t] o.type #[a.eval x,a.eval y]).run g.P w=.ok v w'→(execOp a.eval o).run g.P w=.ok (.value v) w':=by
    intro v w' h
    rw [zaw ho hb,h1,h2]
    simp only [builtin,Sem.run_bind,List.map_toArray,List.map_cons,List.map_nil,h,Result.andThen_ok,Sem.run_pure]
   refine Spec.bind (tZ hg fun i2 d2 z2 hi2 hd2 hz2=>?_)
   dsimp only
   split
   ·exact Spec.fail
   ·rename_i hsz
    have hpos:0<i2.size:=by omega
    have hsk:i2.size=k.sz:=by
     omega
    have hzs:z2.cells.size=i2.size:=by
     simp_all
    refine Spec.bind (Spec.ofOpt fun p hp=>?_)
    obtain ⟨x1,rows1,ps⟩:=p
    dsimp only
    refine Spec.bind (Spec.tellAll fun hps=>?_)
    obtain ⟨hs0,hy1⟩:=(zhj 40).1 _ _ _ _ _ hp hps B M0 rho st.wr w _ hm (hf.eval y)
    have hx1:=(hf.eval x).ext hs0.ext
    refine Spec.bind ((zoW hk).mono fun xs hxs=>?_)
    have hy2:=hxs _ _ hy1
    have hel:zby rows1 i2.size (.lst k xs)=some (xs.length,.inl (hZ k xs)):=by simp [zby,hsk]
    have hlen:zmf (.inl (hZ k xs)) xs.length i2.size:=by
     show(hZ k xs).length=xs.length*i2.size
     rw [hsk];exact sZ k xs
    split
    ·-- onto nil
     rename_i hs
     have hsv:a.eval x=.slice none 0 0:=by have:=hf.eval x;rw [hs] at this;exact this.lit_inv
     refine Spec.bind (Spec.chk fun c1=>Spec.bind (Spec.chk fun c2=>Spec.bind (Spec.chk fun c3=>Spec.pure' ?_)))
     simp only [decide_eq_true_eq] at c1 c2 c3
     obtain ⟨w',rho',v,k1,k2,k3⟩:=zdN (wr:=st.wr) (tt:=o.type) hs0.mem hd hi2 hz2 hzs hel hy2 c1 c2 c3 hlen
     have hst:=hs0.trans k2
     have hrow:(rows1++[zlO (.inl (hZ k xs))])[rows1.length]? = some (.flat (hZ k xs) true):=by simp [zlO]
     have hret:=zrs (wr:=st.wr) (row':=.lst k xs true) hst.mem hrow rfl rfl (fun E b hat=>hat)
     have hset:(rows1++[zlO (.inl (hZ k xs))]).set rows1.length (.lst k xs true)=rows1++[.lst k xs true]:=by
      simp
     rw [hset] at hret
     exact ⟨_,_,_,_,exec (by rw [hsv];exact k1),.inl rfl,hst.trans hret,k3.ext hret.ext⟩
    ·-- onto a row of one's own
     rename_i r n sz hs
     have hxv:=hx1
     rw [hs] at hxv
     refine Spec.bind (Spec.chk fun c1=>Spec.bind (Spec.chk fun c2=>?_))
     simp only [decide_eq_true_eq] at c1 c2
     split
     ·rename_i k' l hrow
      split
      ·rename_i hsz2
       refine Spec.bind (Spec.chk fun c3=>?_)
       simp only [decide_eq_true_eq] at c3
       refine Spec.bind (castL_spec.mono fun l' hl'=>Spec.pure' ?_)
       obtain ⟨g1,g2,_⟩:=hl'
       have hl1:l'.length=n:=by rw [g1];simp;omega
       have hrowf:=yZ hrow (by simp)
       have hkk:n*k.sz=n*k'.sz:=by
        have e1:=sZ k l'
        have e2:=sZ k' (l.take n)
        simp_all
       obtain ⟨w',rho',v,k1,k2,k3⟩:=zdO (wr:=st.wr) (tt:=o.type) hs0.mem hd hi2 hz2 hzs hel hy2 hxv c1 c2 (row':=.lst k (l'++xs) true) hrowf rfl rfl hsz2 hlen (fun E cc news hfc hel=>by
        have hfl:RowFits E (.flat (hZ k' l) true) cc:=hfc
        have hbase:=sZ k' l
        have hmul:n*k'.sz≤l.length*k'.sz:=Nat.mul_le_mul_right _ c3
        refine ⟨by have:=hfl.1;rw [hsk];omega,fun arr j1 j2 j3=>?_⟩
        have:=zlg hfl (k:=n*i2.size) (by rw [hsk];omega) hel j1 j2 j3
        have e3:(hZ k' l).take (n*i2.size)++hZ k xs=hZ k (l'++xs):=by
         rw [zjv,g2,zcj,hsk,hkk]
        rw [e3] at this
        exact this) (fun E news hel=>zb6 (arr:=news.toArray) hel (zf2 k xs))
       exact ⟨_,_,_,_,exec k1,.inl rfl,hs0.trans k2,k3⟩
      ·exact Spec.fail
     ·exact Spec.fail
    ·exact Spec.fail
theorem makeT_run (hg:g.OK) {t:TypeId} {l c:Operand} (hold:Spec (zpc st.wr (zdA g st.rows t (pZ st.tm l) (pZ st.tm c))) fun r=>RunOK g.P st o r) (ho:o.op=.makeSlice t l c) :
 Spec (zpc st.wr (makeT g st.rows t (pZ st.tm l) (pZ st.tm c))) fun r=>RunOK g.P st o r:=by
 unfold makeT
 split
 ·exact hold
 ·rename_i e k hek
  obtain ⟨i,d,z,hi,hd,hz,_,hk⟩:=zfH hek
  refine OZ fun B M0 rho a w hm hf=>zca ?_
  refine Spec.bind (tZ hg fun i2 d2 z2 hi2 hd2 hz2=>?_)
  refine Spec.bind (Spec.ofOpt fun nl hnl=>Spec.bind (Spec.ofOpt fun nc hnc=>?_))
  refine Spec.bind (Spec.chk fun c1=>Spec.bind (Spec.chk fun c2=>Spec.bind (Spec.chk fun c3=>Spec.bind (Spec.chk fun c4=>?_))))
  simp only [decide_eq_true_eq] at c1 c2 c3 c4
  obtain ⟨kl,hkl⟩:=(hf.eval l).asI hnl
  obtain ⟨kc,hkc⟩:=(hf.eval c).asI hnc
  have wl:IntKind.i64.wrap nl=nl:=zaT (by simp [inR,IntKind.min,IntKind.max,IntKind.signed,IntKind.bits];omega)
  have wc:IntKind.i64.wrap nc=nc:=zaT (by simp [inR,IntKind.min,IntKind.max,IntKind.signed,IntKind.bits];omega)
  have hp48:(2:Int) ^ 48=281474976710656:=by decide
  dsimp only
  split
  ·exact Spec.fail
  ·rename_i hsz
   have hpos:0<i2.size:=by omega
   have hsk:i2.size=k.sz:=by
    omega
   have hzs:z2.cells.size=i2.size:=by
    simp_all
   have hrun:(Instr.makeSlice t (a.eval l) (a.eval c)).run g.P w =
    .ok (.slice (some ⟨w.heap.size,0,none⟩) nl.toNat nc.toNat) (w.alloc (.cells ((Array.range (nc.toNat*i2.size)).map fun(k:Nat)=>z2.cells[k % z2.cells.size]!) e)):=by
    have h1:¬((decide (nc<0)||decide ((i2.bytes:Int)*nc > 2 ^ 48)||decide (nl<0)||decide (nl > nc))=true):=by
     grind
    simp only [Instr.makeSlice,Sem.run_bind,run_underlying hd,Result.andThen_ok,asInt,hkl,hkc,asIntOf,Sem.run_pure,zbp hi2,wl,wc]
    rw [if_neg h1]
    simp only [Sem.run_bind,run_askRoom,Result.andThen_ok,qZ hi2]
    by_cases h0:nc.toNat*i2.size=0
    ·simp only [h0,if_true,Sem.run_bind,Sem.run_pure,Result.andThen_ok,newRow,run_newObj,World.alloc_eq]
     grind
    ·simp only [if_neg h0,Sem.run_bind,VZ hi2 hz2,Result.andThen_ok,Sem.run_pure,newRow,run_newObj,World.alloc_eq]
   have hcl:nl.toNat≤nc.toNat:=by omega
   refine Spec.bind ((zbj k _).mono fun zx hzx=>Spec.pure' ?_)
   have hcr:=zkf (E:=iZ M0 st.rows rho w) z2 nc.toNat (by omega)
   have hmul:nl.toNat*z2.cells.size≤nc.toNat*z2.cells.size:=Nat.mul_le_mul_right _ hcl
   have hrep:∀n,LeL (zmd n (z2.cells.toList.map .lit)) (hZ k (List.replicate n zx)):=by
    intro n
    induction n with
    | zero=>exact .nil
    | succ n ih=>simp only [zmd,List.replicate_succ,hZ];exact hzx.append ih
   have hfit0:RowFits (iZ M0 st.rows rho w) (.flat (zmd nl.toNat (z2.cells.toList.map .lit)) true) ((Array.range (nc.toNat*z2.cells.size)).map fun(k:Nat)=>z2.cells[k % z2.cells.size]!):=by
    refine ⟨by simp [UZ,hmul],fun k hk=>?_⟩
    have hk':k<nl.toNat*z2.cells.size:=by simpa [UZ] using hk
    have:=hcr.2 k (by simp [UZ];omega)
    rw [zdE _ (by simp;omega) _ _ (by simpa using hk')]
    rw [zdE _ (by simp;omega) _ _ (by simp;omega)] at this
    exact this
   have hfit:RowFits (iZ M0 st.rows rho w) (.lst k (List.replicate nl.toNat zx) true) ((Array.range (nc.toNat*z2.cells.size)).map fun(k:Nat)=>z2.cells[k % z2.cells.size]!):=
    ⟨by have:=(hrep nl.toNat).length;have:=hfit0.1;omega,fun i hi=>(hrep nl.toNat).getD i _ _ (hfit0.2 i (by rw [(hrep nl.toNat).length];exact hi))⟩
   rw [hzs] at hfit
   rw [hzs] at hrun
   have hs:=zcG (wr:=st.wr) (e:=e) hm hfit
   refine ⟨_,_,_,_,by simp only [execOp,ho,Sem.run_bind,hrun,Result.andThen_ok,Sem.run_pure],.inl rfl,hs,.own (zcC hm.len) ?_ hcl ?_⟩
   ·show w.heap.size<(w.alloc _).heap.size;simp
   ·show 0+nc.toNat*k.sz≤YZ (w.alloc _).heap w.heap.size
    rw [zbt];simp [hsk]
theorem zf3 {place:Nat→Option (Nat × Nat)}:∀ {ps:List (Nat × AV)} {l0 cs:List AV},ziB place l0 ps=some cs→cs.length=l0.length
 | [],l0,cs,h=>by cases h;rfl
 | (j, x) :: ps,l0,cs,h=>by
  unfold ziB at h
  split at h
  ·split at h
   ·rename_i hh
    rw [zf3 h,zaR hh.2]
   ·cases h
  ·cases h
theorem zoR (hg:g.OK) {t:TypeId} {n:Nat} {parts:Array (Nat × Operand)} (hold:Spec (zpc st.wr (zch g st.rows t n (zeH st.tm parts.toList))) fun r=>RunOK g.P st o r) (ho:o.op=.buildSlice t n parts) :
    Spec (zpc st.wr (buildT g st.rows t n (zeH st.tm parts.toList))) fun r=>RunOK g.P st o r:=by
  unfold buildT
  split
  · exact hold
  · rename_i e k hek
    obtain ⟨i,d,z,hi,hd,hz,_,hk⟩:=zfH hek
    refine OZ fun B M0 rho a w hm hf=>zca ?_
    obtain ⟨p1,p2⟩:=zdC hf parts.toList
    have htl:(parts.map fun(i,x)=>(i,a.eval x)).toList=parts.toList.map fun(i,x)=>(i,a.eval x):=by simp
    refine Spec.bind (tZ hg fun i2 d2 z2 hi2 hd2 hz2=>?_)
    dsimp only
    split
    · exact Spec.fail
    · rename_i hc
      have c1:0<i2.size:=by omega
      have c2:¬(16777216<n*i2.size):=by omega
      have c3:z2.cells.toList.length=i2.size:=by
        omega
      have hsk:i2.size=k.sz:=by
        omega
      have c3':z2.cells.size=i2.size:=by simpa using c3
      refine Spec.bind (Spec.ofOpt fun cs hcs=>?_)
      have hz0:=zkf (E:=iZ M0 st.rows rho w) z2 n (by omega)
      rw [c3'] at hz0
      obtain ⟨arr',f1,f2⟩:=zhf hcs hz0 p1 p2
      refine Spec.bind (Spec.ofOpt fun p hp=>?_)
      obtain ⟨cs',rows',ps⟩:=p
      dsimp only
      refine Spec.bind (Spec.tellAll fun hps=>?_)
      obtain ⟨hs0,hl0,hr0⟩:=(zhj 40).2 _ _ _ _ _ hp hps B M0 rho st.wr w (fun i=>arr'.getD i undef) hm f2.2
      refine Spec.bind ((zg9 (zbj k) n cs').mono fun xs hxs=>Spec.pure' ?_)
      have hcr:CR (iZ M0 rows' rho w) cs' arr':=⟨by rw [hl0];exact f2.1,hr0⟩
      have r1:RowFits (iZ M0 rows' rho w) (.lst k xs true) arr':=fits_lst hcr hxs.2
      have hs:=hs0.trans (zcG (wr:=st.wr) (e:=e) hs0.mem r1)
      have hsz':arr'.size=n*i2.size:=by
        have h1:=f2.1
        have h3:=zf3 hcs
        rw [← h1,h3,UZ];simp [c3']
      refine ⟨_,_,_,.slice (some ⟨w.heap.size,0,none⟩) n n,?_,.inl rfl,hs,.own (zcC hs0.mem.len) (by show w.heap.size<(w.alloc (.cells arr' e)).heap.size;simp) (Nat.le_refl _) ?_⟩
      · have hr:(Instr.buildSlice t n (parts.map fun(i,x)=>(i,a.eval x))).run g.P w=.ok (.slice (some ⟨w.heap.size,0,none⟩) n n) (w.alloc (.cells arr' e)):=by
          unfold Instr.buildSlice
          simp only [Sem.run_bind,run_underlying hd,Result.andThen_ok,qZ hi2]
          have h24:¬(n*i2.size > 2 ^ 24):=by omega
          simp only [if_neg h24]
          by_cases h0:n*i2.size=0
          · have hn0:(Array.range 0).map (fun(k:Nat)=>z2.cells[k % i2.size]!)=(Array.range 0).map (fun(k:Nat)=>(#[]:Array Value)[k % (#[]:Array Value).size]!):=by simp
            rw [h0] at f1
            simp only [h0,if_true,Sem.run_bind,Sem.run_pure,Result.andThen_ok]
            rw [hn0] at f1
            rw [htl,f1]
            rfl
          · simp only [if_neg h0,Sem.run_bind,VZ hi2 hz2,Result.andThen_ok,Sem.run_pure,c3']
            rw [htl,f1]
            rfl
        simp only [execOp,ho,Sem.run_bind,hr,Result.andThen_ok,Sem.run_pure]
      · show 0+n*k.sz≤YZ (w.alloc (.cells arr' e)).heap w.heap.size
        rw [zbt,← hsk];omega
theorem zrr (hg : g.OK) {t:TypeId} {a v:Operand}
    (hold:Spec (do let ti ← ty g t;let rows ← zlZ st.rows ti (pZ st.tm a) (pZ st.tm v);M.pure (⟨.lit undef,rows,zod (pZ st.tm a) :: st.wr⟩:Out)) fun r=>RunOK g.P st o r)
    (ho:o.op=.store t a v) :
    Spec (do let ti ← ty g t;let rows ← zl0 st.rows ti (pZ st.tm a) (pZ st.tm v);M.pure (⟨.lit undef,rows,zod (pZ st.tm a) :: st.wr⟩:Out)) fun r=>RunOK g.P st o r:=by
  by_cases hrel:∃r i sz fo,pZ st.tm a=.rel r i sz fo
  · obtain ⟨r, ix, sz,fo,hx⟩:=hrel
    refine OZ fun B M0 rho act w hm hf=>?_
    refine Spec.bind (tZ hg fun i d z hi hd hz=>?_)
    have exec:∀(ad:Addr) (w':World),act.eval a=.pointer (some ad)→(storeVar t ad (act.eval v)).run g.P w=.ok () w'→(execOp act.eval o).run g.P w=.ok .skip w':=by
      intro ad w' he hr
      simp only [execOp,ho,Instr.storeAt,he,Instr.sureAddr,Sem.run_bind,Sem.run_pure,Result.andThen_ok,hr]
    rw [hx]
    unfold zl0
    dsimp only
    refine Spec.bind (Spec.bind (Spec.ofOpt fun vc hvc=>Spec.bind (Spec.ofOpt fun p hp=>?_)))
    obtain ⟨vc',rows',ps⟩:=p
    dsimp only
    refine Spec.bind (Spec.tellAll fun hps=>?_)
    have hcr0:=zfq hvc (hf.eval v)
    obtain ⟨hs0,hl0,hr0⟩:=(zhj 40).2 _ _ _ _ _ hp hps B M0 rho st.wr w (fun i=>(act.eval v).cells.getD i undef) hm hcr0.2
    have hcr:CR (iZ M0 rows' rho w) vc' (act.eval v).cells:=⟨by rw [hl0];exact hcr0.1,hr0⟩
    have hax:=hf.eval a
    rw [hx] at hax
    generalize heq:act.eval a=u at hax
    cases hax with
    | @rel _ _ _ _ b hr=>
      have hrho:rho[r]? = some b:=hr
      split
      · rename_i k l hrow
        split
        · rename_i hc
          obtain ⟨hsz,c1,c2,c3⟩:=hc
          subst hsz
          have c1':vc'.length=i.size:=c1
          refine Spec.bind (Spec.chk fun hlt=>?_)
          have hlt':ix<l.length:=by simpa using hlt
          refine Spec.bind ((zbj k _).mono fun x hxd=>Spec.pure' (Spec.pure' ?_))
          have hrows:=yZ hrow (by simp)
          obtain ⟨c,e,hb,hfit⟩:=hs0.mem.row r _ b hrows hrho
          have hcl:=sZ k l
          have hbound:(ix+1)*k.sz≤l.length*k.sz:=Nat.mul_le_mul_right _ hlt'
          rw [Nat.succ_mul] at hbound
          have hle:(ix*k.sz+fo)+vc'.length≤(hZ k l).length:=by omega
          have hsp:=zej c (act.eval v).cells.toList (ix*k.sz+fo) (by have:=hcr.1;have:=hfit.1;simp;omega)
          have hfo:=zex (b:=true) (cs:=hZ k l) hfit hcr hle
          have hfl:RowFits (iZ M0 rows' rho w) (.lst k (l.set ix x) true) (c.toList.take (ix*k.sz+fo)++(act.eval v).cells.toList++c.toList.drop (ix*k.sz+fo+(act.eval v).cells.toList.length)).toArray:=by
            have hcx:=nZ k (l.getD ix k.dflt)
            have hA:over (hZ k l) (ix*k.sz+fo) vc'=(hZ k l).take (ix*k.sz)++over (k.cells (l.getD ix k.dflt)) fo vc'++(hZ k l).drop (ix*k.sz+k.sz):=by
              have hmid:((hZ k l).drop (ix*k.sz)).take k.sz=k.cells (l.getD ix k.dflt):=by
                apply List.ext_getElem?
                intro j
                by_cases hj:j<k.sz
                · have h1:=zbv k l ix j hlt' hj
                  grind
                grind
              unfold over
              rw [← hmid]
              have e3:(hZ k l).take (ix*k.sz+fo)=(hZ k l).take (ix*k.sz)++(((hZ k l).drop (ix*k.sz)).take k.sz).take fo:=by
                rw [List.take_take,Nat.min_eq_left (by omega),List.take_add]
              have e4:(hZ k l).drop (ix*k.sz+fo+vc'.length)=((((hZ k l).drop (ix*k.sz)).take k.sz).drop (fo+vc'.length))++(hZ k l).drop (ix*k.sz+k.sz):=by
                rw [List.drop_take,List.drop_drop]
                have:(hZ k l).drop (ix*k.sz+k.sz)=((hZ k l).drop (ix*k.sz+(fo+vc'.length))).drop (k.sz-(fo+vc'.length)):=by rw [List.drop_drop];congr 1;omega
                rw [this,List.take_append_drop,Nat.add_assoc]
              simp_all
            have hB:=ziR k l ix x hlt'
            refine ⟨?_,fun j hj=>?_⟩
            · have h1:=hfo.1
              rw [hA] at h1
              rw [hB]
              have h2:=hxd.length
              simp_all
            · rw [hB] at hj ⊢
              have hLe:LeL (over (hZ k l) (ix*k.sz+fo) vc') ((hZ k l).take (ix*k.sz)++k.cells x++(hZ k l).drop (ix*k.sz+k.sz)):=by
                rw [hA];exact((LeL.refl _).append hxd).append (LeL.refl _)
              exact hLe.getD j _ _ (hfo.2 j (by rw [hLe.length];exact hj))
          have hs:=zce (wr:=st.wr) hs0.mem hrows rfl hrho hb hsp.1 rfl hfl
          refine ⟨.skip,_,rho,undef,exec ⟨b,ix*k.sz+fo,none⟩ _ heq ?_,.inr ⟨rfl,rfl⟩,hs0.trans hs,.lit _⟩
          unfold storeVar
          have hsz2:(act.eval v).cells.size=i.size:=by have:=hcr.1;omega
          simp only [Sem.run_bind,qZ hi,Result.andThen_ok,hsz2,ne_eq,not_true_eq_false,if_false]
          have hst:=run_storeCells_at (P:=g.P) b (ix*k.sz+fo) e (act.eval v).cells.toList 0 c w hb (by grind) (zb6 hcr c3)
          simpa using hst
        · exact Spec.fail
      · exact Spec.fail
  · have e:∀ti,zl0 st.rows ti (pZ st.tm a) (pZ st.tm v)=zlZ st.rows ti (pZ st.tm a) (pZ st.tm v):=by
      intro ti
      unfold zl0
      simp_all
    simp_all
end
end Go.Ev
end
section
set_option linter.unusedVariables false
namespace Go.Ev
open Go.RowKit (Below)
theorem wsrc_inv {rows:List Row} {src:AV} {m:Nat} {l:List Int} (h:wsrc rows src=some (m,l)) :
 (src=.lst .whole l∧m=l.length)∨∃r b,src=.own r 0 m 2∧rows.getD r .dead=.lst .whole l b:=by
 unfold wsrc at h
 grind
theorem wcopy_inv {rows:List Row} {dst src:AV} {r off n m:Nat} {cs:List AV} {l:List Int} (h:wcopy rows dst src=some (r,off,n,cs,m,l)) :
 wsrc rows src=some (m,l)∧dst=.own r off n 2∧rows.getD r .dead=.flat cs true∧off+n*2≤cs.length∧(cs.drop off).take (n*2)=zw n:=by
 unfold wcopy at h
 split at h
 ·cases h
 ·rename_i m' l' hw
  split at h
  ·rename_i r' off' n' sz
   split at h
   ·rename_i cs' hr
    split at h
    ·rename_i hc
     obtain ⟨rfl,h1,h2⟩:=hc
     cases h
     exact ⟨hw,rfl,hr,h1,(ziZ 1000).2 _ _ h2⟩
    ·cases h
   ·cases h
  ·cases h
theorem zfw (k:ZK):∀a b:List Int,uZ k (a++b)=uZ k a++uZ k b
 | [],b=>rfl
 | x :: a,b=>by
  show zgm k x++uZ k (a++b)=(zgm k x++uZ k a)++uZ k b
  rw [zfw k a b,List.append_assoc]
theorem zaZ:∀l:List Int,(uZ .W l).length=l.length*2
 | []=>rfl
 | x :: l=>by
  show(zgm .W x++uZ .W l).length=_
  rw [List.length_append,zaZ l]
  simp [zgm];omega
theorem zl7:∀n,(zw n).length=n*2
 | 0=>rfl
 | n+1=>by simp [zw,zl7 n];omega
theorem zw_drop:∀k n,k≤n→(zw n).drop (k*2)=zw (n-k)
 | 0,n,_=>by simp
 | k+1,n+1,h=>by
  rw [show(k+1)*2=k*2+1+1 by omega]
  show(zw n).drop (k*2)=_
  rw [zw_drop k n (by omega)];congr 1;omega
 | k+1,0,h=>by omega
theorem zw_le:∀n,LeL (zw n) (uZ .W (List.replicate n 0))
 | 0=>.nil
 | n+1=>by
  refine .cons (Le.refl _) (.cons (fun E v h=>?_) (zw_le n))
  have hv:=h.lit_inv
  subst hv
  exact .wd (z:=0) (.inl rfl) (Nat.zero_le _)
theorem padW_eq:∀(n i:Nat) (l:List Int),l.length≤i+n→i≤l.length→padW l i n=l.drop i++List.replicate (n-(l.length-i)) 0
 | 0,i,l,h,h2=>by
  obtain rfl:i=l.length:=by omega
  simp [padW]
 | n + 1, i,l,h,h2=>by
  unfold padW
  by_cases hi:i<l.length
  ·rw [padW_eq n (i+1) l (by omega) (by omega),List.drop_eq_getElem_cons hi]
   grind
  ·obtain rfl:i=l.length:=by omega
   have:∀(n j:Nat),l.length≤j→padW l j n=List.replicate n 0:=by
    intro n
    induction n with
    | zero=>intro j _;rfl
    | succ n ih=>
     intro j hj
     unfold padW
     grind
   grind
theorem zdu:∀l:List Int,hZ .whole l=uZ .W l
 | []=>rfl
 | z :: l=>by
  show EK.cells .whole z++hZ .whole l=zgm .W z++uZ .W l
  rw [zdu l];rfl
theorem zit:∀(k:Nat) (l:List Int),(uZ .W l).take (k*2)=uZ .W (l.take k)
 | 0,l=>by simp [uZ]
 | k+1,[]=>by simp [uZ]
 | k+1,x :: l=>by
  rw [show(k+1)*2=k*2+1+1 by omega]
  show _ :: _ :: (uZ .W l).take (k*2)=zgm .W x++uZ .W (l.take k)
  rw [zit k l];rfl
theorem zis:∀l:List Int,(uZ .W l).all zcN=true
 | []=>rfl
 | x :: l=>by
  show(zgm .W x++uZ .W l).all zcN=true
  rw [List.all_append,zis l]
  rfl
theorem fits_leL {E:Env} {a b:List AV} {c:Array Value} (h:RowFits E (.flat a true) c) (hl:LeL a b):RowFits E (.flat b true) c:=by
 have hlen:=hl.length
 exact ⟨by rw [← hlen];exact h.1,fun i hi=>hl.getD i E _ (h.2 i (by rw [hlen];exact hi))⟩
theorem over_leL {cs:List AV} {off n m:Nat} {l:List Int} (hm:m≤n) (hl:m≤l.length) (hz:(cs.drop off).take (n*2)=zw n) (hb:off+n*2≤cs.length) :
 LeL (over cs off (uZ .W (l.take m))) (over cs off (uZ .W (padW (l.take m) 0 n))):=by
 have h1:(l.take m).length=m:=by simp;omega
 have h2:padW (l.take m) 0 n=l.take m++List.replicate (n-m) 0:=by
  rw [padW_eq n 0 (l.take m) (by omega) (Nat.zero_le _),h1];simp
 have h3:cs.drop (off+m*2)=zw (n-m)++cs.drop (off+n*2):=by
  have e:cs.drop off=zw n++(cs.drop off).drop (n*2):=by rw [← hz];exact(List.take_append_drop _ _).symm
  rw [← List.drop_drop,e,List.drop_append_of_le_length (by rw [zl7];omega),zw_drop m n hm,List.drop_drop]
 unfold over
 rw [h2,zaZ,h1,zaZ,List.length_append,h1,List.length_replicate,h3,zfw,List.append_assoc,List.append_assoc,List.append_assoc,show m+(n-m)=n by omega]
 exact(LeL.refl _).append ((LeL.refl _).append ((zw_le _).append (LeL.refl _)))
section
variable {g:Cfg} {n0:Nat→Prop} {st:St} {o:Oper}
theorem copyT_run (hg:g.OK) {c:Call} {x y:Operand} {t t1:TypeId} (ho:o.op=.call c) (hb:c.callee=.builtin .copy) (hx:c.args.toList=[x,y]) (ht:c.argTypes.toList=[t,t1]) :
 Spec (copyT g st.rows st.wr t (pZ st.tm x) (pZ st.tm y)) fun r=>RunOK g.P st o r:=by
 unfold copyT
 split
 ·exact copy_run hg ho hb hx ht
 rename_i r off n cs m l hw
 obtain ⟨hsrcw,hdst,hrow,hbnd,hzw⟩:=wcopy_inv hw
 refine OZ fun B M0 rho a w hm hf=>?_
 have h1:c.args = #[x,y]:=by grind
 have h2:c.argTypes = #[t,t1]:=by grind
 have exec:∀ {v:Value} {w':World},(Builtin.copy_ #[t,t1] o.type #[a.eval x,a.eval y]).run g.P w=.ok v w'→(execOp a.eval o).run g.P w=.ok (.value v) w':=by
  intro v w' h
  rw [zaw ho hb,h1,h2]
  simp only [builtin,Sem.run_bind,List.map_toArray,List.map_cons,List.map_nil,h,Result.andThen_ok,Sem.run_pure]
 refine Spec.bind (tZ hg fun i d z hi hd hz=>?_)
 dsimp only
 split
 ·rename_i e htk
  have hd':=TZ htk;subst hd'
  refine Spec.bind (tZ hg fun i2 d2 z2 hi2 hd2 hz2=>?_)
  dsimp only
  split
  ·rename_i hs2
   have c3':i2.size=2:=hs2
   refine Spec.bind (Spec.chk fun c1=>Spec.bind (Spec.chk fun c2=>Spec.pure' ?_))
   have c1:=of_decide_eq_true c1
   have c2:=of_decide_eq_true c2
   have hp:zby st.rows i2.size (pZ st.tm y)=some (m,.inl (uZ .W (l.take m))):=by
    rcases wsrc_inv hsrcw with ⟨e1,e2⟩ | ⟨r',b',e1,e2⟩
    ·rw [e1,c3',e2,List.take_length]
     show(if 2=EK.whole.sz then some (l.length,Sum.inl (hZ .whole l)) else none)=_
     rw [if_pos (show 2=EK.whole.sz from rfl),zdu]
    ·rw [e1,c3']
     unfold zby
     dsimp only
     rw [e2]
     show(if 0=0∧2=2∧2=EK.whole.sz∧m≤l.length then some (m,Sum.inl ((hZ .whole l).take (m*2))) else none)=_
     rw [if_pos (show 0=0∧2=2∧2=EK.whole.sz∧m≤l.length from ⟨rfl,rfl,rfl,c1⟩),zdu,zit]
   have hxv:=hf.eval x
   rw [hdst] at hxv
   have hle:(uZ .W (l.take m)).length=m*i2.size:=by rw [zaZ,c3'];simp;omega
   have hle2:(uZ .W (l.take m)).length=m*2:=by rw [hle,c3']
   obtain ⟨ad,cp,news,hv,hnl,hel,hsrc⟩:=zew hm hp (hf.eval y) (show(uZ .W (l.take m)).length=m*i2.size from hle)
   have hnl':news.length=m*i2.size:=hnl
   generalize heq:a.eval x=u at hxv
   cases hxv with
   | @own _ _ _ _ b cap hr hsb hcap hbz=>
    have hrho:rho[r]? = some b:=hr
    have hrows:=yZ hrow (by simp)
    obtain ⟨cc,e',hbk,hfit⟩:=hm.row r _ b hrows hrho
    have hcr:CR (iZ M0 st.rows rho w) (uZ .W (l.take m)) news.toArray:=hel
    have hkk:Nat.min m n=m:=Nat.min_eq_left c2
    have hel':(uZ .W (l.take m)).length=news.length:=by omega
    have hlen:off+(uZ .W (l.take m)).length≤cs.length:=by omega
    have hfitlen:=hfit.1
    have hsp:=zej cc news off (by omega)
    have hfo:=fits_leL (zex (b:=true) hfit hcr hlen) (over_leL c2 c1 hzw hbnd)
    have hs:=zce (wr:=st.wr) (c':=(cc.toList.take off++news++cc.toList.drop (off+news.length)).toArray) (row':=.flat (over cs off (uZ .W (padW (l.take m) 0 n))) true) hm hrows rfl hrho hbk hsp.1 rfl hfo
    refine ⟨_,_,rho,.int .i64 (m:Int),exec ?_,.inl rfl,hs,.lit _⟩
    have hone:∀u∈news,u.oneCell'=true:=fun u hu=>zb6 (arr:=news.toArray) hcr (zis _) u (by simpa using hu)
    have hst:=run_storeCells_at (P:=g.P) b off e' news 0 cc w hbk (by omega) hone
    have hsr:=hsrc m (Nat.le_refl _) g.P w rfl
    rw [List.take_of_length_le (by omega)] at hsr
    simp only [Nat.add_zero] at hst
    generalize w.setRow b (cc.toList.take off++news++cc.toList.drop (off+news.length)).toArray=W at hst ⊢
    simp only [Builtin.copy_]
    simp only [heq,hv]
    simp [run_underlying hd,Builtin.lenOf,qZ hi2,hkk]
    rw [hsr]
    simp only [Result.andThen_ok]
    rw [hst]
    rfl
  ·exact Spec.fail
 ·exact Spec.fail
end
end Go.Ev
end
section
namespace Go.Ev
open Go.RowKit (Below)
section
variable {g:Cfg} {n0:Nat→Prop} {st:St} {o:Oper}
def PureOut (P:Program) (n0:Nat→Prop) (st:St) (o:Oper) (r:Out):Prop:=r.rows=st.rows∧r.wr=st.wr∧PureOK P n0 st o r.v
theorem zZ {m:M AV} (h:Spec m fun v=>PureOK g.P n0 st o v):Spec (same st.rows st.wr m) fun r=>PureOut g.P n0 st o r:=
 same_spec (h.mono fun _ hv=>⟨rfl,rfl,hv⟩)
theorem PureOut.op {P:Program} {n0:Nat→Prop} {r:Out} (h:PureOut P n0 st o r):OpOK P st o r:=by
 obtain ⟨h1,h2,h3⟩:=h
 obtain ⟨v,rows,wr⟩:=r
 simp only at h1 h2 h3
 subst h1;subst h2
 exact h3.run.op
theorem zmm (hg:g.OK) {run:zao} (hrun:zbg g.P run) {c:Call} {f:Operand} (ho:o.op=.call c) (hc:c.callee=.value f) {h:FuncId} {cs:List AV} (hf0:pZ st.tm f=.fn h cs) :
    Spec (callA g run st.rows st.wr h (c.args.toList.map (pZ st.tm)++cs)) fun r=>OpOK g.P st o r:=by
  intro cc s x s' ps he hps
  have hcall:=call_spec hg hrun st.rows st.wr h (c.args.toList.map (pZ st.tm)++cs) cc s x s' ps he hps
  have hlk:∃fn,fnOf g.P h=some fn:=by
    cases hl:fnOf g.P h with
    | some fn=>exact ⟨fn,rfl⟩
    | none=>
      exfalso
      unfold callA at he
      have:(ofOpt 73 (fnOf g.P h):M Func)=fail 73:=by rw [hl];rfl
      rw [this] at he
      change M.bind _ _ cc s=_ at he
      simp [M.bind,fail] at he
  obtain ⟨fn,hfn⟩:=hlk
  obtain ⟨hF1,hF2,hF3⟩:=hg.F h fn hfn
  intro B M0 rho a w hm hf K Q hK
  have hfv:=hf.eval f
  rw [hf0] at hfv
  generalize heq:a.eval f=u at hfv
  cases hfv with
  | @fn _ _ caps hl hr=>
    have hfr:Fa (iZ M0 st.rows rho w) (c.args.toList.map (pZ st.tm)++cs) (c.args.map a.eval++caps):=by
      refine ⟨by simp [hl],fun i hi=>?_⟩
      by_cases hia:i<c.args.size
      · have e1:(c.args.toList.map (pZ st.tm)++cs).getD i .junk=pZ st.tm c.args[i]:=by
          simp_all
        have e2:(c.args.map a.eval++caps).getD i undef=a.eval c.args[i]:=by
          simp_all
        rw [e1,e2];exact hf.eval _
      simp_all
    have hexec:(execOp a.eval o).run g.P w=.ok (.enter h (c.args.map a.eval++caps)) w:=by
      simp only [execOp,ho,resolve,hc,heq,Deferred.ofValue,Sem.run_bind,Sem.run_pure,Result.andThen_ok,invoke]
      have:=zbW hF1 hF2 hF3 (c.args.map a.eval++caps) w
      simpa using this
    unfold Oper.wp
    rw [hexec]
    show Calls g.P h _ w _
    refine (hcall B M0 rho w _ hm hfr).mono ?_
    grind
theorem zf9 (hg:g.OK) {run:zao} {n:Nat} {W:List Nat} (hp:zlB n W st o=true):Spec (opA g run st o) fun r=>PureOut g.P (fun r=>r<n∧r ∉ W) st o r:=by
 obtain ⟨dst,op,type,pos,after,guard⟩:=o
 cases op<;>simp only [zlB,Bool.false_eq_true] at hp<;>dsimp only [opA]
 case move x=>exact zZ (Spec.pure' (zlo (.inl rfl)))
 case assign x=>exact zZ (Spec.pure' (zlo (.inr rfl)))
 case pick c a b=>exact zZ (pick_pure rfl)
 case build t parts=>exact zZ (zoS hg rfl)
 case load t a=>
  refine zZ (zi4 hg rfl fun r hx=>?_)
  generalize pZ st.tm a=z at hp hx
  cases z<;>simp only [zkk,Option.some.injEq] at hx<;>first | (cases hx;done) | skip
  ·subst hx;simpa using hp
  ·subst hx;simpa using hp
 case nilCheck x=>exact zZ (zjW rfl)
 case binOp op t x y t'=>exact zZ (zoN hg rfl)
 case unOp op t x=>exact zZ (unOp_pure rfl)
 case convert a b x=>exact zZ (zkI hg rfl)
 case makeFunc fn first caps=>
  cases fn with
  | func f=>exact zZ (zjP rfl)
  | _=>exact Spec.fail
 case slice t x lo hi mx=>
  refine zZ ?_
  cases mx with
  | none=>exact zm7 hg rfl
  | some m=>exact Spec.fail
 case fieldAddr t x f=>exact zZ (ziA hg rfl)
 case field t x f=>exact zZ (zo1 hg rfl)
 case indexAddr t x i=>exact zZ (zmI hg rfl)
 case index t x i=>exact zZ (zo5 hg rfl)
 case extract x i=>exact zZ (zlc rfl)
 case call c=>
  obtain ⟨callee,args,argTypes⟩:=c
  cases callee with
  | value f=>simp at hp
  | invoke r m=>simp at hp
  | builtin b=>
   dsimp only
   split
   ·rename_i x t h1 h2
    exact zZ (len_pure hg rfl rfl h1 h2)
   ·simp at hp
   ·simp at hp
   ·rename_i x y h1
    exact zZ (zho (isMax:=false) rfl rfl h1)
   ·rename_i x y h1
    exact zZ (zho (isMax:=true) rfl rfl h1)
   ·exact Spec.fail
theorem op_spec (hg:g.OK) {run:zao} (hrun:zbg g.P run):Spec (opA g run st o) fun r=>OpOK g.P st o r:=by
 by_cases hp:∃n0,zlB n0 [] st o=true
 ·obtain ⟨n0,hp⟩:=hp
  exact(zf9 hg hp).mono fun r h=>h.op
 ·obtain ⟨dst,op,type,pos,after,guard⟩:=o
  cases op<;>dsimp only [opA]<;>try (exact absurd ⟨0,rfl⟩ hp)
  case alloc t=>exact(alloc_run hg rfl).mono fun r h=>h.op
  case box t x=>exact(box_run rfl).mono fun r h=>h.op
  case buildSlice t n parts=>exact(zoR hg (zix hg rfl) rfl).mono fun r h=>h.op
  case load t a=>
   have hn:∀r,zkk (pZ st.tm a)=some r→(fun _:Nat=>True) r:=fun _ _=>trivial
   exact(zZ (zi4 hg rfl hn)).mono fun r h=>h.op
  case store t a v=>exact(zrr hg (store_run hg rfl) rfl).mono fun r h=>h.op
  case makeSlice t l c=>exact(makeT_run hg (zjQ hg rfl) rfl).mono fun r h=>h.op
  case call c=>
   obtain ⟨callee,args,argTypes⟩:=c
   cases callee with
   | invoke r m=>exact Spec.fail
   | value f=>
    dsimp only
    split
    ·rename_i h cs hx
     exact zmm hg hrun (c:=⟨.value f,args,argTypes⟩) rfl rfl hx
    ·exact Spec.fail
   | builtin b=>
    dsimp only
    split
    ·exact absurd ⟨0,rfl⟩ hp
    ·rename_i x y t t1 h1 h2
     exact(zmj hg (zoL (c:=⟨.builtin .append,args,argTypes⟩) hg rfl rfl h1 h2) (c:=⟨.builtin .append,args,argTypes⟩) rfl rfl h1 h2).mono fun r h=>h.op
    ·rename_i x y t t1 h1 h2
     exact(copyT_run hg rfl rfl h1 h2).mono fun r h=>h.op
    ·exact absurd ⟨0,rfl⟩ hp
    ·exact absurd ⟨0,rfl⟩ hp
    ·exact Spec.fail
  all_goals exact Spec.fail
end
section
variable {P:Program} {ops:Array Oper} {Q:Exit→Act→World→Prop} {md:Region.Mode}
def zip (P:Program) (md:Region.Mode) (ops:Array Oper) (Q:Exit→Act→World→Prop):Nat→Array Bool→(World→Prop)→Act→World→Prop
 | 0,listed,_,a,w=>Region.ready md ops listed=[]∧Q .normal a w
 | fuel+1,listed,S,a,w=>
  (Region.ready md ops listed=[]→Q .normal a w) ∧
  ∀i∈Region.ready md ops listed,wpOp P ops Q i (fun a' w'=>∃S':World→Prop,(∀x,S' x→S x)∧S' w'∧zip P md ops Q fuel (listed.setIfInBounds i true) S' a' w') a w
theorem zjn:∀(fuel:Nat) (listed:Array Bool) (S:World→Prop) (a:Act) (w:World),zip P md ops Q fuel listed S a w→wpAny P md ops Q fuel listed a w
 | 0,_,_,_,_,h=>h
 | fuel+1,_,_,_,_,h=>⟨h.1,fun i hi=>wpOp_mono (fun a' w' ⟨S',_,_,h'⟩=>zjn fuel _ S' a' w' h') (h.2 i hi)⟩
theorem YieldsIf.weaken {S S':World→Prop} {o:Oper} {v:Value} {a:Act} (h:YieldsIf P ops S o v a) (hs:∀x,S' x→S x):YieldsIf P ops S' o v a:=
 h.imp (fun ⟨hw,hv⟩=>⟨hw,fun w hw'=>hv w (hs w hw')⟩) id
theorem zl6 {i:Nat} {oi:Oper} {v:Value} (hi:ops[i]? = some oi) (hsel:∀(j:Nat) (o:Oper) cs b,ops[j]? = some o→o.op≠.select cs b)
 (hQ:∀c a w,Q (.panic c) (a.put oi.dst v) w→Q (.panic c) a w) :
 ∀(fuel:Nat) (listed:Array Bool) (S:World→Prop) (a:Act) (w:World),
  (∀j oj,ops[j]? = some oj→j≠i→listed.getD j true=false→(∀e∈oj.after,Region.binds md e=true→e.on≠i)→oi.apart ops oj=true) →
  i∈Region.ready md ops listed→YieldsIf P ops S oi v a→S w →
  zip P md ops Q fuel (listed.setIfInBounds i true) S (a.put oi.dst v) w→zip P md ops Q (fuel+1) listed S a w:=by
 intro fuel
 induction fuel with
 | zero=>
  intro listed S a w _ hr hy hS H
  refine ⟨fun h=>(by rw [h] at hr;cases hr),fun j hj=>?_⟩
  by_cases hji:j=i
  ·subst hji;exact hy.wpOp hi hS ⟨S,fun _ h=>h,hS,H⟩
  ·have:=ready_mono hj hji
   rw [H.1] at this
   cases this
 | succ fuel ih=>
  intro listed S a w hfree hr hy hS H
  refine ⟨fun h=>(by rw [h] at hr;cases hr),fun j hj=>?_⟩
  by_cases hji:j=i
  ·subst hji;exact hy.wpOp hi hS ⟨S,fun _ h=>h,hS,H⟩
  ·have h1:=H.2 j (ready_mono hj hji)
   obtain ⟨hjun,oj,hoj,hall⟩:=mem_ready.1 hj
   have hnot:∀e∈oj.after,Region.binds md e=true→e.on≠i:=fun e he hb heq=>by
    have h1:=hall e he hb
    have h0:=(mem_ready.1 hr).1
    grind
   have h2:=wpOp_putIf hoj (hfree j oj hoj hji hjun hnot) (fun cs b=>hsel i oi cs b hi) (fun cs b=>hsel j oj cs b hoj) hQ hy h1
   have hfree':∀k ok,ops[k]? = some ok→k≠i→(listed.setIfInBounds j true).getD k true=false →
    (∀e∈ok.after,Region.binds md e=true→e.on≠i)→oi.apart ops ok=true:=fun k ok hk hki hun hno=>by
    refine hfree k ok hk hki ?_ hno
    by_cases hjk:j=k
    ·subst hjk;exact hjun
    simp_all
   refine wpOp_mono (fun a' w' h3=>?_) h2
   obtain ⟨h3,S',hs1,hs2,h4⟩:=h3
   refine ⟨S',hs1,hs2,ih (listed.setIfInBounds j true) S' a' w' hfree' (ready_mono hr (Ne.symm hji)) (YieldsIf.weaken h3 hs1) hs2 ?_⟩
   rw [Array.setIfInBounds_comm _ _ hji]
   exact h4
end
section
variable {g:Cfg}
def StepOK (P:Program) (ops:Array Oper) (st:St) (o:Oper) (st':St):Prop:=
 ∀B M0 rho (a:Act) w,Mem B M0 st.rows rho w→Fr (iZ M0 st.rows rho w) st.tm a.tmps→∀(K:Act→World→Prop) (Q:Exit→Act→World→Prop),
  (∀(a':Act) w' rho',Stp B M0 st.rows rho st.wr w st'.rows rho' st'.wr w'→Fr (iZ M0 st'.rows rho' w') st'.tm a'.tmps→a'.defers=a.defers→K a' w') →
  if Region.wanted o (yielded ops a.tmps)=true then o.wp P a w K Q else K (a.put o.dst undef) w
theorem zi9 {P:Program} {o:Oper} (hd:zbO o=true) {ro:Option Nat} {a:Act} {w:World} {K:Act→World→Prop} {Q:Exit→Act→World→Prop}
 (h:o.wp P a w K Q):o.wpIn (fen ro) 0 P a w K Q:=by
 refine ⟨fun _ _=>trivial,?_⟩
 have hsem:o.semAt (fen ro).round a.eval=execOp a.eval o:=by
  cases ro with
  | none=>exact Oper.semAt_none _ _
  | some l=>exact Oper.semAt_some l _ _ (fun c hc=>by simp [zbO,hc] at hd)
 rw [hsem]
 unfold Oper.wp at h
 generalize (execOp a.eval o).run P w=r at h
 cases r with
 | ok x w'=>
  cases x<;>simp only [Oper.upon,Oper.uponIn] at h ⊢
  case value v=>exact h
  case skip=>exact h
  case defer d=>exact h
  case enter f args=>exact ⟨fun h=>(by cases h),(callsIn_wide (n:=0)).2 h⟩
  case row row args=>exact ⟨fun h=>(by cases h),fun c cs _=>let ⟨v,w2,r,s⟩:=h c cs; ⟨v,w2,r,(stepsIn_wide).2 s⟩⟩
 | halt x w'=>cases x<;>simp only [Oper.upon,Oper.uponIn] at h ⊢ <;> exact h
theorem zdK {P:Program} {ops:Array Oper} (hnd:ops.toList.all zbO=true) {ro:Option Nat} {Q:Exit→Act→World→Prop} (hQ:¬LetsOut Q) {md:Region.Mode} :
 ∀(fuel:Nat) (listed:Array Bool) (a:Act) (w:World),wpAny P md ops Q fuel listed a w→wpAnyIn (fen ro) 0 P md ops Q fuel listed a w
 | 0,_,_,_,h=>h
 | fuel + 1,listed,a,w,h=>⟨h.1,fun i hi=>by
  have h1:=h.2 i hi
  unfold wpOp at h1
  unfold wpOpIn
  cases ho:ops[i]? with
  | none=>
   simp only [ho] at h1 ⊢
   exact zdK hnd hQ fuel _ a w h1
  | some o=>
   simp only [ho] at h1 ⊢
   have hod:zbO o=true:=List.all_eq_true.1 hnd o (by
    grind)
   split
   ·rename_i hw
    rw [if_pos hw] at h1
    rcases h1 with h2 | ⟨_,h2⟩
    ·exact zi9 hod (Oper.wp_mono (fun a' w' h3=>zdK hnd hQ fuel _ a' w' h3) h2)
    ·exact absurd h2 hQ
   ·rename_i hw
    rw [if_neg hw] at h1
    exact ⟨fun _ _=>trivial,zdK hnd hQ fuel _ _ w h1⟩⟩
theorem zfM (a:Act) (d:Option Tmp) (v:Value):(a.put d v).defers=a.defers:=by cases d<;>rfl
theorem Fr.put {E:Env} {tm:Fm} {a:Act} (hf:Fr E tm a.tmps) (d:Option Tmp) {x:AV} {v:Value} (h:Rd E x v):Fr E (putA tm d x) (a.put d v).tmps:=by
 cases d with
 | none=>exact hf
 | some d=>exact hf.set d h
theorem want_spec {ops:Array Oper} {st:St} {o:Oper}:Spec (wantA ops.toList st o) fun r=>r.2.rows=st.rows∧r.2.wr=st.wr ∧
    ∀E (a:Act),Fr E st.tm a.tmps→Region.wanted o (yielded ops a.tmps)=r.1∧Fr E r.2.tm a.tmps:=by
  unfold wantA
  split
  · rename_i hg
    exact Spec.pure' ⟨rfl,rfl,fun E a hf=>⟨by simp [Region.wanted,hg],hf⟩⟩
  · rename_i j want hgd
    refine Spec.bind (Spec.ofOpt fun oj hoj=>Spec.bind (Spec.ofOpt fun d hd=>?_))
    split
    · rename_i a0 hx
      refine Spec.pure' ⟨rfl,rfl,fun E a hf=>⟨?_,hf⟩⟩
      have hv:a.tmps.getD d undef=.tuple a0:=Rd.lit_inv (hx▸hf.getD d)
      have hoj':ops[j]? = some oj:=by simpa using hoj
      have hy:yielded ops a.tmps j=none:=by
        unfold yielded
        rw [zaQ] at hv
        grind
      simp only [Region.wanted,hgd,hy]
      cases want<;>rfl
    intro c s x s' cs he hcs
    have hrw:x.2.rows=st.rows∧x.2.wr=st.wr:=by
      have:=Spec.bind (Q:=fun x:Bool × St=>x.2.rows=st.rows∧x.2.wr=st.wr) (m:=decB (st.tm.get d)) (f:=fun b=>M.pure (eqB b want,{ st with tm:=st.tm.set d (ofB b) }))
        (fun c s x s' cs _ _=>Spec.pure' ⟨rfl,rfl⟩)
      exact this c s x s' cs he hcs
    refine ⟨hrw.1,hrw.2,fun E a hf=>?_⟩
    have:=Spec.bind (Q:=fun x:Bool × St=>Region.wanted o (yielded ops a.tmps)=x.1∧Fr E x.2.tm a.tmps) (m:=decB (st.tm.get d)) (f:=fun b=>M.pure (eqB b want,{ st with tm:=st.tm.set d (ofB b) }))
      (zg8 (hf.getD d) fun b hb=>Spec.pure' ?_)
    · exact this c s x s' cs he hcs
    · have hlt:d<a.tmps.size:=by
        cases Nat.lt_or_ge d a.tmps.size with
        | inl h=>exact h
        | inr h=>rw [zaQ,Array.getElem?_eq_none h] at hb;cases hb
      have hget:a.tmps[d]? = some (.bool b):=by
        simp_all
      have hoj':ops[j]? = some oj:=by simpa using hoj
      constructor
      · have hy:yielded ops a.tmps j=some b:=by
          unfold yielded
          simp [hoj',hd,hget]
        simp only [Region.wanted,hgd,hy]
        cases b<;>cases want<;>rfl
      · refine hf.know d ?_
        have h2:a.tmps.getD d undef=.bool b:=by rw [zaQ,hget];rfl
        rw [h2]
        cases b
        · exact .ff
        · exact .tt
theorem zlY (hg:g.OK) {run:zao} (hrun:zbg g.P run) {ops:Array Oper} {st:St} {o:Oper}:Spec (stepA g run ops.toList st o) fun st'=>StepOK g.P ops st o st':=by
 unfold stepA
 refine Spec.bind (want_spec.mono fun p hp=>?_)
 obtain ⟨wnt,st1⟩:=p
 obtain ⟨h1,h2,h3⟩:=hp
 dsimp only at h1 h2 h3 ⊢
 obtain ⟨tm1,rows1,wr1⟩:=st1
 simp only at h1 h2
 subst h1;subst h2
 cases wnt with
 | true=>
  refine Spec.bind ((op_spec hg hrun).mono fun r hr=>Spec.pure' ?_)
  intro B M0 rho a w hm hf K Q hK
  obtain ⟨k1,k2⟩:=h3 _ a hf
  rw [if_pos k1]
  refine hr B M0 rho a w hm k2 K Q fun v w' rho' hs hv=>?_
  exact hK _ w' rho' hs ((k2.ext hs.ext).put o.dst hv) (zfM _ _ _)
 | false=>
  refine Spec.pure' ?_
  intro B M0 rho a w hm hf K Q hK
  obtain ⟨k1,k2⟩:=h3 _ a hf
  rw [if_neg (by simp_all)]
  exact hK _ w rho (Stp.refl hm) (k2.put o.dst (.lit _)) (zfM _ _ _)
theorem zn0 (hg:g.OK) {run:zao} (hrun:zbg g.P run) {ops:Array Oper}:∀(l:List Oper) (st:St),l.all zbO=true→Spec (opsA g run ops.toList l st) fun st'=>
 ∀B M0 rho (a:Act) w (ro:Option Nat),Mem B M0 st.rows rho w→Fr (iZ M0 st.rows rho w) st.tm a.tmps→∀(Q:Exit→Act→World→Prop),
  (∀(a':Act) w' rho',Stp B M0 st.rows rho st.wr w st'.rows rho' st'.wr w'→Fr (iZ M0 st'.rows rho' w') st'.tm a'.tmps→a'.defers=a.defers→Q .normal a' w')→wpListIn (fen ro) 0 g.P ops Q l a w
 | [],st,_=>Spec.pure' fun B M0 rho a w ro hm hf Q hQ=>hQ a w rho (Stp.refl hm) hf rfl
 | o :: l,st,hnd=>by
  obtain ⟨hn1,hn2⟩:=(by simpa using hnd:zbO o=true∧l.all zbO=true)
  refine Spec.bind ((zlY hg hrun).mono fun st1 h1=>(zn0 hg hrun l st1 hn2).mono fun st2 h2=>?_)
  intro B M0 rho a w ro hm hf Q hQ
  have:=h1 B M0 rho a w hm hf (wpListIn (fen ro) 0 g.P ops Q l) Q fun a' w' rho' hs hf' hd'=>h2 B M0 rho' a' w' ro hs.mem hf' Q fun a2 w2 rho2 hs2 hf2 hd2=>hQ a2 w2 rho2 (hs.trans hs2) hf2 (hd2.trans hd')
  unfold wpListIn
  split
  ·rename_i hw;rw [if_pos hw] at this;exact zi9 hn1 this
  ·rename_i hw;rw [if_neg hw] at this;exact ⟨fun _ _=>trivial,this⟩
theorem zrq (hg:g.OK) {run:zao} {ops:Array Oper} {n:Nat} {W:List Nat} {st:St} {o:Oper}:Spec (stepP g run ops.toList n W st o) fun st'=>st'.rows=st.rows∧st'.wr=st.wr ∧
 ∀B M0 rho (a:Act) w,Mem B M0 st.rows rho w→Fr (iZ M0 st.rows rho w) st.tm a.tmps →
  ∃v,YieldsIf g.P ops (Keeps M0 (fun r=>r<n∧r ∉ W) st.rows rho w) o v a∧Fr (iZ M0 st.rows rho w) st'.tm (a.put o.dst v).tmps:=by
 unfold stepP
 refine Spec.bind (want_spec.mono fun p hp=>?_)
 obtain ⟨wnt,st1⟩:=p
 obtain ⟨h1,h2,h3⟩:=hp
 dsimp only at h1 h2 h3 ⊢
 obtain ⟨tm1,rows1,wr1⟩:=st1
 simp only at h1 h2
 subst h1;subst h2
 cases wnt with
 | true=>
  dsimp only
  split
  ·rename_i hp
   refine Spec.bind ((zf9 hg hp).mono fun r hr=>Spec.pure' ?_)
   obtain ⟨r1,r2,r3⟩:=hr
   refine ⟨r1,r2,fun B M0 rho a w hm hf=>?_⟩
   obtain ⟨k1,k2⟩:=h3 _ a hf
   obtain ⟨v,hv,hr⟩:=r3 B M0 rho a w hm k2
   exact ⟨v,.inl ⟨k1,hr⟩,k2.put o.dst hv⟩
  ·exact Spec.fail
 | false=>
  refine Spec.pure' ⟨rfl,rfl,fun B M0 rho a w hm hf=>?_⟩
  obtain ⟨k1,k2⟩:=h3 _ a hf
  exact ⟨undef,.inr ⟨k1,rfl⟩,k2.put o.dst (.lit _)⟩
theorem zo9 {B:Nat} {M0:Nat→Prop} {rows rows':List Row} {rho rho':List Nat} {wr':List Nat} {w w':World} {n:Nat} {W:List Nat}
 (hs:Stp B M0 rows rho [] w rows' rho' wr' w') (hl:∀s∈wr',n≤s∨s∈W) (x:World) (hx:Keeps M0 (fun r=>r<n∧r ∉ W) rows' rho' w' x):Keeps M0 (fun r=>r<n∧r ∉ W) rows rho w x:=by
 refine ⟨Nat.le_trans hs.ext.size hx.1,fun b hb hc=>?_⟩
 rcases hc with hM | ⟨r,row,⟨h1,h2⟩,h3,h4,h5⟩
 ·obtain ⟨k1,k2⟩:=hs.ext.keep b hb hM
  exact(hx.2 b (Nat.lt_of_lt_of_le hb hs.ext.size) (.inl k2)).trans k1
 ·obtain ⟨k1,k2,row',k3,k4⟩:=hs.frm.2.2 r row b (List.getElem?_eq_some_iff.1 h5).1 h3 h4 h5 (fun hm=>by
  grind)
  exact(hx.2 b (Nat.lt_of_lt_of_le hb hs.ext.size) (.inr ⟨r,row',⟨h1,h2⟩,k3,k4,k2⟩)).trans k1
theorem Weak.refl {n0:Nat} {st:St}:Weak n0 st st:=by
 intro B M0 rho tmps w hn hm hf
 exact ⟨rho,(Stp.refl hm).toN hn,hf⟩
theorem zgz {n0:Nat} {st st':St} (h:nrm n0 st=some st'):Weak n0 st st':=by
 unfold nrm at h
 split at h
 ·cases h;exact Weak.refl
 ·exact zfD h
theorem Spec.both {α β:Type} {m:M α} {n:M β} {Q:α→Prop} {R:β→Prop} (h:Spec m Q) (k:Spec n R):Spec (both m n) fun p=>Q p.1∧R p.2:=by
 intro c s x s' cs he hc
 unfold Ev.both at he
 cases h1:m c s with
 | ok a s1 c1=>
  rw [h1] at he
  simp only at he
  cases h2:n c s with
  | ok b s2 c2=>
   rw [h2] at he
   simp only [Res.ok.injEq] at he
   obtain ⟨rfl,rfl,rfl⟩:=he
   exact ⟨h c s a s1 c1 h1 fun b hb=>hc b (List.mem_append_left _ hb),k c s b s2 c2 h2 fun b hb=>hc b (List.mem_append_right _ hb)⟩
  | need b=>rw [h2] at he;cases he
  | atLoop b st=>rw [h2] at he;cases he
  | fail n=>rw [h2] at he;cases he
 | need b=>rw [h1] at he;cases he
 | atLoop b st=>rw [h1] at he;cases he
 | fail n=>rw [h1] at he;cases he
theorem fA_eq {α:Type}:∀f,(∀x (k:AV→α),fA f x k=k x)∧(∀l (k:List AV→α),fL f l k=k l)
 | 0=>⟨fun _ _=>by simp [fA],fun _ _=>by simp [fL]⟩
 | f + 1=>by
  have ih:=fA_eq (α:=α) f
  constructor
  ·intro x k
   unfold fA
   split<;>simp only [zhi,ih.2]
  ·intro l k
   unfold fL
   split
   ·rfl
   ·rw [ih.1,ih.2]
theorem fRow_eq {α:Type} (r:Row) (k:Row→α):fRow r k=k r:=by
 unfold fRow
 split
 ·rw [(fA_eq 300).2]
 all_goals rfl
theorem znJ {α:Type}:∀(l:List Row) (k:List Row→α),fRows l k=k l
 | [],_=>rfl
 | r :: l,k=>by unfold fRows;rw [fRow_eq,znJ l]
theorem znI {α:Type}:∀(l:List Nat) (k:List Nat→α),fNats l k=k l
 | [],_=>rfl
 | r :: l,k=>by unfold fNats;rw [zhi,znI l]
theorem fFm_eq {α:Type} (tm:Fm):∀(l:List Nat) (k:Fm→α),fFm tm l k=k (rbF tm l)
 | [],_=>rfl
 | i :: l,k=>by
  unfold fFm rbF
  rw [fFm_eq tm l,(fA_eq 300).1]
  split<;>rfl
theorem fSt_eq {α:Type} (s:St) (k:St→α):fSt s k=k ⟨rbF s.tm (List.range s.tm.n),s.rows,s.wr⟩:=by
 cases s
 unfold fSt
 simp only
 rw [fFm_eq,znJ,znI]
theorem rbF_fr {E:Env} {tm:Fm} {tmps:Array Value} (h:Fr E tm tmps):∀l,Fr E (rbF tm l) tmps
 | []=>Fr.base h.1
 | i :: l=>by
  unfold rbF
  split
  ·exact rbF_fr h l
  ·exact(rbF_fr h l).know i (h.2 i)
theorem zlH {n0:Nat} {s:St} {Q:St→Prop} (h:∀t,Weak n0 s t→Q t):Spec (reck s) Q:=by
 intro c u x s' cs he hc
 unfold reck at he
 rw [fSt_eq] at he
 cases he
 refine h _ fun B M0 rho tmps w hn hm hf=>?_
 exact ⟨rho,(Stp.refl hm).toN hn,rbF_fr hf _⟩
theorem zkD {n0:Nat} {k:Nat→M St} {Q:Nat→St→Prop} (hw:∀i s s',Weak n0 s s'→Q i s→Q i s') (h:∀i,Spec (k i) (Q i)):∀l,Spec (altL n0 k l) fun st=>∀i∈l,Q i st
 | []=>Spec.fail
 | [i]=>by
  unfold altL
  refine Spec.bind ((h i).mono fun st hq=>Spec.ofOpt fun st' hs=>?_)
  intro j hj
  have:j=i:=by simpa using hj
  subst this;exact hw _ _ _ (zgz hs) hq
 | i :: i2 :: rs=>by
  unfold altL
  refine Spec.bind ((Spec.both (h i) (zkD hw h (i2 :: rs))).mono fun q hqq=>Spec.bind (Spec.ofOpt fun st1 hs=>Spec.bind (zlH (n0:=n0) fun t ht=>Spec.bind (zlH (n0:=n0) fun t' ht'=>Spec.bind (Spec.tellC fun he=>Spec.pure' ?_)))))
  obtain ⟨st,st2⟩:=q
  obtain ⟨hq,hq2⟩:=hqq
  replace he:t'=t:=he
  intro j hj
  rcases List.mem_cons.1 hj with rfl | hj
  ·exact hw _ _ _ ht (hw _ _ _ (zgz hs) hq)
  ·rw [← he];exact hw _ _ _ ht' (hq2 j hj)
theorem zkC {n0:Nat} {k:Nat→M St} {Q:Nat→St→Prop} (hw:∀i s s',Weak n0 s s'→Q i s→Q i s') (h:∀i,Spec (k i) (Q i)):∀l,Spec (altC n0 k l) fun st=>∀i∈l,Q i st
 | []=>Spec.fail
 | [i]=>by
  unfold altC
  simp_all
 | i :: i2 :: rs=>by
  unfold altC
  refine Spec.bind ((h i).mono fun st hq=>Spec.bind ((zkC hw h (i2 :: rs)).mono fun st2 hq2=>?_))
  split
  ·rename_i he
   refine Spec.pure' fun j hj=>?_
   rcases List.mem_cons.1 hj with rfl | hj
   ·exact hq
   ·exact hw _ _ _ (zla he) (hq2 j hj)
  ·refine Spec.bind (Spec.ofOpt fun t ht=>Spec.bind (Spec.ofOpt fun t2 ht2=>?_))
   split
   ·rename_i he
    refine Spec.pure' fun j hj=>?_
    rcases List.mem_cons.1 hj with rfl | hj
    ·exact hw _ _ _ (zgz ht) hq
    ·exact hw _ _ _ (zla he) (hw _ _ _ (zgz ht2) (hq2 j hj))
   ·exact Spec.fail
theorem zng {n0:Nat} {k:Nat→M St} {Q:Nat→St→Prop} (hw:∀i s s',Weak n0 s s'→Q i s→Q i s') (h:∀i,Spec (k i) (Q i)) (l:List Nat):Spec (altA n0 k l) fun st=>∀i∈l,Q i st:=by
 unfold altA
 split
 ·simp_all
 ·unfold altB
  intro c s x s' cs he hc
  cases c with
  | true=>exact zkC hw h _ true s x s' cs he hc
  | false=>exact zkD hw h _ false s x s' cs he hc
theorem draw_spec (hg:g.OK) {run:zao} (hrun:zbg g.P run) {ops:Array Oper} (hsel:Region.noSelect ops=true) {n:Nat} {W:List Nat}:∀(f:Nat) (listed:Array Bool) (st:St),
 Spec (zk8 g run ops n true W (f+1) listed st) fun st'=>
 ∀B M0 rho (a:Act) w,Mem B M0 st.rows rho w→Fr (iZ M0 st.rows rho w) st.tm a.tmps→∀(R:Act→World→Prop),
  (∀(a':Act) w' rho',Stp B M0 st.rows rho st.wr w st'.rows rho' st'.wr w'→Fr (iZ M0 st'.rows rho' w') st'.tm a'.tmps→a'.defers=a.defers→R a' w') →
  zip g.P .any ops (fun e a w=>e=.normal∧R a w) f listed (Keeps M0 (fun r=>r<n∧r ∉ W) st.rows rho w) a w:=by
 intro f
 induction f with
 | zero=>
  intro listed st
  unfold zk8
  split
  ·rename_i hr
   exact Spec.pure' fun B M0 rho a w hm hf R hR=>⟨hr,rfl,hR a w rho (Stp.refl hm) hf rfl⟩
  ·rename_i i rs hr
   split
   ·refine Spec.bind (Spec.ofOpt fun o ho=>Spec.bind ?_)
    intro c s x s' cs _ _
    unfold zk8
    exact Spec.fail
   ·refine (zng (Q:=fun _ _=>False) (fun _ _ _ _ h=>h) (fun i=>?_) (i :: rs)).mono fun st' h=>absurd (h i (by simp)) (by simp)
    refine Spec.bind (Spec.ofOpt fun o ho=>Spec.bind ?_)
    intro c s x s' cs _ _
    split
    ·unfold zk8;exact Spec.fail
    ·exact Spec.fail
 | succ f ih =>
  intro listed st
  unfold zk8
  split
  ·rename_i hr
   refine Spec.pure' fun B M0 rho a w hm hf R hR=>?_
   refine ⟨fun _=>⟨rfl,hR a w rho (Stp.refl hm) hf rfl⟩,fun i hi=>?_⟩
   rw [hr] at hi;cases hi
  ·rename_i i rs hr
   split
   ·rename_i k hk
    have hmem:k∈Region.ready .any ops listed:=by grind
    have hcond:=List.find?_some hk
    simp only [Bool.and_eq_true] at hcond
    refine Spec.bind (Spec.ofOpt fun o ho=>Spec.bind ((zrq hg).mono fun st1 h1=>?_))
    obtain ⟨r1,r2,r3⟩:=h1
    refine (ih (listed.setIfInBounds k true) st1).mono fun st' h2=>?_
    intro B M0 rho a w hm hf R hR
    obtain ⟨v,hy,hf1⟩:=r3 B M0 rho a w hm hf
    have hrec:=h2 B M0 rho (a.put o.dst v) w (by rw [r1];exact hm) (by rw [r1];exact hf1) R (by rw [r1,r2,zfM];exact hR)
    rw [r1] at hrec
    exact zl6 ho (Region.noSelect_spec hsel) (fun c a w h=>by cases h.1) f listed _ a w (Region.free_spec ho hcond.2) hmem hy (Keeps.refl _ _ _ _ _) hrec
   ·refine (zng (Q:=fun i st'=>∀B M0 rho (a:Act) w,Mem B M0 st.rows rho w→Fr (iZ M0 st.rows rho w) st.tm a.tmps→∀(R:Act→World→Prop),
    (∀(a':Act) w' rho',Stp B M0 st.rows rho st.wr w st'.rows rho' st'.wr w'→Fr (iZ M0 st'.rows rho' w') st'.tm a'.tmps→a'.defers=a.defers→R a' w') →
    wpOp g.P ops (fun e a w=>e=.normal∧R a w) i (fun a' w'=>∃S':World→Prop,(∀x,S' x→Keeps M0 (fun r=>r<n∧r ∉ W) st.rows rho w x)∧S' w'∧zip g.P .any ops (fun e a w=>e=.normal∧R a w) f (listed.setIfInBounds i true) S' a' w') a w)
    ?hwk (fun i=>?_) (i :: rs)).mono fun st' h=>?_
    case hwk=>
     intro i s s' hwk hq B M0 rho a w hm hf R hR
     refine hq B M0 rho a w hm hf R fun a1 w1 rho1 hs hf1 hd1=>?_
     have hl:=hm.len
     obtain ⟨rho2,hs2,hf2⟩:=hwk B M0 rho1 a1.tmps w1 (by rw [← hl];exact(hs.toN (n0:=rho.length) (Nat.le_refl _)).frm.1) hs.mem hf1
     rw [← hl] at hs2
     exact hR a1 w1 rho2 (StpN.toStp ((hs.toN (Nat.le_refl _)).trans hs2)) hf2 hd1
    ·refine Spec.bind (Spec.ofOpt fun o ho=>Spec.bind ((zlY hg hrun).mono fun st1 h1=>?_))
     split
     ·rename_i hlog
      have hlog':∀s∈st1.wr,n≤s∨s∈W:=by
       simp_all
      refine (ih (listed.setIfInBounds i true) { st1 with wr:=st1.wr++st.wr }).mono fun st' h2=>?_
      intro B M0 rho a w hm hf R hR
      have hstep:=h1 B M0 rho a w hm hf
       (fun a' w'=>∃S':World→Prop,(∀x,S' x→Keeps M0 (fun r=>r<n∧r ∉ W) st.rows rho w x)∧S' w'∧zip g.P .any ops (fun e a w=>e=.normal∧R a w) f (listed.setIfInBounds i true) S' a' w') (fun e a w=>e=.normal∧R a w)
       (fun a' w' rho' hs hf' hd'=>by
        have hs':Stp B M0 st.rows rho st.wr w st1.rows rho' (st1.wr++st.wr) w':=by
         refine ⟨hs.ext,hs.mem,hs.below,hs.frm.1,fun s h _=>List.mem_append_right _ h,fun r row b k1 k2 k3 k4 k5=>hs.frm.2.2 r row b k1 k2 k3 k4 (fun h=>k5 (List.mem_append_left _ h))⟩
        refine ⟨Keeps M0 (fun r=>r<n∧r ∉ W) st1.rows rho' w',fun x hx=>zo9 hs hlog' x hx,Keeps.refl _ _ _ _ _,?_⟩
        exact h2 B M0 rho' a' w' hs.mem hf' R fun a2 w2 rho2 hs2 hf2 hd2=>hR a2 w2 rho2 (hs'.trans hs2) hf2 (hd2.trans hd'))
      unfold wpOp
      grind
     ·exact Spec.fail
    ·intro B M0 rho a w hm hf R hR
     refine ⟨fun h0=>(by rw [h0] at hr;cases hr),fun j hj=>?_⟩
     rw [hr] at hj
     exact h j hj B M0 rho a w hm hf R hR
theorem Spec.peek {α:Type} {m:M α} {Q:α→Prop} (h:∀x,Q x):Spec (peek m) Q:=fun _ _ x _ _ _ _=>h x
theorem zhn {i:Bool} {run:zao} (hrun:∀c st,Spec (run c st) fun r=>AWi i g.P c st r) {b:Code}:∀(k:Nat) (st:St),Spec (loopA run b k st) fun r=>AWL i g.P b st r
 | 0,st=>Spec.fail
 | k+1,st=>by
  refine Spec.bind ((hrun b st).mono fun r h=>?_)
  obtain ⟨ex,st1⟩:=r
  cases ex with
  | normal=>exact(zhn hrun k st1).mono fun r2 h2=>AWL.step h h2
  | exit id=>exact Spec.pure' (AWL.out h (by simp [Ex.toExit]))
  | ret=>exact Spec.pure' (AWL.out h (by simp [Ex.toExit]))
def RndOK (P:Program) (tm:Fm) (p q:Tmp) (assign body:Code) (el:Nat→AV):Nat→St→Ex × St→Prop
 | 0,s,r=>r=(.normal,⟨tm,s.rows,s.wr⟩)
 | k + 1,s,r=>∃s1,AWi true P assign ⟨(tm.set p (.lit (.int .i64 (k:Int)))).set q (el k),s.rows,s.wr⟩ (.normal,s1) ∧
  ((∃s2,AWi true P body s1 (.normal,s2)∧RndOK P tm p q assign body el k s2 r) ∨
   (∃e s2,e.toExit≠.normal∧AWi true P body s1 (e,s2)∧r=(e,⟨tm,s2.rows,s2.wr⟩)))
theorem zcW {run:zao} (hrun:∀c st,Spec (run c st) fun r=>AWi true g.P c st r) {tm:Fm} {p q:Tmp} {assign body:Code} {el:Nat→AV} :
 ∀(k:Nat) (s:St),Spec (zfA run tm p q assign body el k s) fun r=>RndOK g.P tm p q assign body el k s r
 | 0,s=>Spec.pure' rfl
 | k + 1,s=>by
  refine Spec.bind ((hrun _ _).mono fun r1 h1=>?_)
  obtain ⟨e1,s1⟩:=r1
  cases e1 with
  | normal=>
   refine Spec.bind ((hrun _ _).mono fun r2 h2=>?_)
   obtain ⟨e2,s2⟩:=r2
   cases e2 with
   | normal=>exact(zcW hrun k s2).mono fun r h=>⟨s1,h1,.inl ⟨s2,h2,h⟩⟩
   | exit id=>exact Spec.pure' ⟨s1,h1,.inr ⟨.exit id,s2,by simp [Ex.toExit],h2,rfl⟩⟩
   | ret=>exact Spec.pure' ⟨s1,h1,.inr ⟨.ret,s2,by simp [Ex.toExit],h2,rfl⟩⟩
  | exit id=>exact Spec.fail
  | ret=>exact Spec.fail
def BackOK (rows:List Row) (x:AV) (r:Nat × (Nat→AV) × List Row) (P:Program):Prop:=
 ∀ B M0 rho wr w v,Mem B M0 rows rho w→Rd (iZ M0 rows rho w) x v →
  Stp B M0 rows rho wr w r.2.2 rho wr w∧∃gf ag Bs oB a cap vals,v=.func (.func gf) #[] #[.pointer (some ⟨Bs,oB,none⟩)]∧BwOK P gf ag∧r.1≤1099511627776 ∧
   Bs<w.heap.size∧¬zcU M0 r.2.2 rho Bs∧w.cell? ⟨Bs,oB,none⟩=some (.slice a r.1 cap) ∧
   (r.1=0∨∃b o,a=some ⟨b,o,none⟩∧b<w.heap.size∧¬zcU M0 r.2.2 rho b∧∀i,i<r.1*ag→w.cell? ⟨b,o+i,none⟩=some (vals i)) ∧
   ∀k,k<r.1→Rd (iZ M0 r.2.2 rho w) (r.2.1 k) (encV ag vals k)
theorem back_spec (hg:g.OK) (rows:List Row) (x:AV):Spec (backA g rows x) fun r=>BackOK rows x r g.P:=by
 unfold backA
 split
 ·rename_i gf cap
  refine Spec.bind (Spec.ofOpt fun ag hag=>?_)
  split
  ·rename_i hag12
   refine Spec.bind (Spec.ofOpt fun pr hp=>?_)
   obtain ⟨c,rows1,fps⟩:=pr
   dsimp only
   refine Spec.bind (Spec.tellAll fun hfps=>?_)
   split
   ·rename_i s
    refine Spec.bind (Spec.ofOpt fun pr2 hp2=>?_)
    obtain ⟨n,els⟩:=pr2
    dsimp only
    split
    ·rename_i hd
     refine Spec.bind (Spec.chk fun hn=>Spec.pure' ?_)
     intro B M0 rho wr w v hm hv
     dsimp only
     cases hv with
     | @fn _ _ vs hl hr=>
      have hvs:vs.size=1:=by simpa using hl.symm
      obtain ⟨u,rfl⟩:∃u,vs = #[u]:=by
       obtain ⟨l⟩:=vs
       obtain ⟨u,rfl⟩:=List.length_eq_one_iff.1 (by simpa using hvs)
       exact ⟨u,rfl⟩
      have hu:Rd (iZ M0 rows rho w) cap u:=hr 0 (by simp)
      obtain ⟨hs,hc⟩:=(zhj 40).1 _ _ _ _ _ hp hfps B M0 rho wr w u hm hu
      refine ⟨hs,?_⟩
      cases hc with
      | @pd _ _ b o vals hsz hM hv hr2=>
       have hs0:=hr2 0 (by simp)
       have hv0:=hv 0 (by simp)
       obtain ⟨a,cp,vals2,he,hpl,hel⟩:=zo0 hp2 hd hs0
       refine ⟨gf,ag,b,o+0,a,cp,vals2,rfl,hg.bw gf ag hag,by simpa using hn,hsz,hM,?_,?_,fun k hk=>?_⟩
       ·rw [cell?_eq];rw [he] at hv0;exact hv0
       ·rcases hpl with h0 | ⟨b2,o2,h1,h2,h3,h4⟩
        ·exact .inl h0
        ·exact .inr ⟨b2,o2,h1,h2,h3,fun i hi=>by rw [cell?_eq];exact h4 i hi⟩
       ·unfold elAt encV
        split
        ·simp_all
        ·rename_i h1
         have h2:ag=2:=hag12.resolve_left h1
         subst h2
         refine .agg rfl fun i hi=>?_
         have hi2:i<2:=hi
         have:i=0∨i=1:=by omega
         rcases this with rfl | rfl
         ·exact hel (2*k) (by omega)
         ·exact hel (2*k+1) (by omega)
    ·exact Spec.fail
   ·exact Spec.fail
  ·exact Spec.fail
 ·exact Spec.fail
theorem Mk.putObj {M0:Nat→Prop} {rows:List Row} {rho:List Nat} {w:World} {L l:Nat} {x:Loop} {o':Obj} {ds:List Deferred} (h:Mk (iZ M0 rows rho w) L ds) (ho:w.heap[l]? = some (.loop x)) :
 Mk (iZ M0 rows rho (w.putObj l o')) L ds:=by
 obtain ⟨h0,rs,h1,h2,h3⟩:=h
 refine ⟨by simpa [iZ] using h0,rs,h1,h2,fun r hr=>?_⟩
 obtain ⟨a,b,c,d⟩:=h3 r hr
 have hd:w.heap[r]? = some (.deferred (some [])):=d
 have hne:r≠l:=by grind
 exact ⟨a,by simpa [iZ] using b,c,(World.putObj_heap_other hne).trans hd⟩
theorem range_aw {P:Program} {ps:Array Tmp} {p q:Tmp} (hpq:ps.toList=[p,q]) {f:Operand} {assign body:Code} {st:St} {m:Nat} {el:Nat→AV} {rows:List Row}
 (hb:BackOK st.rows (pZ st.tm f) (m,el,rows) P) {r:Ex × St} (hr:RndOK P st.tm p q assign body el m ⟨st.tm,rows,st.wr⟩ r):AWi false P (.rangeFunc f ps assign body) st r:=by
 intro B M0 L rho a w ro hi hm hf hd
 obtain rfl:ro=none:=by simp_all
 obtain ⟨psl⟩:=ps
 obtain rfl:psl=[p,q]:=by simpa using hpq
 obtain ⟨hs0,gf,ag,Bs,oB,sa,cap,vals,hv,⟨heg,hbw⟩,hm40,hBs,hBsM,hcell,hplace,hel⟩:=hb B M0 rho st.wr w _ hm (hf.eval f)
 dsimp only at hs0 hm40 hBsM hcell hplace hel
 have hf1:Fr (iZ M0 rows rho w) st.tm a.tmps:=hf.ext hs0.ext
 have hd1:Mk (iZ M0 rows rho w) L a.defers:=hd.ext hs0.ext
 refine wpIn_rangeFunc ?_
 intro fn _
 obtain ⟨rec,hrec⟩:∃rec:LoopState→Option Code→Loop,rec=fun s pe=>{ state:=s,pending:=pe,fn,tmps:=a.tmps,params:=[p,q].toArray,assign,body,defers:=w.heap.size }:=⟨_,rfl⟩
 obtain ⟨W1,hW1⟩:∃W1,(w.alloc (.deferred (some []))).alloc (.loop (rec .ready none))=W1:=⟨_,rfl⟩
 have hbl:Below w.heap.size w W1:=by rw [← hW1];exact((Below.refl _ w).alloc (Nat.le_refl _) _).alloc (by simp) _
 have hL1:W1.heap[w.heap.size+1]? = some (.loop (rec .ready none)):=by
  rw [← hW1];have:=World.alloc_heap_new (w.alloc (.deferred (some []))) (.loop (rec .ready none));simp_all
 have hK1:W1.heap[w.heap.size]? = some (.deferred (some [])):=by
  rw [← hW1];exact(Below.heap_alloc _ _ _ (by simp)).trans (World.alloc_heap_new w _)
 have hs1:Stp B M0 rows rho st.wr w rows rho st.wr W1:=Stp.of_below hs0.mem hbl
 have hDM:¬zcU M0 rows rho w.heap.size:=fun h=>by have:=hs0.mem.lt h;omega
 have hlM:¬zcU M0 rows rho (w.heap.size+1):=fun h=>by have:=hs0.mem.lt h;omega
 have fin:∀(W3:World) (s:St) (rho':List Nat) (sx:LoopState) (pe:Option Code),sx≠.busy→Stp B M0 rows rho st.wr w s.rows rho' s.wr W3→W3.heap[w.heap.size+1]? = some (.loop (rec sx pe)) →
  W3.heap[w.heap.size]? = some (.deferred (some []))→¬zcU M0 s.rows rho' w.heap.size →
  ∃W4,(Instr.endLoop (w.heap.size+1)).run P W3=.ok pe W4∧∃rho',Stp B M0 st.rows rho st.wr w s.rows rho' s.wr W4∧Fr (iZ M0 s.rows rho' W4) st.tm a.tmps∧Mk (iZ M0 s.rows rho' W4) L (markD w.heap.size :: a.defers):=by
  intro W3 s rho' sx pe hsx hS hl hk hMD
  have hend:=run_endLoop (P:=P) hl (by rw [hrec];exact hsx)
  have hS4:=hS.putObj (o':=.loop { rec sx pe with state:=.exhausted }) hs0.mem (by omega) hl rfl rfl
  refine ⟨_,(by rw [hend,hrec]),rho',hs0.trans hS4,hf1.ext hS4.ext,?_⟩
  obtain ⟨h0,rs,h1,h2,h3⟩:=hd1
  have hlt:w.heap.size+1<W3.heap.size:=(Array.getElem?_eq_some_iff.1 hl).1
  have h0':L≤w.heap.size:=h0
  refine ⟨by simp [iZ];omega,w.heap.size :: rs,by simp [h1],List.nodup_cons.2 ⟨fun h=>?_,h2⟩,fun r hr=>?_⟩
  ·have h4:w.heap.size<w.heap.size:=(h3 _ h).2.1
   omega
  ·rcases List.mem_cons.1 hr with rfl | hr
   ·exact ⟨h0',by simp [iZ];omega,hMD,(World.putObj_heap_other (by omega)).trans hk⟩
   ·obtain ⟨k1,k2,k3,k4⟩:=h3 r hr
    obtain ⟨j1,j2⟩:=hS4.ext.keep r k2 k3
    grind
 obtain ⟨J,hJ⟩:∃J:Nat→World→Prop,J=fun k W=>∃(s:St) (rho':List Nat),RndOK P st.tm p q assign body el k s r∧Stp B M0 rows rho st.wr w s.rows rho' s.wr W ∧
  W.heap[w.heap.size+1]? = some (.loop (rec .ready none))∧W.heap[w.heap.size]? = some (.deferred (some []))∧¬zcU M0 s.rows rho' w.heap.size∧¬zcU M0 s.rows rho' (w.heap.size+1):=⟨_,rfl⟩
 obtain ⟨Jx,hJx⟩:∃Jx:World→Prop,Jx=fun W=>∃(c:Code) (s:St) (rho':List Nat),((c=.ret∧r.1=.ret)∨∃id,c=.exit id∧r.1=.exit id)∧r.2=⟨st.tm,s.rows,s.wr⟩∧Stp B M0 rows rho st.wr w s.rows rho' s.wr W ∧
  W.heap[w.heap.size+1]? = some (.loop (rec .done (some c)))∧W.heap[w.heap.size]? = some (.deferred (some []))∧¬zcU M0 s.rows rho' w.heap.size:=⟨_,rfl⟩
 refine ⟨w.heap.size+1,[markD w.heap.size],W1,{ target:=.fn (.func gf) #[.pointer (some ⟨Bs,oB,none⟩)],args:=#[.func (.yield (w.heap.size+1)) #[] #[]] },W1,gf,
  #[.func (.yield (w.heap.size+1)) #[] #[],.pointer (some ⟨Bs,oB,none⟩)],W1,?_,?_,?_,?_,(fun h=>by cases h),?_⟩
 ·rw [← hW1,hrec];exact run_enterLoop_outer _ _ _ _ _
 ·simp only [resolve,hv]
  simp [go_sem]
 ·intro f' _;trivial
 ·simp [invoke,go_sem,heg]
 ·refine (hbw (w.heap.size+1) Bs oB sa m cap vals J Jx W1 hm40 ((hbl.cell (p:=⟨Bs,oB,none⟩) hBs).trans hcell) ?_ ?_ ?_ ?_).mono ?_
  ·rcases hplace with h0 | ⟨b,o,h1,h2,h3,h4⟩
   ·exact .inl h0
   ·exact .inr ⟨b,o,h1,fun i hi=>(hbl.cell (p:=⟨b,o+i,none⟩) h2).trans (h4 i hi)⟩
  ·intro k W' hJk
   rw [hJ] at hJk
   obtain ⟨s,rho',_,hS,_⟩:=hJk
   refine ⟨((hS.ext.keep Bs hBs hBsM).1).trans (hbl.block Bs hBs).symm,fun b o e hne=>?_⟩
   rcases hplace with h0 | ⟨b2,o2,h1,h2,h3,_⟩
   ·exact absurd h0 hne
   ·rw [h1] at e
    cases e
    exact((hS.ext.keep _ h2 h3).1).trans (hbl.block _ h2).symm
  ·-- one round
   intro k W hkm hJk
   rw [hJ] at hJk
   obtain ⟨s,rho',⟨s1,hA,hB⟩,hS,hl,hk,hMD,hMl⟩:=hJk
   have hlt:w.heap.size+1<W.heap.size:=(Array.getElem?_eq_some_iff.1 hl).1
   have hy:=run_yield (P:=P) (args:=#[.int .i64 (k:Int),encV ag vals k]) hl (by rw [hrec];rfl)
   have hy2:(Instr.yield (w.heap.size+1) #[.int .i64 (k:Int),encV ag vals k]).run P W=.ok (.round (w.heap.size+1) fn ((a.tmps.setIfInBounds p (.int .i64 (k:Int))).setIfInBounds q (encV ag vals k)) assign body) W:=
    hy.trans (by rw [hrec];simp)
   clear hy
   refine ⟨fn,_,assign,body,hy2,roundIn_of_wpIn trivial ?_⟩
   have hfr:Fr (iZ M0 s.rows rho' W) ((st.tm.set p (.lit (.int .i64 (k:Int)))).set q (el k)) ((a.tmps.setIfInBounds p (.int .i64 (k:Int))).setIfInBounds q (encV ag vals k)):=
    ((hf1.ext hS.ext).set p (.lit _)).set q ((hel k hkm).ext hS.ext)
   refine wpIn_mono (hA B M0 0 rho' ⟨(a.tmps.setIfInBounds p (.int .i64 (k:Int))).setIfInBounds q (encV ag vals k),[]⟩ W (some (w.heap.size+1)) rfl hS.mem hfr (Mk.nil (Nat.zero_le _))) ?_
   rintro e a1 Wa ⟨he,rho1,hSa,hfa,hda⟩
   subst he
   obtain ⟨hla,hMla⟩:=hSa.ext.keep _ hlt hMl
   obtain ⟨hka,hMDa⟩:=hSa.ext.keep w.heap.size (by show _<W.heap.size;omega) hMD
   replace hla:=hla.trans hl
   replace hka:=hka.trans hk
   have hla':Wa.heap[w.heap.size+1]? = some (.loop (rec .ready none)):=hla
   have hka':Wa.heap[w.heap.size]? = some (.deferred (some [])):=hka
   have hlta:w.heap.size+1<Wa.heap.size:=(Array.getElem?_eq_some_iff.1 hla').1
   refine ⟨_,run_beginRound hla' (by rw [hrec]),?_⟩
   have hSb:=(hS.trans hSa).putObj (o':=.loop { rec .ready none with state:=.busy }) hs0.mem (by omega) hla' rfl rfl
   have hfb:=hfa.putObj (o':=.loop { rec .ready none with state:=.busy }) hla' rfl rfl
   have hdb:=hda.putObj (o':=.loop { rec .ready none with state:=.busy }) hla'
   have hlb:(Wa.putObj (w.heap.size+1) (.loop { rec .ready none with state:=.busy })).heap[w.heap.size+1]? = some (.loop { rec .ready none with state:=.busy }):=World.putObj_heap_same hlta
   have hkb:(Wa.putObj (w.heap.size+1) (.loop { rec .ready none with state:=.busy })).heap[w.heap.size]? = some (.deferred (some [])):=(World.putObj_heap_other (by omega)).trans hka'
   have fin2:∀(jump:Option Code) (s2:St) (rho2:List Nat) (Wc:World),Stp B M0 s1.rows rho1 s1.wr (Wa.putObj (w.heap.size+1) (.loop { rec .ready none with state:=.busy })) s2.rows rho2 s2.wr Wc →
    ∃Wd,(Instr.endRound (w.heap.size+1) jump).run P Wc=.ok (.bool jump.isNone) Wd∧Stp B M0 rows rho st.wr w s2.rows rho2 s2.wr Wd ∧
     Wd.heap[w.heap.size+1]? = some (.loop (rec (if jump.isNone then .ready else .done) jump))∧Wd.heap[w.heap.size]? = some (.deferred (some []))∧¬zcU M0 s2.rows rho2 w.heap.size∧¬zcU M0 s2.rows rho2 (w.heap.size+1):=by
    intro jump s2 rho2 Wc hSc
    obtain ⟨hlc,hMlc⟩:=hSc.ext.keep (w.heap.size+1) (by simp [iZ];omega) hMla
    obtain ⟨hkc,hMDc⟩:=hSc.ext.keep w.heap.size (by simp [iZ];omega) hMDa
    have hlc':Wc.heap[w.heap.size+1]? = some (.loop { rec .ready none with state:=.busy }):=hlc.trans hlb
    have hkc':Wc.heap[w.heap.size]? = some (.deferred (some [])):=hkc.trans hkb
    have hend:=run_endRound (P:=P) jump hlc'
    refine ⟨_,hend,(hSb.trans hSc).putObj hs0.mem (by omega) hlc' rfl rfl,?_,(World.putObj_heap_other (by omega)).trans hkc',hMDc,hMlc⟩
    rw [World.putObj_heap_same (Array.getElem?_eq_some_iff.1 hlc').1,hrec]
   rcases hB with ⟨s2,hBd,hrest⟩ | ⟨e2,s2,hne,hBd,hre⟩
   ·refine wpIn_mono (hBd B M0 0 rho1 a1 _ (some (w.heap.size+1)) rfl hSb.mem hfb hdb) ?_
    rintro e a2 Wc ⟨he,rho2,hSc,_,_⟩
    subst he
    obtain ⟨Wd,hend,hSd,hld,hkd,hMDd,hMld⟩:=fin2 none s2 rho2 Wc hSc
    refine ⟨_,Wd,hend,.inl ⟨rfl,?_⟩⟩
    grind
   ·refine wpIn_mono (hBd B M0 0 rho1 a1 _ (some (w.heap.size+1)) rfl hSb.mem hfb hdb) ?_
    rintro e a2 Wc ⟨he,rho2,hSc,_,_⟩
    subst he
    cases e2 with
    | normal=>exact absurd rfl hne
    | ret=>
     obtain ⟨Wd,hend,hSd,hld,hkd,hMDd,hMld⟩:=fin2 (some .ret) s2 rho2 Wc hSc
     refine ⟨_,Wd,hend,.inr ⟨rfl,?_⟩⟩
     grind
    | exit id=>
     obtain ⟨Wd,hend,hSd,hld,hkd,hMDd,hMld⟩:=fin2 (some (.exit id)) s2 rho2 Wc hSc
     refine ⟨_,Wd,hend,.inr ⟨rfl,?_⟩⟩
     grind
  ·rw [hJ]
   exact ⟨⟨st.tm,rows,st.wr⟩,rho,hr,hs1,hL1,hK1,hDM,hlM⟩
  ·rintro e W3 ⟨⟨v,rfl⟩,h⟩
   rcases h with h | h
   ·rw [hJ] at h
    obtain ⟨s,rho',hR0,hS,hl,hk,hMD,_⟩:=h
    obtain rfl:r=(.normal,⟨st.tm,s.rows,s.wr⟩):=hR0
    obtain ⟨W4,hend,rho4,h1,h2,h3⟩:=fin W3 s rho' .ready none (by intro h;cases h) hS hl hk hMD
    exact ⟨none,W4,hend,rfl,rho4,h1,h2,h3⟩
   ·rw [hJx] at h
    obtain ⟨c,s,rho',hc,hr2,hS,hl,hk,hMD⟩:=h
    obtain ⟨W4,hend,rho4,h1,h2,h3⟩:=fin W3 s rho' .done (some c) (by intro h;cases h) hS hl hk hMD
    obtain ⟨re,rs⟩:=r
    dsimp only at hc hr2
    subst hr2
    refine ⟨some c,W4,hend,?_⟩
    rcases hc with ⟨rfl,rfl⟩ | ⟨id,rfl,rfl⟩
    ·exact wpIn_ret ⟨rfl,rho4,h1,h2,h3⟩
    ·exact wpIn_exit ⟨rfl,rho4,h1,h2,h3⟩
theorem zaB (hg:g.OK):∀(n:Nat) (i:Bool) (c:Code) (st:St),Spec (evA g n i c st) fun r=>AWi i g.P c st r
 | 0,i,c,st=>Spec.fail
 | n + 1, i,c,st=>by
  have hrun:zbg g.P (evA g n false):=fun c st=>zaB hg n false c st
  unfold evA
  split
  ·exact Spec.pure' AWi.skip
  ·exact Spec.pure' AWi.label
  ·rename_i id ops draw
   split
   ·rename_i hnd
    cases draw with
    | false=>
     refine Spec.bind ((zn0 hg hrun ops.toList st hnd).mono fun st' h=>Spec.pure' ?_)
     intro B M0 L rho a w ro hi hm hf hd
     refine wpIn_region_list (h B M0 rho a w ro hm hf _ fun a' w' rho' hs hf' hd'=>⟨rfl,rho',hs,hf',by rw [hd'];exact hd.ext hs.ext⟩)
    | true=>
     dsimp only
     split
     ·rename_i hsel
      refine Spec.bind (Spec.peek fun st0=>?_)
      refine Spec.bind ((draw_spec hg hrun hsel ops.size (Array.replicate ops.size false) st).mono fun st' h=>Spec.pure' ?_)
      intro B M0 L rho a w ro hi hm hf hd
      have hs0:=zkr (wr:=st.wr) hm
      have:=h B M0 rho a w.drew hs0.mem (hf.ext hs0.ext) (fun a' w'=>Post B M0 L rho st w (.normal,st') .normal a' w') fun a' w' rho' hs hf' hd'=>⟨rfl,rho',hs0.trans hs,hf',by rw [hd'];exact hd.ext (hs0.trans hs).ext⟩
      refine wpIn_mono (wpIn_region_any hg.mixed (zdK hnd (by rintro ⟨a,w,h,_⟩;cases h) _ _ _ _ (zjn _ _ _ _ _ this))) ?_
      simp_all
     ·exact Spec.fail
   ·exact Spec.fail
  ·rename_i a b
   refine Spec.bind ((zaB hg n i a st).mono fun r h=>?_)
   obtain ⟨ex,st1⟩:=r
   cases ex with
   | normal=>exact(zaB hg n i b st1).mono fun r2 h2=>h.seq h2
   | exit id=>exact Spec.pure' (h.seq_out (by simp [Ex.toExit]))
   | ret=>exact Spec.pure' (h.seq_out (by simp [Ex.toExit]))
  ·rename_i cnd a b
   intro cc s x s' cs he hcs B M0 L rho act w ro hi hm hf hd
   have hq:=Spec.bind (Q:=fun r=>∃t,act.eval cnd=.bool t∧AWi i g.P (if t then a else b) st r) (m:=decB (pZ st.tm cnd)) (f:=fun v=>match v with | true=>evA g n i a st | false=>evA g n i b st)
    (zg8 (hf.eval cnd) fun v hv=>by
     cases v with
     | true=>exact(zaB hg n i a st).mono fun r h=>⟨true,hv,h⟩
     | false=>exact(zaB hg n i b st).mono fun r h=>⟨false,hv,h⟩)
   obtain ⟨t,ht,haw⟩:=hq cc s x s' cs he hcs
   exact wpIn_cond ht (haw B M0 L rho act w ro hi hm hf hd)
  ·rename_i id b
   refine Spec.bind ((zaB hg n i b st).mono fun r h=>?_)
   obtain ⟨ex,st1⟩:=r
   exact Spec.pure' h.block
  ·rename_i b
   cases i with
   | true=>exact(zhn (fun c st=>zaB hg n true c st) n st).mono fun r h=>h.aw
   | false=>
    refine Spec.bind (Spec.loopFor fun o=>?_)
    cases o with
    | some f=>
     refine Spec.bind (Spec.ofOpt fun v _=>Spec.bind (Spec.ofOpt fun st1 hk=>Spec.bind (Spec.tellC fun h1=>Spec.bind (Spec.tell fun h2=>Spec.pure' ?_))))
     replace h1:st1=v.st0:=h1
     subst h1
     exact(Loops.weak (zfD hk) h2).aw
    | none=>exact(zhn (fun c st=>zaB hg n false c st) n st).mono fun r h=>h.aw
  ·exact Spec.pure' AWi.exit
  ·exact Spec.pure' AWi.ret
  ·rename_i f ps assign body
   cases i with
   | true=>exact Spec.fail
   | false=>
    dsimp only
    split
    ·rename_i p q hpq
     refine Spec.bind ((back_spec hg st.rows _).mono fun r hb=>?_)
     obtain ⟨m,el,rows⟩:=r
     exact(zcW (fun c st=>zaB hg n true c st) m _).mono fun r hr=>range_aw hpq hb hr
    ·exact Spec.fail
  ·exact Spec.fail
end
end Go.Ev
end
