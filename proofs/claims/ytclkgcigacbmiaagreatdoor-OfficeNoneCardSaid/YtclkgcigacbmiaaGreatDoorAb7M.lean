/- The abstract machine: what the effects do to the world. No program in sight. -/
import Derived.Test.YtclkgcigacbmiaaGreatDoorDrawM
import Derived.Lib.AppendZerosOnto
import Derived.Lib.MinMax
set_option linter.unusedVariables false
set_option linter.unusedSimpArgs false
set_option linter.unnecessarySimpa false
set_option linter.unusedSectionVars false
namespace Go.Proofs.YtclkgcigacbmiaaGreatDoor
open Go Go.RowKit
section
variable {P : Program} {e : En} {k0 : Kx} {N : Nat} {st st' : St} {a : Act} {w : World} {σ : Nat → Value} {o : Oper} {p : Prop} {x : AV} {d : Nat} {K : Act → World → Prop} {Q : Exit → Act → World → Prop}
theorem bJ {v:Value} {w':World} (h:(execOp a.eval o).run P w= .ok (.value v) w') (hK:K (a.put o.dst v) w'):o.wp P a w K Q:=by
 unfold Oper.wp;rw [h];exact hK
theorem lT {w':World} (h:(execOp a.eval o).run P w= .ok .skip w') (hK:K (a.put o.dst undef) w'):o.wp P a w K Q:=by
 unfold Oper.wp;rw [h];exact hK
theorem ic {H:Hp} {nx:Nat} {E:TypeId} {sz n:Nat} {cs:List C} (d b m:Nat) (σ:Nat->Value) (w:World):
  ak (kx e (up H d (some ⟨nx,E,sz,n,cs⟩)) (nx+1) (up σ d (.slice (some ⟨b,0,none⟩) n m)) w) (.pointer (some ⟨b,0,none⟩)) (.val (.one (.ptr d nx 0))):=by
 simp only [ak,ar,den];refine ⟨rfl,Nat.lt_succ_self _,fun B _ _=>⟨b,?_,rfl⟩⟩;show (up σ d _ d).ownBlock=some b;rw [aO];rfl
theorem aY {H:Hp} {nx:Nat} {E:TypeId} {sz n:Nat} {cs:List C} (d:Nat) {v:Value} (σ:Nat->Value) (w:World) (hv:v.oneCell'=true):
  ak (kx e (up H d (some ⟨nx,E,sz,n,cs⟩)) (nx+1) (up σ d v) w) v (.val (.one (.own d nx n sz))):=by
 simp only [ak,ar,den];refine ⟨hv,Nat.lt_succ_self _,fun B hB _=>?_⟩;have hB':up H d (some ⟨nx,E,sz,n,cs⟩) d=some B:=hB;rw [aO] at hB';cases hB';refine ⟨?_,rfl,rfl⟩;show v=up σ d v d;rw [aO]
theorem gG (hr:Rel e k0 N st a w) (hdst:o.dst=some d) (hdN:d<N) {E:TypeId} {sz n:Nat} {us:List Value} {cs:List C} {v:Value} {x:AV}
  (hrun:(execOp a.eval o).run P w= .ok (.value v) (w.alloc (.cells us.toArray E)))
  (hd:∀σ,RW e st.H st.nx σ w->(∀t,ak (kx e st.H st.nx σ w) (a.tmps.getD t undef) (st.tm t))->denVs (kx e st.H st.nx σ w) us cs) (hsz:sz≠0) (hlen:cs.length=n*sz) (hn:n<=maxLen)
  (hx:∀σ w',ak (kx e (up st.H (st.nb+d) (some ⟨st.nx,E,sz,n,cs⟩)) (st.nx+1) (up σ (st.nb+d) (.slice (some ⟨w.heap.size,0,none⟩) n n)) w') v x)
  (hK:∀a' w',Rel e k0 N ⟨up st.tm d x,up st.H (st.nb+d) (some ⟨st.nx,E,sz,n,cs⟩),st.nx+1,st.nb⟩ a' w'->FL w w'->K a' w'):o.wp P a w K Q:=by
 obtain ⟨σ,h1,h2,h3⟩:=hr.ex;obtain ⟨k1,k2⟩:=h1.row (st.nb+d) E sz n hsz (hd σ h1 h2) hlen hn;refine bJ hrun ?_;rw [hdst];exact hK _ _ (hr.put k1 h2 h3 k2 (hx σ _) d hdN) (FL.alloc _ _)
theorem oc {E:TypeId} {sz:Nat} (h:(zrT P E).map List.length=some sz):(zrT P E).isSome=true:=by
 cases hz:zrT P E with
 |none=>rw [hz] at h;cases h
 |some z=>rfl
theorem qu {E:TypeId} {sz:Nat} (h:(zrT P E).map List.length=some sz) (zs:List Value) (hz:zrT P E=some zs):zs.length=sz:=by
 rw [hz] at h;simpa using h
theorem fG {base:Nat} {t ty E:TypeId} {sz by_:Nat} (hel:elT P t=some (E,sz,by_)) (hz:(zrT P E).isSome=true) (hzs:∀zs,zrT P E=some zs->zs.length=sz) (hsz:0<sz) {v:Value} {n:Nat} {xs:List Value} (ho:w.ownsRow base E sz v n xs)
  {ad:Option Addr} {m c:Nat} {news:List Value} (hl:news.length=m*sz) (hs:m=0∨∃b off,ad=some ⟨b,off,none⟩/\∀j u,news[j]? =some u->w.cell? ⟨b,off+j,none⟩=some u)
  (h1:∀u∈news,u.oneCell'=true) (h63:n+m<=maxLen) (hb:(n+m)*by_<=140737488355328) (hbase:base<=w.heap.size):
  ∃v' w',(Builtin.append_ #[t,t] ty #[v,.slice ad m c]).run P w= .ok v' w'/\v'.oneCell'=true/\w'.ownsRow base E sz v' (n+m) (xs++news)/\w.grownBy w' v.ownBlock/\(v'.ownBlock=v.ownBlock∨v'.ownBlock=some w.heap.size):=by
 obtain ⟨g1,i,g2,g3,g4⟩:=bi hel;obtain ⟨zs,hzz⟩:=Option.isSome_iff_exists.1 hz;have hlen:=hzs zs hzz;unfold zrT at hzz;split at hzz<;>try (cases hzz;done)
 rename_i z hzi;split at hzz<;>try (cases hzz;done)
 obtain rfl:=Option.some.inj hzz;rw [g2] at hzi;have hzi':i.zero=some z:=by simpa using hzi
 rcases Nat.eq_zero_or_pos m with hm|hm
 ·subst hm;have hnil:news=[]:=List.eq_nil_of_length_eq_zero (by simpa using hl);subst hnil;have fc:(Builtin.firstCells sz 0 (.slice ad 0 c)).run P w= .ok #[] w:=by
   cases ad with
   |none=>simp [Builtin.firstCells]
   |some q=>simp [Builtin.firstCells,loadCells,loadCellsFrom]
  refine ⟨v,w,?_,?_,by simpa using ho,⟨rfl,rfl,rfl,Nat.le_refl _,fun _ _ _=>rfl⟩,.inl rfl⟩
  ·rcases ho.2 with ⟨rfl,rfl⟩|⟨g,cap,cur,rfl,_,hg,hc,_⟩
   ·simp [Builtin.append_,run_underlying g1,sizeOf,typeInfo,g2,g3,Builtin.lenOf,fc]
   have hc':n<=cap:=hc;simp [Builtin.append_,run_underlying g1,sizeOf,typeInfo,g2,g3,Builtin.lenOf,fc,hc',storeCells]
  rcases ho.2 with ⟨rfl,_⟩|⟨g,cap,cur,rfl,_⟩<;>rfl
 obtain ⟨b,off,rfl,hcell⟩:=hs.resolve_left (by omega);obtain ⟨v',w',r1,r2,r3,r4⟩:=fY (P:=P) w base t ty E i z sz by_ g1 g2 hzi' g3 g4 (by simpa using hlen) hsz v n xs ho ⟨b,off,none⟩ m c news hl (fun j u hu=>by rw [cz];exact hcell j u hu) h1 h63 hb hbase hm;refine ⟨v',w',r1,?_,r2,r3,r4⟩;rcases r2.2 with ⟨rfl,_⟩|⟨g,cap,cur,rfl,_⟩<;>rfl
theorem kC {κ:Kx} (hW:RW e st.H st.nx σ w) {v:Value} {y:AV} (hy:ak (kx e st.H st.nx σ w) v y) {q:Prop} {sz m:Nat} {ns:List C} (h:sW st y=some (q,sz,m,ns)) (hq:q):
  ∃ad c news,v= .slice ad m c/\denVs (kx e st.H st.nx σ w) news ns/\ns.length=m*sz/\m<=maxLen/\(m=0∨∃b off,ad=some ⟨b,off,none⟩/\∀j u,news[j]? =some u->w.cell? ⟨b,off+j,none⟩=some u):=by
 unfold sW at h;split at h<;>try (cases h;done)
 ·rename_i nm s' n sz';split at h<;>try (cases h;done)
  rename_i B hB;simp only [Option.some.injEq,Prod.mk.injEq] at h;obtain ⟨rfl,rfl,rfl,rfl⟩:=h;simp only [ak,ar,den] at hy;obtain ⟨hq,hsz⟩:=hq;obtain ⟨h1,h2,h3⟩:=hy.2.2 B hB hq;obtain ⟨_,h4,xs,h5,h6⟩:=hW.rowOf hB (.inl (by rw [h3];exact hsz));have h1':v=σ nm:=h1;subst h2;subst h3;rcases h5.2 with ⟨h7,h8⟩|⟨g,cap,cur,h7,h8,h9,h10,h11,h12,h13⟩
  ·exact ⟨none,0,xs,by rw [h1',h8];exact h7,h6,h4,by rw [h8];exact Nat.zero_le _,.inl h8⟩
  refine ⟨some ⟨g,0,none⟩,cap,xs,by rw [h1'];exact h7,h6,h4,Nat.le_trans h10 h11,.inr ⟨g,0,rfl,fun j u hu=>?_⟩⟩;have:=h5.cells (g:=g) (by rw [h7];rfl) j u hu;rwa [cz] at this
 rename_i sz' n cs;simp only [Option.some.injEq,Prod.mk.injEq] at h;obtain ⟨rfl,rfl,rfl,rfl⟩:=h;simp only [ak,ar,den] at hy;obtain ⟨ad,cap,h1,h2,h3,h4,h5,h6⟩:=hy;rcases h6 with h6|⟨b,off,rfl,h7,h8⟩
 ·subst h6;have hcs:cs=[]:=List.eq_nil_of_length_eq_zero (by simpa using h5);subst hcs;exact ⟨ad,cap,[],h1,trivial,h5,by omega,.inl rfl⟩
 obtain ⟨us,h9,h10⟩:=h8.vals;exact ⟨some ⟨b,off,none⟩,cap,us,h1,h9,h5,by omega,.inr ⟨b,off,rfl,h10⟩⟩
theorem pp {c:Call} {s y:Operand} {t t':TypeId} (hr:Rel e k0 N st a w) (hdst:o.dst=some d) (hdN:d<N) (hop:o.op= .call c) (hcal:c.callee= .builtin .append) (hargs:c.args= #[s,y]) (htys:c.argTypes= #[t,t'])
  (h:eff P st d o.op=some (p,st')) (hp:p) (hK:∀a' w',Rel e k0 N st' a' w'->K a' w'):o.wp P a w K Q:=by
 obtain ⟨callee,args,argTypes⟩:=c;simp only at hcal hargs htys;subst hcal hargs htys;obtain ⟨σ,h1,h2,h3⟩:=hr.ex;rw [hop] at h;simp only [eff] at h;split at h<;>try (cases h;done)
 rename_i E sz by_ q sz' m ns hel hsrc;have hs:=ao h2 s;have hy:=ao h2 y;have hml:maxLen=4611686018427387904∨4611686018427387904<=maxLen:=by unfold maxLen;omega
 split at h<;>try (cases h;done)
 ·rename_i nm s' n sz'' hes;rw [hes] at hs;split at h<;>try (cases h;done)
  rename_i B hB;simp only [Option.some.injEq,Prod.mk.injEq] at h;obtain ⟨rfl,rfl⟩:=h;obtain ⟨hq,rfl,hst,rfl,rfl,rfl,hz,hsz,hb,hl⟩:=hp;obtain ⟨ad,c,news,e1,e2,e3,e4,e5⟩:=kC (κ:=kx e st.H st.nx σ w) h1 hy hsrc hq;simp only [ak,ar,den] at hs;obtain ⟨f1,f2,f3⟩:=hs.2.2 B hB hst;have f1':a.eval s=σ nm:=f1;obtain ⟨g1,g2,xs,g3,g4⟩:=h1.rowOf hB (.inl (by omega));have g3':w.ownsRow e.w0.heap.size B.E sz' (σ nm) n xs:=by rw [←f2,←f3];exact g3
  obtain ⟨v',w',r1,r2,r3,r4,r5⟩:=fG (ty:=o.type) hel (oc hz) (qu hz) hsz g3' (by rw [e2.length];exact e3) e5 e2.one (by omega) hb h1.size;obtain ⟨k1,k2⟩:=RW.new (nm0:=nm) (d:=st.nb+d) h1 r4 (B':=⟨st.nx,B.E,sz',n+m,B.cs++ns⟩) rfl (by show sz'≠0;omega) (by simp only [List.length_append];rw [g2,e3,f2,f3,Nat.add_mul]) (fun r hr=>⟨bO hr,B,hB⟩) (fun r hr=>by
   rw [eZ r3] at hr;rcases r5 with h5|h5
   ·exact .inr ⟨bO (h5▸hr),B,hB⟩
   rw [h5] at hr;cases hr;exact .inl (Nat.le_refl _)) r3 (g4.append e2)
  refine bJ (v:=v') (w':=w') ?_ ?_
  ·have r1':=r1;simp only [execOp,hop,resolve,Sem.run_bind,Sem.run_pure,Result.andThen_ok,invoke,builtin,List.map_toArray,List.map_cons,List.map_nil,f1',e1];rw [r1'];rfl
  rw [hdst];refine hK _ _ (hr.put k1 h2 h3 k2 ?_ d hdN);exact aY (st.nb+d) σ w' r2
 rename_i hes;rw [hes] at hs;simp only [Option.some.injEq,Prod.mk.injEq] at h;obtain ⟨rfl,rfl⟩:=h;obtain ⟨hq,rfl,rfl,hz,hsz,hb,hl⟩:=hp;obtain ⟨ad,c,news,e1,e2,e3,e4,e5⟩:=kC (κ:=kx e st.H st.nx σ w) h1 hy hsrc hq;simp only [ak,ar,den] at hs;obtain ⟨v',w',r1,r2,r3,r4,r5⟩:=fG (ty:=o.type) hel (oc hz) (qu hz) hsz (w.ownsRow_nil e.w0.heap.size E sz') (by rw [e2.length];exact e3) e5 e2.one (by omega) (by simpa using hb) h1.size;simp only [Nat.zero_add,List.nil_append] at r3;obtain ⟨k1,k2⟩:=RW.new (nm0:=st.nb+d) (d:=st.nb+d) h1 r4 (B':=⟨st.nx,E,sz',m,ns⟩) rfl (by show sz'≠0;omega) e3 (fun r hr=>by simp [Value.ownBlock] at hr) (fun r hr=>by
  rw [eZ r3] at hr;rcases r5 with h5|h5
  ·rw [h5] at hr;simp [Value.ownBlock] at hr
  rw [h5] at hr;cases hr;exact .inl (Nat.le_refl _)) r3 e2
 rw [dL] at k1 k2;refine bJ (v:=v') (w':=w') ?_ ?_
 ·have r1':=r1;simp only [execOp,hop,resolve,Sem.run_bind,Sem.run_pure,Result.andThen_ok,invoke,builtin,List.map_toArray,List.map_cons,List.map_nil,hs.1,e1];rw [r1'];rfl
 rw [hdst];refine hK _ _ (hr.put k1 h2 h3 k2 ?_ d hdN);exact aY (st.nb+d) σ w' r2
theorem qv (hr:Rel e k0 N st a w) (hdst:o.dst=some d) (hdN:d<N) (h:eff P st d o.op=some (p,st')) (hp:p) (hcall:∀c,o.op≠ .call c) (hst:∀t x y,o.op≠ .store t x y)
  (hK:∀a' w',Rel e k0 N st' a' w'->FL w w'->K a' w'):o.wp P a w K Q:=by
 generalize hop:o.op=op at h;cases op<;>simp only [eff,reduceCtorEq] at h;case alloc t=>
  split at h<;>try (cases h;done)
  rename_i zs hz;simp only [Option.some.injEq,Prod.mk.injEq] at h;obtain ⟨rfl,rfl⟩:=h;obtain ⟨z,h1,h2,h3⟩:=fa hz;refine gG (v:= .pointer (some ⟨w.heap.size,0,none⟩)) (us:=zs) hr hdst hdN ?_ (fun σ _ _=>bP _ _ h2) hp (by simp) (by unfold maxLen;omega) (fun σ w'=>ic (st.nb+d) _ _ σ w') hK;have h1':z.cells=zs.toArray:=by rw [←h1]
  simp [execOp,hop,Instr.alloc,h3 w,newVar,newRow,h1']
 case box t y=>
  split at h<;>try (cases h;done)
  rename_i cs hc;simp only [Option.some.injEq,Prod.mk.injEq] at h;obtain ⟨rfl,rfl⟩:=h;refine gG (v:= .pointer (some ⟨w.heap.size,0,none⟩)) (us:=(a.eval y).cells.toList) hr hdst hdN ?_ (fun σ _ h2=>fF (ao h2 y) hc) hp (by simp) (by unfold maxLen;omega) (fun σ w'=>ic (st.nb+d) _ _ σ w') hK;simp [execOp,hop,Instr.box,newVar,newRow]
 case buildSlice t len parts=>
  split at h<;>try (cases h;done)
  rename_i E sz by_ hel;split at h<;>try (cases h;done)
  rename_i zs hz;split at h<;>try (cases h;done)
  rename_i q r hf;simp only [Option.some.injEq,Prod.mk.injEq] at h;obtain ⟨rfl,rfl⟩:=h;obtain ⟨hq,hzs,hpos,hbig,hlen⟩:=hp;obtain ⟨z,h1,h2,h3⟩:=fa hz;obtain ⟨g1,i,g2,g3,g4⟩:=bi hel;have hzsz:z.cells.size=sz:=by rw [←hzs,←h1];simp
  obtain ⟨σ0,q1,q2,q3⟩:=hr.ex;have hd0:∀σ,denVs (kx e st.H st.nx σ w) (madeCells z.cells (len*sz)).toList (b5 len (zs.map .lit)):=fun σ=>by
   rw [←hzsz,gF,h1];exact dW (bP _ _ h2) len
  obtain ⟨arr',f1,_⟩:=e7 (κ:=kx e st.H st.nx σ0 w) (place:=fun i=>some (i*sz,sz)) _ _ _ (madeCells z.cells (len*sz)) (cX q2 parts.toList).1 (cX q2 parts.toList).2 (hd0 σ0) hf hq;refine gG (v:= .slice (some ⟨w.heap.size,0,none⟩) len len) (us:=arr'.toList) hr hdst hdN ?_ (fun σ _ k2=>?_) (by intro h0;rw [h0] at hpos;simp at hpos) hlen (by
   have:len<=len*sz:=Nat.le_mul_of_pos_right _ (Nat.pos_of_mul_pos_left hpos);unfold maxLen;omega) (fun σ w'=>?_) hK
  ·have hne:¬len*sz=0:=by omega
   have hbg:¬(16777216<len*sz):=by omega
   have f1':Instr.fill (fun i=>some (i*sz,sz)) ((Array.range (len*sz)).map (z.cells[·%z.cells.size]!)) (parts.map fun q=>(q.1,a.eval q.2)).toList=some arr':=by
    have:=f1;simp only [madeCells] at this;simpa using this
   have hbg':¬(len*sz>2^24):=by simpa using hbg
   simp only [execOp,hop,Instr.buildSlice,Sem.run_bind,run_underlying g1,Result.andThen_ok,sizeOf,typeInfo,run_program,g2,g3,Sem.run_pure,Sem.run_ite,if_neg hbg',if_neg hne,h3 w,f1',newRow,run_newObj];simp
  ·obtain ⟨arr2,f2,f3⟩:=e7 (κ:=kx e st.H st.nx σ w) (place:=fun i=>some (i*sz,sz)) _ _ _ (madeCells z.cells (len*sz)) (cX k2 parts.toList).1 (cX k2 parts.toList).2 (hd0 σ) hf hq;rw [f1] at f2;cases f2;exact f3
  exact aY (st.nb+d) σ w' rfl
 case makeSlice t l c=>
  split at h<;>try (cases h;done)
  rename_i k1 n k2 n' E sz by_ hl hc hel;split at h<;>try (cases h;done)
  rename_i zs hz;simp only [Option.some.injEq,Prod.mk.injEq] at h;obtain ⟨rfl,rfl⟩:=h;obtain ⟨rfl,hsz,hzs,h0,hb,hn⟩:=hp;obtain ⟨z,h1,h2,h3⟩:=fa hz;obtain ⟨g1,i,g2,g3,g4⟩:=bi hel;have hzsz:z.cells.size=sz:=by rw [←hzs,←h1];simp
  have hzi:i.zero=some z:=by
   have:=h3 w;cases hiz:i.zero with
   |none=>simp [zeroValue,typeInfo,g2,hiz] at this
   |some z'=>simp [zeroValue,typeInfo,g2,hiz] at this;rw [this]
  obtain ⟨σ0,q1,q2,q3⟩:=hr.ex;have el:=ao q2 l;have ec:=ao q2 c;rw [hl] at el;rw [hc] at ec;simp only [ak,ar,den] at el ec;have hrun:=run_make (P:=P) w t E i z g1 g2 hzi k1 k2 n n h0 (by omega) (by rw [g4];exact hb) (by omega);refine gG (v:= .slice (some ⟨w.heap.size,0,none⟩) n.toNat n.toNat) (us:=b5 n.toNat zs) (cs:=b5 n.toNat (zs.map .lit)) hr hdst hdN ?_ (fun σ _ _=>dW (bP _ _ h2) _) hsz (by simp [bQ,hzs]) (by unfold maxLen;omega) (fun σ w'=>aY (st.nb+d) σ w' rfl) hK;have hm:madeCells z.cells (n.toNat*sz)=(b5 n.toNat zs).toArray:=by
   rw [←hzsz,←h1,←gF]
  simp only [execOp,hop,el.1,ec.1,hrun,Sem.run_bind,Result.andThen_ok,Sem.run_pure,g3,hm]
 case call c=>exact (hcall c hop).elim
 case store t x y=>exact (hst t x y hop).elim
theorem lU (hr : Rel e k0 N st a w) (hdst : o.dst = none) {t : TypeId} {y z : Operand} (hop : o.op = .store t y z) (h : eff P st d o.op = some (p, st')) (hp : p) (hK : ∀ a' w', Rel e k0 N st' a' w' → K a' w') : o.wp P a w K Q := by
  rw [hop] at h
  simp only [eff] at h
  obtain ⟨σ, h1, h2, h3⟩ := hr.ex
  have hy := ao h2 y
  have hz := ao h2 z
  split at h <;> try (cases h; done)
  rename_i nm s' off ds ag sz hey hc hl
  rw [hey] at hy
  split at h <;> try (cases h; done)
  rename_i B hB
  simp only [Option.some.injEq, Prod.mk.injEq] at h
  obtain ⟨rfl, rfl⟩ := h
  obtain ⟨hst, hds, hle⟩ := hp
  have hd := fF hz hc
  obtain ⟨b, q1, q2, xs, q3, q4⟩ := dw h1 hy hB hst
  obtain ⟨_, hBl, _⟩ := h1.rowOf hB (.inr (.inr ⟨b, q1⟩))
  have hvs : (a.eval z).cells.size = sz := by have := hd.length; rw [← hds]; simpa using this
  rcases q3.2 with ⟨g1, g2⟩ | ⟨g, cap, cur, g1, g2, g3, g4, g5, g6, g7⟩
  · rw [g1] at q1; cases q1
  have hgb : g = b := by rw [g1] at q1; simpa [Value.ownBlock] using q1
  subst hgb
  have hxl : xs.length = B.n * B.sz := q3.1
  have hcur : off + 0 + (a.eval z).cells.toList.length ≤ cur.size := by
    have : B.n * B.sz ≤ cap * B.sz := Nat.mul_le_mul_right _ g4
    simp only [Array.length_toList]; omega
  have hrun := run_storeCells_at (P := P) g off B.E (a.eval z).cells.toList 0 cur w g3 hcur hd.one
  obtain ⟨k1, k2⟩ := h1.upd (w' := w.setRow g (cur.toList.take (off + 0) ++ (a.eval z).cells.toList ++ cur.toList.drop (off + 0 + (a.eval z).cells.toList.length)).toArray) hB (by rw [q1]; exact iU w g _)
    (xs := spl xs off (a.eval z).cells.toList) (cs := spl B.cs off ds) (h1.szOf hB ⟨g, q1⟩) (by rw [fE _ _ _ (by omega)]; exact hBl) (by
      refine ⟨by rw [fE _ _ _ (by simp; omega)]; exact hxl, .inr ⟨g, cap, _, g1, g2, setRow_heap w g cur _ B.E (0, 0) g3, g4, g5, by simp; simp at hcur; omega, ?_⟩⟩
      have hlx : off + (a.eval z).cells.toList.length ≤ B.n * B.sz := by simp only [Array.length_toList]; omega
      rw [← g7]
      apply List.ext_getElem?
      intro j
      simp only [spl, Nat.add_zero]
      rw [List.getElem?_take]
      split
      · rename_i hj
        simp only [List.append_assoc]
        rcases Nat.lt_or_ge j off with h5 | h5
        · rw [List.getElem?_append_left (by simp; omega), List.getElem?_append_left (by simp; omega), List.getElem?_take, List.getElem?_take, List.getElem?_take]
          simp [h5, hj]
        have e1 : (List.take off cur.toList).length = off := by simp; omega
        have e2 : (List.take off (List.take (B.n * B.sz) cur.toList)).length = off := by simp; omega
        rw [List.getElem?_append_right (l₁ := List.take off cur.toList) (by omega), List.getElem?_append_right (l₁ := List.take off (List.take (B.n * B.sz) cur.toList)) (by omega), e1, e2]
        rcases Nat.lt_or_ge (j - off) (a.eval z).cells.toList.length with h6 | h6
        · rw [List.getElem?_append_left h6, List.getElem?_append_left h6]
        rw [List.getElem?_append_right h6, List.getElem?_append_right h6, List.getElem?_drop, List.getElem?_drop, List.getElem?_take, if_pos (by omega)]
      rename_i hj
      rw [List.getElem?_eq_none]
      have := fE (List.take (B.n * B.sz) cur.toList) off (a.eval z).cells.toList (by simp; simp at hcur hlx; omega)
      simp only [spl] at this
      rw [this]; simp; omega) (j3 q4 hd off)
  refine lT (w' := w.setRow g (cur.toList.take (off + 0) ++ (a.eval z).cells.toList ++ cur.toList.drop (off + 0 + (a.eval z).cells.toList.length)).toArray) ?_ ?_
  · have hsz : (sizeOf t).run P w = .ok sz w := by
      cases ag
      · exact (e6 hl w).2
      exact (f4 hl w).2
    have q2' : a.eval y = .pointer (some ⟨g, off, none⟩) := q2
    simp only [execOp, hop, q2', Instr.storeAt, Instr.sureAddr, Sem.run_bind, Sem.run_pure, Result.andThen_ok, storeVar, hsz, hvs, ne_eq, not_true_eq_false, if_false, hrun]
  rw [hdst]
  exact hK _ _ (hr.skip k1 h2 h3 k2 _)
end
def eqW:Value->Value->Bool
 | .agg a,.agg b=>fD a.toList b.toList
 |a,b=>eqV a b
def kD:C->Option (Value×Value)
 | .lit (.agg a)=>match a.toList with
  |[k,v]=>some (k,v)
  |_=>none
 |_=>none
def ent (k v:Value):C:= .lit (.agg #[k,v])
def fH (k:Value):List C->Option Value
 |[]=>none
 |c::cs=>match kD c with
  |some (k',v)=>if eqW k k'=true then some v else fH k cs
  |none=>fH k cs
def fI (k v:Value):List C->List C
 |[]=>[ent k v]
 |c::cs=>match kD c with
  |some (k',_)=>if eqW k k'=true then ent k v::cs else c::fI k v cs
  |none=>c::fI k v cs
def MK (P:Program) (kt:TypeId) (k:Value) (cs:List C):Prop:=
 (∀b w,(Instr.checkKey b 10000 kt k).run P w= .ok () w)/\(∃dsc,P.underlying kt=some dsc/\
 ∀c∈cs,∃k' v',c=ent k' v'/\(∀w,(Op.equal kt k k').run P w= .ok (eqW k k') w)/\(Instr.sameNow dsc k k'=none∨Instr.sameNow dsc k k'=some (eqW k k'))/\(eqW k k'=true->Instr.sameBits 10000 k' k=true))
def kE:AV->Option Value
 | .val (.one (.lit v))=>some v
 | .val (.agg cs)=>(bX cs).map fun l=> .agg l.toArray
 |_=>none
def mpT (P:Program) (t:TypeId):Option (TypeId×Value):=
 match P.underlying t with
 |some (.map k e)=>match (P.info? e).map (·.zero) with
  |some (some z)=>some (k,z)
  |_=>none
 |_=>none
def oe (ok:Bool) (r:Option Value) (z:Value):Option AV:=
 match m0 (r.getD z) with
 | .val a=>some (if ok then .tup [a,.one (.lit (.bool r.isSome))] else .val a)
 |_=>none
def dM (P:Program) (st:St):Op->Option (Prop×AV)
 | .lookup t m k ok=>match ev st m,kE (ev st k),mpT P t with
  | .val (.one (.own nm s n sz)),some kv,some (kt,z)=>match st.H nm with
   |some B=>match oe ok (fH kv B.cs) z with
    |some x=>some (B.st=s/\n=0/\sz=0/\MK P kt kv B.cs,x)
    |none=>none
   |none=>none
  |_,_,_=>none
 |_=>none
section
variable {P : Program} {e : En} {k0 : Kx} {N : Nat} {st st' : St} {a : Act} {w : World} {σ : Nat → Value} {o : Oper} {p : Prop} {x : AV} {d : Nat} {K : Act → World → Prop} {Q : Exit → Act → World → Prop}
theorem iW {κ:Kx} {v kv:Value} {y:AV} (h:kE y=some kv) (hd:ak κ v y):v=kv:=by
 unfold kE at h;split at h<;>try (cases h;done)
 ·obtain rfl:=Option.some.inj h;simp only [ak,ar,den] at hd;exact hd.1
 rename_i cs;rw [Option.map_eq_some_iff] at h;obtain ⟨l,h1,rfl⟩:=h;obtain ⟨vs,h2,h3⟩:=hd;rw [h2,dV h1 h3]
def fnd (k:Value):List MapEntry->Nat->Option (Nat×Value)
 |[],_=>none
 |e::es,i=>if eqW k e.key=true then some (i,e.val) else fnd k es (i+1)
theorem lV (k:Value):∀(es:List MapEntry) (i:Nat),(fnd k es i).map (·.2)=fH k (es.map bZ)
 |[],_=>rfl
 |e::es,i=>by
  simp only [fnd,List.map_cons,fH,bZ,kD];split
  ·rfl
  exact lV k es (i+1)
theorem iX {kt:TypeId} {k:Value} {w:World}:∀(es:List MapEntry) (i:Nat),(∀e∈es,∀w,(Op.equal kt k e.key).run P w= .ok (eqW k e.key) w)->(Instr.findAsking kt k es i).run P w= .ok (fnd k es i) w
 |[],i,_=>rfl
 |e::es,i,h=>by
  simp only [Instr.findAsking,Sem.run_bind,h e (by simp) w,Result.andThen_ok,fnd];split
  ·rfl
  exact iX es (i+1) (fun e' he'=>h e' (by simp [he']))
theorem og {dsc:TypeDesc} {k:Value}:∀(es:List MapEntry) (i:Nat),(∀e∈es,Instr.sameNow dsc k e.key=none∨Instr.sameNow dsc k e.key=some (eqW k e.key))->Instr.findNow dsc k es i=none∨Instr.findNow dsc k es i=some (fnd k es i)
 |[],i,_=> .inr rfl
 |e::es,i,h=>by
  simp only [Instr.findNow,fnd];rcases h e (by simp) with h1|h1
  ·rw [h1];exact .inl rfl
  rw [h1];cases hq:eqW k e.key with
  |true=>exact .inr rfl
  |false=>simpa using og es (i+1) (fun e' he'=>h e' (by simp [he']))
theorem ie {kt:TypeId} {k:Value} {es:List MapEntry} (h:MK P kt k (es.map bZ)) (w:World):(Instr.findKey kt k es).run P w= .ok (fnd k es 0) w:=by
 obtain ⟨_,dsc,hd,hc⟩:=h;have hk:∀e∈es,(∀w,(Op.equal kt k e.key).run P w= .ok (eqW k e.key) w)/\(Instr.sameNow dsc k e.key=none∨Instr.sameNow dsc k e.key=some (eqW k e.key)):=fun e he=>by
  obtain ⟨k',v',h1,h2,h3,_⟩:=hc (bZ e) (List.mem_map_of_mem he);have h4:e.key=k':=by
   simp only [bZ,ent,C.lit.injEq,Value.agg.injEq] at h1;have:=congrArg Array.toList h1;simpa using (List.cons.inj this).1
  rw [h4];exact ⟨h2,h3⟩
 unfold Instr.findKey;simp only [Sem.run_bind,run_underlying hd,Result.andThen_ok];rcases og es 0 (fun e he=>(hk e he).2) with h1|h1
 ·rw [h1];exact iX es 0 (fun e he=>(hk e he).1)
 rw [h1];rfl
theorem vo (hW:RW e st.H st.nx σ w) {nm s:Nat} {v:Value} (hv:ak (kx e st.H st.nx σ w) v (.val (.one (.own nm s 0 0)))) {B:Blk} (hB:st.H nm=some B) (hs:B.st=s):
  v=σ nm/\∃b es clock,σ nm= .map (some b)/\w.heap[b]? =some (.map es clock)/\B.cs=es.toList.map bZ/\B.sz=0/\B.n=0/\e.w0.heap.size<=b:=by
 simp only [ak,ar,den] at hv;obtain ⟨h1,h2,h3⟩:=hv.2.2 B hB hs;rcases (hW.blk nm B hB).2 with h|⟨g1,g2,b,es,clock,g3,g4,g5,g6⟩
 ·exact (h.1 h3).elim
 exact ⟨h1,b,es,clock,g3,g5,g6,g1,g2,g4⟩
theorem oh {t kt:TypeId} {z:Value} (h:mpT P t=some (kt,z)):∃et,P.underlying t=some (.map kt et)/\∀w,(zeroValue et).run P w= .ok z w:=by
 unfold mpT at h;split at h<;>try (cases h;done)
 rename_i k e' hu;split at h<;>try (cases h;done)
 rename_i z' hz;simp only [Option.some.injEq,Prod.mk.injEq] at h;obtain ⟨rfl,rfl⟩:=h;refine ⟨e',hu,fun w=>?_⟩;cases hi:P.info? e' with
 |none=>rw [hi] at hz;cases hz
 |some i=>
  rw [hi] at hz;have hz':i.zero=some z':=by simpa using hz
  simp [zeroValue,typeInfo,hi,hz']
theorem fJ {b:Nat} {es:Array MapEntry} {clock:Nat} (h:w.heap[b]? =some (.map es clock)):(getObj b).run P w= .ok (.map es clock) w:=by
 simp only [getObj,Sem.run];rw [h]
theorem f5 (hW:RW e st.H st.nx σ w) (ht:∀t,ak (kx e st.H st.nx σ w) (a.tmps.getD t undef) (st.tm t)) (h:dM P st o.op=some (p,x)) (hp:p):Yl P o a w (kx e st.H st.nx σ w) x:=by
 generalize hop:o.op=op at h;cases op<;>simp only [dM] at h<;>try (cases h;done)
 case lookup t m k ok=>
  have hm:=ao ht m;have hk:=ao ht k;split at h<;>try (cases h;done)
  rename_i nm s n sz kv kt z hem hek hmp;rw [hem] at hm;split at h<;>try (cases h;done)
  rename_i B hB;split at h<;>try (cases h;done)
  rename_i y hl;simp only [Option.some.injEq,Prod.mk.injEq] at h;obtain ⟨rfl,rfl⟩:=h;obtain ⟨hs,rfl,rfl,hMK⟩:=hp;obtain ⟨h1,b,es,clock,h2,h3,h4,_⟩:=vo hW hm hB hs;have hkv:=iW hek hk;obtain ⟨et,h5,h6⟩:=oh hmp;rw [h4] at hMK hl;have hlook:∀w',FL w w'->(Instr.lookup t (a.eval m) (a.eval k) ok).run P w'= .ok (if ok then .tuple #[(fH kv (es.toList.map bZ)).getD z,.bool (fH kv (es.toList.map bZ)).isSome] else (fH kv (es.toList.map bZ)).getD z) w':=by
   intro w' hF;have hb:w'.heap[b]? =some (.map es clock):=by rw [hF.2 b (Array.getElem?_eq_some_iff.1 h3).1];exact h3
   have hf:=ie hMK w';have hg:=lV kv es.toList 0;unfold Instr.lookup;simp only [Sem.run_bind,run_underlying h5,Result.andThen_ok,h1,h2,hkv,fJ hb,Sem.run_pure,hMK.1,hf];rw [←hg];cases fnd kv es.toList 0 with
   |none=>cases ok<;>simp [h6 w']
   |some q=>cases ok<;>simp
  refine ⟨if ok then .tuple #[(fH kv (es.toList.map bZ)).getD z,.bool (fH kv (es.toList.map bZ)).isSome] else (fH kv (es.toList.map bZ)).getD z,fun w' hF=>by simp only [execOp,hop,Sem.run_bind,hlook w' (hF.resolve_right (by simp [reads,hop])),Result.andThen_ok,Sem.run_pure],?_⟩;unfold oe at hl;split at hl<;>try (cases hl;done)
  rename_i y' hy;obtain rfl:=Option.some.inj hl;have hden:=iS (kx e st.H st.nx σ w) ((fH kv (es.toList.map bZ)).getD z);rw [hy] at hden;cases ok with
  |true=>
   refine ⟨[(fH kv (es.toList.map bZ)).getD z,.bool (fH kv (es.toList.map bZ)).isSome],by simp,hden,?_,trivial⟩;simp only [ar,den];exact ⟨trivial,rfl⟩
  |false=>exact hden
def ol (P:Program) (st:St) (d:Nat) (t:TypeId):Option (Prop×St):=
 some (True,⟨up st.tm d (.val (.one (.own (st.nb+d) st.nx 0 0))),up st.H (st.nb+d) (some ⟨st.nx,t,0,0,[]⟩),st.nx+1,st.nb⟩)
theorem vp {t:TypeId} (hr:Rel e k0 N st a w) (hdst:o.dst=some d) (hdN:d<N) (hop:o.op= .makeMap t none) (h:ol P st d t=some (p,st'))
  (hK:∀a' w',Rel e k0 N st' a' w'->FL w w'->K a' w'):o.wp P a w K Q:=by
 simp only [ol,Option.some.injEq,Prod.mk.injEq] at h;obtain ⟨rfl,rfl⟩:=h;obtain ⟨σ,h1,h2,h3⟩:=hr.ex;obtain ⟨k1,k2⟩:=h1.newV (nm0:=st.nb+d) (d:=st.nb+d) (row:=none) (grownBy_alloc w (.map #[] 0)) (B':=⟨st.nx,t,0,0,[]⟩) (v':= .map (some w.heap.size)) rfl (by simp) (fun r hr=> .inl (by simp [obk] at hr;omega))
  (fun _=> .inr ⟨rfl,rfl,w.heap.size,#[],0,aO _ _ _,h1.size,heap_alloc_new _ _,rfl⟩)
 rw [dL] at k1 k2;refine bJ (v:= .map (some w.heap.size)) (w':=w.alloc (.map #[] 0)) ?_ ?_
 ·simp [execOp,hop,Instr.makeMap]
 rw [hdst];exact hK _ _ (hr.put k1 h2 h3 k2 (aY (st.nb+d) σ _ rfl) d hdN) (FL.alloc _ _)
def iY (P:Program) (st:St) (t:TypeId) (m k v:Operand):Option (Prop×St):=
 match ev st m,kE (ev st k),kE (ev st v),mpT P t with
 | .val (.one (.own nm s n sz)),some kv,some vv,some (kt,_)=>match st.H nm with
  |some B=>some (B.st=s/\n=0/\sz=0/\MK P kt kv B.cs,⟨st.tm,up st.H nm (some {B with cs:=fI kv vv B.cs}),st.nx,st.nb⟩)
  |none=>none
 |_,_,_,_=>none
theorem iZ {b:Nat} {ob:Obj} {es:Array MapEntry} {clock:Nat} (h0:w.heap[b]? =some (.map es clock)):∃w',(setObj b ob).run P w= .ok () w'/\w.grownBy w' (some b)/\w'.heap[b]? =some ob:=by
 have hb:b<w.heap.size:=(Array.getElem?_eq_some_iff.1 h0).1;refine ⟨{w with heap:=w.heap.setIfInBounds b ob},?_,⟨rfl,rfl,rfl,by simp,fun k _ hk=>?_⟩,?_⟩
 ·simp only [setObj,Sem.run];rw [h0]
 ·simp only [Array.getElem?_setIfInBounds];rw [if_neg (fun e=>hk (by rw [e]))]
 simp [hb]
theorem fu {k v:Value}:∀{es:List MapEntry} {i:Nat},fnd k es i=none->fI k v (es.map bZ)=es.map bZ++[ent k v]
 |[],_,_=>rfl
 |e::es,i,h=>by
  simp only [fnd] at h;split at h<;>try (cases h;done)
  rename_i hne;simp only [List.map_cons,fI,bZ,kD];rw [if_neg hne];have:=fu (v:=v) h;rw [this];rfl
theorem fv {k v:Value}:∀{es:List MapEntry} {i j:Nat} {u:Value},fnd k es i=some (j,u)->i<=j/\j-i<es.length/\(∃x,es[j-i]? =some x/\eqW k x.key=true)/\
  fI k v (es.map bZ)=((es.map bZ).set (j-i) (ent k v))
 |[],_,_,_,h=>by cases h
 |e::es,i,j,u,h=>by
  simp only [fnd] at h;split at h
  ·rename_i hq;simp only [Option.some.injEq,Prod.mk.injEq] at h;obtain ⟨rfl,rfl⟩:=h;refine ⟨Nat.le_refl _,by simp,⟨e,by simp,hq⟩,?_⟩;simp only [List.map_cons,fI,bZ,kD];rw [if_pos hq];simp
  rename_i hne;obtain ⟨h1,h2,⟨x,h3,h4⟩,h5⟩:=fv (v:=v) h;have e1:j-i=(j-(i+1))+1:=by omega
  refine ⟨by omega,by simp;omega,⟨x,by rw [e1];simpa using h3,h4⟩,?_⟩;rw [e1];simp only [List.map_cons,fI,bZ,kD];rw [if_neg hne];simp only [List.set_cons_succ];rw [←h5]
theorem qw {t:TypeId} {m k v:Operand} (hr:Rel e k0 N st a w) (hdst:o.dst=none) (hop:o.op= .mapUpdate t m k v) (h:iY P st t m k v=some (p,st')) (hp:p)
  (hK:∀a' w',Rel e k0 N st' a' w'->K a' w'):o.wp P a w K Q:=by
 obtain ⟨σ,h1,h2,h3⟩:=hr.ex;have hm:=ao h2 m;have hk:=ao h2 k;have hv:=ao h2 v;unfold iY at h;split at h<;>try (cases h;done)
 rename_i nm s n sz kv vv kt z hem hek hev hmp;rw [hem] at hm;split at h<;>try (cases h;done)
 rename_i B hB;simp only [Option.some.injEq,Prod.mk.injEq] at h;obtain ⟨rfl,rfl⟩:=h;obtain ⟨hs,rfl,rfl,hMK⟩:=hp;obtain ⟨g1,b,es,clock,g2,g3,g4,g5,g6,g7⟩:=vo h1 hm hB hs;have hkv:=iW hek hk;have hvv:=iW hev hv;obtain ⟨et,h5,_⟩:=oh hmp;rw [g4] at hMK;have hf:=ie hMK w;have hlt:b<w.heap.size:=(Array.getElem?_eq_some_iff.1 g3).1;have key:∃w' es' clock',(Instr.mapUpdate t (a.eval m) (a.eval k) (a.eval v)).run P w= .ok () w'/\w.grownBy w' (some b)/\w'.heap[b]? =some (.map es' clock')/\fI kv vv (es.toList.map bZ)=es'.toList.map bZ:=by
  cases hfn:fnd kv es.toList 0 with
  |none=>
   obtain ⟨w',q1,q2,q3⟩:=iZ (P:=P) (w:=w) (b:=b) (ob:= .map (es.push {key:=kv,val:=vv,born:=clock}) (clock+1)) g3;refine ⟨w',_,_,?_,q2,q3,?_⟩
   ·unfold Instr.mapUpdate;simp only [Sem.run_bind,run_underlying h5,Result.andThen_ok,g1,g2,hkv,hvv,fJ g3,hMK.1,hf,hfn,q1]
   rw [fu hfn];simp [bZ,ent]
  |some q=>
   obtain ⟨j,u⟩:=q;obtain ⟨q1,q2,⟨x,q3,q4⟩,q5⟩:=fv (v:=vv) hfn;simp only [Nat.sub_zero] at q2 q3 q5;obtain ⟨w',r1,r2,r3⟩:=iZ (P:=P) (w:=w) (b:=b) (ob:= .map (es.modify j fun e=>{e with key:=kv,val:=vv}) clock) g3;refine ⟨w',_,_,?_,r2,r3,?_⟩
   ·have hx:es[j]? =some x:=by simpa using q3
    have hsb:Instr.sameBits 10000 x.key kv=true:=by
     obtain ⟨_,dsc,_,hc⟩:=hMK;obtain ⟨k',v',c1,_,_,c4⟩:=hc (bZ x) (List.mem_map_of_mem (List.mem_of_getElem? q3));have h4:x.key=k':=by
      simp only [bZ,ent,C.lit.injEq,Value.agg.injEq] at c1;have:=congrArg Array.toList c1;simpa using (List.cons.inj this).1
     rw [h4] at q4 ⊢;exact c4 q4
    unfold Instr.mapUpdate;simp only [Sem.run_bind,run_underlying h5,Result.andThen_ok,g1,g2,hkv,hvv,fJ g3,Sem.run_pure,hMK.1,hf,hfn,hx,Option.map_some,Option.getD_some,Instr.keyThatStays,hsb,if_true,r1]
   rw [q5];apply List.ext_getElem?;intro i;simp only [List.getElem?_set,List.getElem?_map,Array.getElem?_toList,Array.getElem?_modify,List.length_map,Array.length_toList];by_cases hij:j=i
   ·subst hij;have hjl:j<es.size:=by simpa using q2
    simp [hjl,bZ,ent]
   simp [hij]
 obtain ⟨w',es',clock',r1,r2,r3,r4⟩:=key;obtain ⟨k1,k2⟩:=h1.updV (row:=some b) (cs:=fI kv vv B.cs) hB r2 (fun r hr=>by rw [g2,←hr];rfl) (fun _=> .inr ⟨g5,g6,b,es',clock',g2,g7,r3,by rw [g4];exact r4⟩);refine lT (w':=w') ?_ ?_
 ·simp only [execOp,hop,Sem.run_bind,r1,Result.andThen_ok,Sem.run_pure]
 rw [hdst];exact hK _ _ (hr.skip k1 h2 h3 k2 _)
end
def eF (P:Program) (st:St) (args:Array Operand) (argTypes:Array TypeId):Option (Prop×AV):=
 match args.toList,argTypes.toList with
 |[x],[t]=>match ev st x,elT P t with
  | .val (.one (.lit (.slice _ _ c))),some _=>some (True,one (.int .i64 c))
  |_,_=>none
 |_,_=>none
def dX (mx:Bool) (st:St) (args:Array Operand):Option (Prop×AV):=
 match args.toList with
 |[x,y]=>match ev st x,ev st y with
  | .val (.one (.lit (.int k a))),.val (.one (.lit (.int _ b)))=>some (True,one (.int k (if mx then max a b else min a b)))
  |_,_=>none
 |_=>none
def eG (P:Program) (st:St) (t:TypeId) (x:Operand) (lo hi:Option Operand):Option (Prop×AV):=
 match ev st x,elT P t,bnd st lo 0,bnd st hi 0 with
 | .val (.one (.lit (.slice none 0 0))),some _,some (p1,l),some (p2,h)=>some (p1/\p2/\l=0/\h=0,one (.slice none 0 0))
 |_,_,_,_=>none
def qx (P : Program) (st : St) (d : Nat) (args : Array Operand) (argTypes : Array TypeId) : Option (Prop × St) :=
  match args.toList, argTypes.toList with
  | [s, x], [t, t'] => match ev st s, ev st x, elT P t, P.underlying t' with
    | .val (.one (.lit (.slice none 0 0))), .val (.one (.lit (.int _ n))), some (E, sz, by_), some (.int _) => match zrT P E with
      | some zs => some (zs.length = sz ∧ sz ≠ 0 ∧ 0 < n ∧ n * by_ ≤ 140737488355328 ∧ n ≤ 4611686018427387904,
          ⟨up st.tm d (.val (.one (.own (st.nb + d) st.nx n.toNat sz))), up st.H (st.nb + d) (some ⟨st.nx, E, sz, n.toNat, b5 n.toNat (zs.map .lit)⟩), st.nx + 1, st.nb⟩)
      | none => none
    | _, _, _, _ => none
  | _, _ => none
def om (P : Program) (st : St) (d : Nat) (t : TypeId) (x : Operand) (lo hi : Option Operand) : Option (Prop × St) :=
  match ev st x, lo, hi, elT P t with
  | .val (.one (.own nm s n sz)), none, some h, some (_, sz', _) => match ev st h, st.H nm with
    | .val (.one (.lit (.int _ i))), some B => some (sz = sz' ∧ sz ≠ 0 ∧ B.st = s ∧ 0 ≤ i ∧ i ≤ n,
        ⟨up st.tm d (.val (.one (.own (st.nb + d) st.nx i.toNat sz))), up (up st.H nm none) (st.nb + d) (some ⟨st.nx, B.E, sz, i.toNat, B.cs.take (i.toNat * sz)⟩), st.nx + 1, st.nb⟩)
    | _, _ => none
  | _, _, _, _ => none
section
variable {P : Program} {e : En} {k0 : Kx} {N : Nat} {st st' : St} {a : Act} {w : World} {σ : Nat → Value} {o : Oper} {p : Prop} {x : AV} {d : Nat} {K : Act → World → Prop} {Q : Exit → Act → World → Prop}
theorem lW {args:Array Operand} {argTypes:Array TypeId} (ht:∀t,ak (kx e st.H st.nx σ w) (a.tmps.getD t undef) (st.tm t)) (hop:o.op= .call {callee:= .builtin .cap,args,argTypes}) (h:eF P st args argTypes=some (p,x)):Yl P o a w (kx e st.H st.nx σ w) x:=by
 unfold eF at h;split at h<;>try (cases h;done)
 rename_i y t hargs htys;have ha:args= #[y]:=Array.toList_inj.1 hargs;have hty:argTypes= #[t]:=Array.toList_inj.1 htys;subst ha hty;have hy:=ao ht y;split at h<;>try (cases h;done)
 rename_i ad n c el hey hel;rw [hey] at hy;simp only [Option.some.injEq,Prod.mk.injEq] at h;obtain ⟨rfl,rfl⟩:=h;simp only [ak,ar,den] at hy;obtain ⟨e',sz,by_⟩:=el;obtain ⟨g1,_⟩:=bi hel;refine ⟨.int .i64 c,fun w' _=>?_,by simp only [ak,ar,den];exact ⟨trivial,rfl⟩⟩;simp [execOp,hop,resolve,invoke,builtin,hy.1,Builtin.cap_,run_underlying g1,goInt]
theorem i6 {args:Array Operand} {argTypes:Array TypeId} (mx:Bool) (ht:∀t,ak (kx e st.H st.nx σ w) (a.tmps.getD t undef) (st.tm t)) (hop:o.op= .call {callee:= .builtin (if mx then .max else .min),args,argTypes}) (h:dX mx st args=some (p,x)):Yl P o a w (kx e st.H st.nx σ w) x:=by
 unfold dX at h;split at h<;>try (cases h;done)
 rename_i y z hargs;have ha:args= #[y,z]:=Array.toList_inj.1 hargs;subst ha;have hy:=ao ht y;have hz:=ao ht z;split at h<;>try (cases h;done)
 rename_i k n k' m hey hez;rw [hey] at hy;rw [hez] at hz;simp only [Option.some.injEq,Prod.mk.injEq] at h;obtain ⟨rfl,rfl⟩:=h;simp only [ak,ar,den] at hy hz;refine ⟨.int k (if mx then max n m else min n m),fun w' _=>?_,by simp only [ak,ar,den];exact ⟨trivial,rfl⟩⟩;cases mx
 ·simp [execOp,hop,resolve,invoke,builtin,hy.1,hz.1,Lib.run_min_ints]
 simp [execOp,hop,resolve,invoke,builtin,hy.1,hz.1,Lib.run_max_ints]
theorem lX {t:TypeId} {y:Operand} {lo hi:Option Operand} (ht:∀t,ak (kx e st.H st.nx σ w) (a.tmps.getD t undef) (st.tm t)) (hop:o.op= .slice t y lo hi none) (h:eG P st t y lo hi=some (p,x)) (hp:p):Yl P o a w (kx e st.H st.nx σ w) x:=by
 unfold eG at h;have hy:=ao ht y;split at h<;>try (cases h;done)
 rename_i el p1 l p2 hh hey hel hb1 hb2;rw [hey] at hy;simp only [Option.some.injEq,Prod.mk.injEq] at h;obtain ⟨rfl,rfl⟩:=h;obtain ⟨hp1,hp2,rfl,rfl⟩:=hp;simp only [ak,ar,den] at hy;obtain ⟨e',sz,by_⟩:=el;obtain ⟨g1,j,g2,g3,_⟩:=bi hel;refine ⟨.slice none 0 0,fun w' _=>?_,by simp only [ak,ar,den];exact ⟨trivial,rfl⟩⟩;have e1:(Instr.sliceBounds true 0 0 (lo.map a.eval) (hi.map a.eval) none).run P w'= .ok (0,0,0) w':=by
  rcases eE ht hb1 hp1 with ⟨rfl,_⟩|⟨z1,k1,rfl,q1⟩<;>rcases eE ht hb2 hp2 with ⟨rfl,_⟩|⟨z2,k2,rfl,q2⟩
  ·simp [Instr.sliceBounds]
  ·simp [Instr.sliceBounds,q2,Instr.sliceBound,asIntOf]
  ·simp [Instr.sliceBounds,q1,Instr.sliceBound,asIntOf]
  simp [Instr.sliceBounds,q1,q2,Instr.sliceBound,asIntOf]
 simp [execOp,hop,hy.1,Instr.sliceAt,run_underlying g1,Instr.slice,e1,sizeOf,typeInfo,g2]
theorem lY {args:Array Operand} {argTypes:Array TypeId} (hr:Rel e k0 N st a w) (hdst:o.dst=some d) (hdN:d<N) (hop:o.op= .call {callee:= .builtin .append,args,argTypes}) (h:qx P st d args argTypes=some (p,st')) (hp:p)
  (hK:∀a' w',Rel e k0 N st' a' w'->K a' w'):o.wp P a w K Q:=by
 obtain ⟨σ,h1,h2,h3⟩:=hr.ex;unfold qx at h;split at h<;>try (cases h;done)
 rename_i s y t t' hargs htys;have ha:args= #[s,y]:=Array.toList_inj.1 hargs;have hty:argTypes= #[t,t']:=Array.toList_inj.1 htys;subst ha hty;have hs:=ao h2 s;have hy:=ao h2 y;split at h<;>try (cases h;done)
 rename_i k n E sz by_ kn hes hey hel hu;rw [hes] at hs;rw [hey] at hy;split at h<;>try (cases h;done)
 rename_i zs hz;simp only [Option.some.injEq,Prod.mk.injEq] at h;obtain ⟨rfl,rfl⟩:=h;obtain ⟨hzs,hsz,hn0,hb,hn⟩:=hp;simp only [ak,ar,den] at hs hy;obtain ⟨z,q1,q2,q3⟩:=fa hz;obtain ⟨g1,i,g2,g3,g4⟩:=bi hel;have hzsz:z.cells.size=sz:=by rw [←hzs,←q1];simp
 have hzi:i.zero=some z:=by
  have:=q3 w;cases hiz:i.zero with
  |none=>simp [zeroValue,typeInfo,g2,hiz] at this
  |some z'=>simp [zeroValue,typeInfo,g2,hiz] at this;rw [this]
 obtain ⟨m,rfl⟩:∃m:Nat,n=(m:Int):=⟨n.toNat,by omega⟩;have hm:0<m:=by omega
 have hbm:m*by_<=140737488355328:=by
  have:((m*by_:Nat):Int)<=140737488355328:=by rw [Int.natCast_mul];exact hb
  omega
 have hfit:Builtin.nextslicecap (0+m) 0*i.bytes<=281474976710656:=by
  have:Builtin.nextslicecap (0+m) 0=m:=by simp [Builtin.nextslicecap,hm]
  rw [this,g4];omega
 have hrun:=Lib.run_append_grow_zeros (P:=P) w t t' o.type E i z k kn g1 hu g2 hzi none 0 0 [] (by simp [Builtin.firstCells]) m hm (by rw [g3];omega) (by omega) (by omega) (by rw [g4];omega) hfit;simp only [Nat.zero_add] at hrun;have hcap:=grownCap_ge w m 0 E;have hzc:∀n,(Builtin.zeroCells z.cells n).toList=b5 n zs:=fun n=>by
  have:=gF z.cells n;rw [q1] at this;simp only [madeCells] at this;simpa [Builtin.zeroCells] using this
 have hg:w.grownBy (w.drew.alloc (.cells ((#[]:Array Value)++Builtin.zeroCells z.cells m++Builtin.zeroCells z.cells (grownCap w m 0 E-m)) E)) none:=
  ⟨rfl,rfl,rfl,by simp,fun k hk _=>Below.heap_alloc _ _ _ hk⟩
 obtain ⟨k1,k2⟩:=h1.new (nm0:=st.nb+d) (d:=st.nb+d) (row:=none) hg (B':=⟨st.nx,E,sz,m,b5 m (zs.map .lit)⟩) (v':= .slice (some ⟨w.heap.size,0,none⟩) m (grownCap w m 0 E)) (xs:=b5 m zs) rfl hsz (by simp [bQ,hzs]) (by simp)
  (fun r hr=> .inl (by simp [obk] at hr;omega)) (by
   refine ⟨by simp [bQ,hzs],.inr ⟨w.heap.size,grownCap w m 0 E,_,rfl,h1.size,heap_alloc_new w.drew _,hcap,grownCap_le_maxLen _ _ _ _ (by unfold maxLen;omega),?_,?_⟩⟩
   ·simp only [Array.size_append,Array.size_empty,Nat.zero_add];have s1:(Builtin.zeroCells z.cells m).size=m*sz:=by have:=congrArg List.length (hzc m);simpa [bQ,hzs] using this
    have s2:(Builtin.zeroCells z.cells (grownCap w m 0 E-m)).size=(grownCap w m 0 E-m)*sz:=by have:=congrArg List.length (hzc (grownCap w m 0 E-m));simpa [bQ,hzs] using this
    rw [s1,s2,←Nat.add_mul];congr 1;omega
   simp only [Array.toList_append,List.nil_append,hzc];rw [List.take_left'];simp [bQ,hzs]) (dW (bP _ _ q2) _)
 rw [dL] at k1 k2;refine bJ (v:= .slice (some ⟨w.heap.size,0,none⟩) m (grownCap w m 0 E)) (w':=w.drew.alloc (.cells ((#[]:Array Value)++Builtin.zeroCells z.cells m++Builtin.zeroCells z.cells (grownCap w m 0 E-m)) E)) ?_ ?_
 ·simp only [execOp,hop,resolve,Sem.run_bind,Sem.run_pure,Result.andThen_ok,invoke,builtin,List.map_toArray,List.map_cons,List.map_nil,hs.1,hy.1,hrun]
 rw [hdst];refine hK _ _ (hr.put k1 h2 h3 k2 ?_ d hdN);exact aY (st.nb+d) σ _ rfl
theorem pq {t : TypeId} {y : Operand} {lo hi : Option Operand} (hr : Rel e k0 N st a w) (hdst : o.dst = some d) (hdN : d < N) (hop : o.op = .slice t y lo hi none) (h : om P st d t y lo hi = some (p, st')) (hp : p)
    (hK : ∀ a' w', Rel e k0 N st' a' w' → FL w w' → K a' w') : o.wp P a w K Q := by
  obtain ⟨σ, h1, h2, h3⟩ := hr.ex
  unfold om at h
  have hy := ao h2 y
  split at h <;> try (cases h; done)
  rename_i nm s n sz hop2 E' sz' by_ hey hel
  have hh := ao h2 hop2
  rw [hey] at hy
  split at h <;> try (cases h; done)
  rename_i k i B heh hB
  rw [heh] at hh
  simp only [Option.some.injEq, Prod.mk.injEq] at h
  obtain ⟨rfl, rfl⟩ := h
  obtain ⟨rfl, hsz, hs, hi0, hin⟩ := hp
  simp only [ak, ar, den] at hy hh
  obtain ⟨f1, f2, f3⟩ := hy.2.2 B hB hs
  have f1' : a.eval y = σ nm := f1
  obtain ⟨_, g2, xs, g3, g4⟩ := h1.rowOf hB (.inl (by rw [f3]; exact hsz))
  obtain ⟨g5, j, g6, g7, _⟩ := bi hel
  obtain ⟨m, rfl⟩ : ∃ m : Nat, i = (m : Int) := ⟨i.toNat, by omega⟩
  have hmn : m ≤ B.n := by omega
  subst f3
  obtain ⟨ad, cap, hv, hmc⟩ : ∃ ad cap, σ nm = .slice ad B.n cap ∧ m ≤ cap := by
    rcases g3.2 with ⟨q1, q2⟩ | ⟨g, cap, cur, q1, _, _, q2, _⟩
    · exact ⟨none, 0, by rw [q2]; exact q1, by omega⟩
    exact ⟨_, cap, q1, by omega⟩
  have hown : w.ownsRow e.w0.heap.size B.E B.sz (.slice ad m cap) m (xs.take (m * B.sz)) := by
    have hml : m * B.sz ≤ xs.length := by rw [g3.1]; exact Nat.mul_le_mul_right _ hmn
    refine ⟨by simp; omega, ?_⟩
    rcases g3.2 with ⟨q1, q2⟩ | ⟨g, cap', cur, q1, q2, q3, q4, q5, q6, q7⟩
    · rw [hv] at q1
      simp only [Value.slice.injEq] at q1
      obtain ⟨rfl, _, rfl⟩ := q1
      have : m = 0 := by omega
      subst this
      exact .inl ⟨rfl, rfl⟩
    rw [hv] at q1
    simp only [Value.slice.injEq] at q1
    obtain ⟨rfl, _, rfl⟩ := q1
    refine .inr ⟨g, cap, cur, rfl, q2, q3, hmc, q5, q6, ?_⟩
    rw [← q7, List.take_take]
    congr 1
    rw [g3.1] at hml
    omega
  obtain ⟨k1, k2⟩ := h1.new (nm0 := nm) (d := st.nb + d) (row := none) (w' := w) ⟨rfl, rfl, rfl, Nat.le_refl _, fun _ _ _ => rfl⟩ (B' := ⟨st.nx, B.E, B.sz, m, B.cs.take (m * B.sz)⟩) (v' := .slice ad m cap) rfl hsz (by
      show (List.take (m * B.sz) B.cs).length = m * B.sz
      have : m * B.sz ≤ B.cs.length := by rw [g2]; exact Nat.mul_le_mul_right _ hmn
      simp; omega) (by simp) (fun r hr => .inr ⟨by rw [hv]; cases ad <;> simpa [obk] using hr, B, hB⟩) hown (g4.take _)
  refine bJ (v := .slice ad m cap) (w' := w) ?_ ?_
  · have e1 : (Instr.sliceBounds true B.n cap none (some (.int k (m : Int))) none).run P w = .ok (0, m, cap) w := by
      have c1 : (0 : Int) ≤ (m : Int) ∧ (m : Int) ≤ (cap : Int) := ⟨by omega, by omega⟩
      simp only [Instr.sliceBounds, Instr.sliceBound, asIntOf, Sem.run_bind, Sem.run_pure, Result.andThen_ok, Sem.run_ite, if_pos c1, Int.toNat_natCast]
    have e2 : (if cap = 0 then ad else ad.map (·.add (0 * B.sz))) = ad := by
      split
      · rfl
      cases ad with
      | none => rfl
      | some q => simp [Addr.add]
    simp only [execOp, hop, f1', hv, hh.1, Option.map_some, Option.map_none, Sem.run_bind, Instr.sliceAt, run_underlying g5, Result.andThen_ok, Instr.slice, e1, sizeOf, typeInfo, run_program, g6, g7, Sem.run_pure, Nat.sub_zero, e2]
  rw [hdst]
  refine hK _ _ (hr.put k1 h2 h3 k2 ?_ d hdN) (FL.refl w)
  exact aY (st.nb + d) σ _ rfl
end
mutual
def bf:C->Bool
 | .lit _=>true
 | .sh _ _ cs=>bC cs
 | .sp cs=>bC cs
 |_=>false
def bC:List C->Bool
 |[]=>true
 |c::cs=>bf c&&bC cs
end
def oo:C->Bool
 | .lit _=>true
 |_=>false
def cf (a:A1):Bool:=bC a.cells
def f8 (a:A1):Bool:=a.cells.all oo
def kF (f:A1->Bool):AV->Bool
 | .val a=>f a
 | .tup l=>l.all f
 | .dead=>true
mutual
theorem bz {κ κ':Kx} (h:∀b,κ.S b->κ'.S b/\κ'.w.heap[b]? =κ.w.heap[b]?):∀{c:C} {v:Value},bf c=true->den κ v c->den κ' v c
 | .lit x,v,_,d=>by simp only [den] at d ⊢;exact d
 | .sh sz n cs,v,hp,d=>by
  simp only [bf] at hp;simp only [den] at d ⊢;obtain ⟨a,cap,h1,h2,h3,h4,h5,h6⟩:=d;refine ⟨a,cap,h1,h2,h3,h4,h5,?_⟩;rcases h6 with h6|⟨b,off,h6,h7,h8⟩
  ·exact .inl h6
  exact .inr ⟨b,off,h6,(h b h7).1,gH h (h b h7).2 hp h8⟩
 | .sp cs,v,hp,d=>by
  simp only [bf] at hp;simp only [den] at d ⊢;obtain ⟨b,off,h1,h2,h3⟩:=d;exact ⟨b,off,h1,(h b h2).1,gH h (h b h2).2 hp h3⟩
 | .own ..,v,hp,d=>by simp [bf] at hp
 | .ptr ..,v,hp,d=>by simp [bf] at hp
 | .dead,v,hp,d=>by simp [bf] at hp
 | .vw ..,v,hp,d=>by simp [bf] at hp
 | .clo ..,v,hp,d=>by simp [bf] at hp
 | .e0,v,hp,d=>by simp [bf] at hp
theorem gH {κ κ':Kx} (h:∀b,κ.S b->κ'.S b/\κ'.w.heap[b]? =κ.w.heap[b]?) {b:Nat} (hb:κ'.w.heap[b]? =κ.w.heap[b]?):∀{cs:List C} {off:Nat},bC cs=true->denM κ b off cs->denM κ' b off cs
 |[],off,_,_=>by simp [denM]
 |c::cs,off,hp,d=>by
  simp only [bC,Bool.and_eq_true] at hp;simp only [denM] at d ⊢;obtain ⟨⟨u,h1,h2⟩,h3⟩:=d;exact ⟨⟨u,by rw [World.cell?_of_block (w:=κ.w) hb];exact h1,bz h hp.1 h2⟩,gH h hb hp.2 h3⟩
end
theorem i7 {κ κ':Kx} (h:∀b,κ.S b->κ'.S b/\κ'.w.heap[b]? =κ.w.heap[b]?):∀{vs:List Value} {cs:List C},bC cs=true->denVs κ vs cs->denVs κ' vs cs
 |[],[],_,_=>trivial
 |_::_,_::_,hp,d=>by
  simp only [bC,Bool.and_eq_true] at hp;exact ⟨bz h hp.1 d.1,i7 h hp.2 d.2⟩
 |[],_::_,_,d=>d.elim
 |_::_,[],_,d=>d.elim
theorem j5 {κ κ':Kx} (h:∀b,κ.S b->κ'.S b/\κ'.w.heap[b]? =κ.w.heap[b]?):∀{a:A1} {v:Value},cf a=true->ar κ v a->ar κ' v a
 | .one c,v,hp,d=>by
  simp only [cf,A1.cells,bC,Bool.and_true] at hp;exact bz h hp d
 | .agg cs,v,hp,⟨vs,h1,h2⟩=>⟨vs,h1,i7 h hp h2⟩
theorem di {κ κ':Kx} (h:∀b,κ.S b->κ'.S b/\κ'.w.heap[b]? =κ.w.heap[b]?):∀{vs:List Value} {l:List A1},l.all cf=true->aP κ vs l->aP κ' vs l
 |[],[],_,_=>trivial
 |_::_,_::_,hp,d=>by
  simp only [List.all_cons,Bool.and_eq_true] at hp;exact ⟨j5 h hp.1 d.1,di h hp.2 d.2⟩
 |[],_::_,_,d=>d.elim
 |_::_,[],_,d=>d.elim
theorem gI {κ κ':Kx} (h:∀b,κ.S b->κ'.S b/\κ'.w.heap[b]? =κ.w.heap[b]?) {v:Value} {x:AV} (hp:kF cf x=true) (d:ak κ v x):ak κ' v x:=by
 cases x with
 |val a=>exact j5 h hp d
 |tup l=>obtain ⟨vs,h1,h2⟩:=d;exact ⟨vs,h1,di h hp h2⟩
 |dead=>trivial
theorem fK {κ κ':Kx}:∀{vs:List Value} {cs:List C},cs.all oo=true->denVs κ vs cs->denVs κ' vs cs
 |[],[],_,_=>trivial
 |_::_,c::_,hp,d=>by
  simp only [List.all_cons,Bool.and_eq_true] at hp;refine ⟨?_,fK hp.2 d.2⟩;cases c with
  |lit x=>have:=d.1;simp only [den] at this ⊢;exact this
  |_=>simp [oo] at hp
 |[],_::_,_,d=>d.elim
 |_::_,[],_,d=>d.elim
theorem j6 {κ κ':Kx}:∀{a:A1} {v:Value},f8 a=true->ar κ v a->ar κ' v a
 | .one c,v,hp,d=>(fK (κ':=κ') (vs:=[v]) (cs:=[c]) hp ⟨d,trivial⟩).1
 | .agg cs,v,hp,⟨vs,h1,h2⟩=>⟨vs,h1,fK hp h2⟩
theorem i8 {κ κ':Kx}:∀{vs:List Value} {l:List A1},l.all f8=true->aP κ vs l->aP κ' vs l
 |[],[],_,_=>trivial
 |_::_,_::_,hp,d=>by
  simp only [List.all_cons,Bool.and_eq_true] at hp;exact ⟨j6 hp.1 d.1,i8 hp.2 d.2⟩
 |[],_::_,_,d=>d.elim
 |_::_,[],_,d=>d.elim
theorem gJ {κ κ':Kx} {v:Value} {x:AV} (hp:kF f8 x=true) (d:ak κ v x):ak κ' v x:=by
 cases x with
 |val a=>exact j6 hp d
 |tup l=>obtain ⟨vs,h1,h2⟩:=d;exact ⟨vs,h1,i8 hp h2⟩
 |dead=>trivial
def kIn (w:World) (T:Nat->Prop) (w':World):Kx:=⟨w.heap.size,T,w',fun _=> .slice none 0 0,fun _=>none,0⟩
def kG (P : Program) (f : FuncId) : Prop := ∃ fn, P.funcs[f]? = some fn ∧ fn.name ≠ "runtime.NumGoroutine" ∧ fn.body.isNone = false
def ACall (P:Program) (f:FuncId) (args:List A1) (res:AV):Prop:=
 kG P f/\∀(w:World) (T:Nat->Prop) (vs:List Value),(∀b,T b->b<w.heap.size)->aP (kIn w T w) vs args->
  Calls P f vs.toArray w fun e w'=>∃v,e= .returned v/\Below w.heap.size w w'/\ak (kIn w T w') v res
def bR (st:St):C->Option (Prop×C×Bool)
 | .own nm s n sz=>if sz=0 then none else match st.H nm with
  |some B=>some (B.st=s/\bC B.cs=true,.sh sz n B.cs,true)
  |none=>none
 | .ptr .. =>none
 | .dead=>none
 |c=>some (bf c=true,c,false)
def dD (st:St):List C->Option (Prop×List C×Bool)
 |[]=>some (True,[],false)
 |c::cs=>match bR st c,dD st cs with
  |some (p,d,b),some (q,ds,b')=>some (p/\q,d::ds,b||b')
  |_,_=>none
def f9 (st:St):A1->Option (Prop×A1×Bool)
 | .one c=>match bR st c with
  |some (p,d,b)=>some (p,.one d,b)
  |none=>none
 | .agg cs=>match dD st cs with
  |some (p,ds,b)=>some (p,.agg ds,b)
  |none=>none
def eH (st:St):List AV->Option (Prop×List A1×Bool)
 |[]=>some (True,[],false)
 | .val a::l=>match f9 st a,eH st l with
  |some (p,d,b),some (q,ds,b')=>some (p/\q,d::ds,b||b')
  |_,_=>none
 |_=>none
section
variable {P : Program} {e : En} {k0 : Kx} {N : Nat} {st st' : St} {a : Act} {w : World} {σ : Nat → Value} {o : Oper} {p : Prop} {x : AV} {d : Nat} {K : Act → World → Prop} {Q : Exit → Act → World → Prop}
def fL (w:World):Kx:=kIn w (fun b=>b<w.heap.size) w
theorem kH {w:World} {b:Nat} (h:b<w.heap.size):(fL w).S b:=⟨.inl h,h,fun _ _ h=>by cases h⟩
theorem lZ (hW:RW e st.H st.nx σ w) {c d:C} {b:Bool} {v:Value} (hd:den (kx e st.H st.nx σ w) v c) (h:bR st c=some (p,d,b)) (hp:p):
  den (fL w) v d/\bf d=true/\(b=false->d=c):=by
 have toAll:∀b,(kx e st.H st.nx σ w).S b->(fL w).S b/\(fL w).w.heap[b]? =(kx e st.H st.nx σ w).w.heap[b]? :=fun b hb=>⟨kH hb.2.1,rfl⟩
 cases c with
 |own nm s n sz=>
  simp only [bR] at h;split at h<;>try (cases h;done)
  rename_i hsz;split at h<;>try (cases h;done)
  rename_i B hB;simp only [Option.some.injEq,Prod.mk.injEq] at h;obtain ⟨rfl,rfl,rfl⟩:=h;obtain ⟨hs,hpure⟩:=hp;simp only [den] at hd;obtain ⟨h1,h2,h3⟩:=hd.2.2 B hB hs;subst h2;subst h3;have hpub:=hW.publish hB hsz;refine ⟨?_,by simpa [bf] using hpure,fun h=>by cases h⟩;have h1':v=σ nm:=h1;rw [h1'];exact bz (κ:=kx e (up st.H nm none) st.nx σ w) (fun b hb=>⟨kH hb.2.1,rfl⟩) (by simpa [bf] using hpure) hpub
 |lit x=>
  simp only [bR,Option.some.injEq,Prod.mk.injEq] at h;obtain ⟨rfl,rfl,rfl⟩:=h
  exact ⟨bz toAll hp hd,hp,fun _=>rfl⟩
 |sh sz n cs=>
  simp only [bR,Option.some.injEq,Prod.mk.injEq] at h;obtain ⟨rfl,rfl,rfl⟩:=h
  exact ⟨bz toAll hp hd,hp,fun _=>rfl⟩
 |sp cs=>
  simp only [bR,Option.some.injEq,Prod.mk.injEq] at h;obtain ⟨rfl,rfl,rfl⟩:=h
  exact ⟨bz toAll hp hd,hp,fun _=>rfl⟩
 |ptr nm s off=>simp only [bR] at h;cases h
 |dead=>simp only [bR] at h;cases h
 |vw nm s off n sz=>simp only [bR,Option.some.injEq,Prod.mk.injEq] at h;obtain ⟨rfl,rfl,rfl⟩:=h;simp [bf] at hp
 |clo f sh cs=>simp only [bR,Option.some.injEq,Prod.mk.injEq] at h;obtain ⟨rfl,rfl,rfl⟩:=h;simp [bf] at hp
 |e0=>simp only [bR,Option.some.injEq,Prod.mk.injEq] at h;obtain ⟨rfl,rfl,rfl⟩:=h;simp [bf] at hp
theorem j7 (hW:RW e st.H st.nx σ w):∀{cs ds:List C} {b:Bool} {vs:List Value} {p:Prop},denVs (kx e st.H st.nx σ w) vs cs->dD st cs=some (p,ds,b)->p->denVs (fL w) vs ds/\bC ds=true/\(b=false->ds=cs)
 |[],ds,b,[],p,_,h,hp=>by
  simp only [dD,Option.some.injEq,Prod.mk.injEq] at h;obtain ⟨rfl,rfl,rfl⟩:=h;exact ⟨trivial,rfl,fun _=>rfl⟩
 |[],_,_,_::_,_,hd,_,_=>hd.elim
 |_::_,_,_,[],_,hd,_,_=>hd.elim
 |c::cs,ds,b,v::vs,p,hd,h,hp=>by
  simp only [dD] at h;split at h<;>try (cases h;done)
  rename_i p1 d1 b1 p2 d2 b2 h1 h2;simp only [Option.some.injEq,Prod.mk.injEq] at h;obtain ⟨rfl,rfl,rfl⟩:=h;obtain ⟨k1,k2,k3⟩:=lZ hW hd.1 h1 hp.1;obtain ⟨m1,m2,m3⟩:=j7 hW hd.2 h2 hp.2;refine ⟨⟨k1,m1⟩,by simp [bC,k2,m2],fun hb=>?_⟩;simp only [Bool.or_eq_false_iff] at hb;rw [k3 hb.1,m3 hb.2]
theorem qy (hW:RW e st.H st.nx σ w) {x y:A1} {b:Bool} {v:Value} (hd:ar (kx e st.H st.nx σ w) v x) (h:f9 st x=some (p,y,b)) (hp:p):ar (fL w) v y/\cf y=true/\(b=false->y=x):=by
 cases x with
 |one c=>
  simp only [f9] at h;split at h<;>try (cases h;done)
  rename_i p1 d1 b1 h1;simp only [Option.some.injEq,Prod.mk.injEq] at h;obtain ⟨rfl,rfl,rfl⟩:=h;obtain ⟨k1,k2,k3⟩:=lZ hW hd h1 hp;exact ⟨k1,by simp [cf,A1.cells,bC,k2],fun hb=>by rw [k3 hb]⟩
 |agg cs=>
  simp only [f9] at h;split at h<;>try (cases h;done)
  rename_i p1 d1 b1 h1;simp only [Option.some.injEq,Prod.mk.injEq] at h;obtain ⟨rfl,rfl,rfl⟩:=h;obtain ⟨vs,g1,g2⟩:=hd;obtain ⟨k1,k2,k3⟩:=j7 hW g2 h1 hp;exact ⟨⟨vs,g1,k1⟩,k2,fun hb=>by rw [k3 hb]⟩
theorem l5 (hW:RW e st.H st.nx σ w):∀{l:List AV} {ys:List A1} {b:Bool} {vs:List Value} {p:Prop},(vs.length=l.length/\∀i (h:i<vs.length) (h':i<l.length),ak (kx e st.H st.nx σ w) vs[i] l[i])->eH st l=some (p,ys,b)->p->
  aP (fL w) vs ys/\ys.all cf=true/\(b=false->aP (kx e st.H st.nx σ w) vs ys)
 |[],ys,b,[],p,_,h,hp=>by
  simp only [eH,Option.some.injEq,Prod.mk.injEq] at h;obtain ⟨rfl,rfl,rfl⟩:=h;exact ⟨trivial,rfl,fun _=>trivial⟩
 |[],_,_,_::_,_,hd,_,_=>by simp at hd
 |_::_,_,_,[],_,hd,_,_=>by simp at hd
 | .tup _::_,_,_,_::_,_,_,h,_=>by simp [eH] at h
 | .dead::_,_,_,_::_,_,_,h,_=>by simp [eH] at h
 | .val x::l,ys,b,v::vs,p,hd,h,hp=>by
  simp only [eH] at h;split at h<;>try (cases h;done)
  rename_i p1 d1 b1 p2 d2 b2 h1 h2;simp only [Option.some.injEq,Prod.mk.injEq] at h;obtain ⟨rfl,rfl,rfl⟩:=h;have hd0:ar (kx e st.H st.nx σ w) v x:=hd.2 0 (by simp) (by simp);obtain ⟨k1,k2,k3⟩:=qy hW hd0 h1 hp.1;obtain ⟨m1,m2,m3⟩:=l5 hW (l:=l) (vs:=vs) ⟨by simpa using hd.1,fun i h h'=>hd.2 (i+1) (by simpa using h) (by simpa using h')⟩ h2 hp.2;refine ⟨⟨k1,m1⟩,by simp [k2,m2],fun hb=>?_⟩;simp only [Bool.or_eq_false_iff] at hb;exact ⟨by rw [k3 hb.1];exact hd0,m3 hb.2⟩
def kI (a:Act) (c:Call) (f:FuncId):Prop:=∃x,c.callee= .value x/\a.eval x= .func (.func f) #[] #[]
theorem j8 {c:Call} {f:FuncId} (hop:o.op= .call c) (hcal:kI a c f) (hf:kG P f):(execOp a.eval o).run P w= .ok (.enter f (c.args.toList.map a.eval).toArray) w:=by
 obtain ⟨fn,hf1,hf2,hf3⟩:=hf;obtain ⟨callee,args,argTypes⟩:=c;obtain ⟨x,hx1,hx2⟩:=hcal;simp only at hx1;subst hx1;have hbn:¬fn.body=none:=fun h=>by rw [h] at hf3;cases hf3
 simp only [execOp,hop,Sem.run_bind,resolve,hx2,Deferred.ofValue];have e1:Array.map a.eval args=(List.map a.eval args.toList).toArray:=by rw [←Array.toList_map,Array.toArray_toList]
 simp [invoke,callFunc,hf1,hf2,hbn,e1]
theorem qz {c:Call} {f:FuncId} (hr:Rel e k0 N st a w) (hdst:o.dst=some d) (hdN:d<N) (hop:o.op= .call c) (hcal:kI a c f)
  {ys:List A1} {b:Bool} (hs:eH st (c.args.toList.map (ev st))=some (p,ys,b)) (hp:p) {res:AV} (hc:ACall P f ys res) (hres:kF (if b then f8 else cf) res=true)
  (hK:∀a' w',Rel e k0 N ⟨up st.tm d res,st.H,st.nx,st.nb⟩ a' w'->FL w w'->K a' w'):o.wp P a w K Q:=by
 obtain ⟨σ,h1,h2,h3⟩:=hr.ex;obtain ⟨k1,k2,k3⟩:=l5 h1 (vs:=c.args.toList.map a.eval) (by
  refine ⟨by simp,fun i h h'=>?_⟩;simp only [List.getElem_map];exact ao h2 _) hs hp
 obtain ⟨hf,hc⟩:=hc;have hrun:=j8 (w:=w) hop hcal hf;have key:∀(T:Nat->Prop),(∀b,T b->b<w.heap.size)->aP (kIn w T w) (c.args.toList.map a.eval) ys->(∀v w',Below w.heap.size w w'->ak (kIn w T w') v res->ak (kx e st.H st.nx σ w') v res)->o.wp P a w K Q:=by
  intro T hT hargs hout;unfold Oper.wp;rw [hrun];refine (hc w T _ hT hargs).mono fun ex w' hex=>?_
  obtain ⟨v,rfl,hb,hv⟩:=hex;obtain ⟨q1,q2⟩:=h1.keep (cy hb);show K (a.put o.dst v) w';rw [hdst];exact hK _ _ (hr.put q1 h2 h3 q2 (hout v w' hb hv) d hdN) (FL.of_below hb)
 cases b with
 |true=>
  refine key (fun b=>b<w.heap.size) (fun _ h=>h) k1 fun v w' _ hv=>gJ (by simpa using hres) hv
 |false=>
  refine key (kx e st.H st.nx σ w).S (fun b hb=>hb.2.1) ?_ fun v w' hb hv=>?_
  ·exact di (κ:=kx e st.H st.nx σ w) (κ':=kIn w (kx e st.H st.nx σ w).S w) (fun b hb=>⟨⟨.inl hb,hb.2.1,fun _ _ h=>by cases h⟩,rfl⟩) k2 (k3 rfl)
  refine gI (κ:=kIn w (kx e st.H st.nx σ w).S w') (κ':=kx e st.H st.nx σ w') (fun b hbS=>⟨?_,rfl⟩) (by simpa using hres) hv;obtain ⟨h5,h6,_⟩:=hbS;rcases h5 with h5|h5
  ·have h5':(kx e st.H st.nx σ w).S b:=h5;exact ⟨h5'.1,h6,h5'.2.2⟩
  refine ⟨.inr (Nat.le_trans h1.size h5),h6,fun nm B hB hob=>?_⟩;have:=(h1.lt hB hob).2;have h5':w.heap.size<=b:=h5;omega
end
def sX (ag:Bool) (sz off:Nat) (cs:List C):Option A1:=
 if ag then some (.agg ((cs.drop off).take sz)) else (cs[off]?).map .one
theorem qA {ag:Bool} {sz off:Nat} {cs:List C} {a:A1} (h:sX ag sz off cs=some a):cut ag sz off cs= .val a:=by
 unfold sX at h;unfold cut;cases ag with
 |true=>simp at h;subst h;rfl
 |false=>
  simp only [Bool.false_eq_true,if_false,Option.map_eq_some_iff] at h;obtain ⟨c,h1,rfl⟩:=h;simp [h1]
def l6 (P:Program) (st:St):ResultVar->Option (Prop×A1)
 | .tmp t=>match st.tm t with
  | .val a=>some (True,a)
  |_=>none
 | .cell t ty=>match st.tm t,ldT P ty with
  | .val (.one (.ptr nm s off)),some (ag,sz)=>match st.H nm with
   |some B=>match sX ag sz off B.cs with
    |some a=>some (B.st=s/\off+sz<=B.cs.length/\(ag=true∨sz=1),a)
    |none=>none
   |none=>none
  |_,_=>none
def m6:List A1->AV
 |[a]=> .val a
 |l=> .tup l
def fM:Nat->List A1->Nat->AV
 |_,[]=>fun _=> .dead
 |k,a::l=>up (fM (k+1) l) k (.val a)
def m7 (tmps:Array Value):ResultVar->Sem Value
 | .tmp t=>pure (tmps.getD t undef)
 | .cell b t=>do loadVar t (←asAddr (tmps.getD b undef))
theorem m8 (fn:Func) (tmps:Array Value):results fn tmps=(do let vs ←fn.results.mapM (m7 tmps);pure (if h:vs.size=1 then vs[0] else .tuple vs)):=by
 unfold results;congr 1
section
variable {P : Program} {e : En} {k0 : Kx} {N : Nat} {st st' : St} {a : Act} {w : World} {σ : Nat → Value}
theorem ot (hW:RW e st.H st.nx σ w) (ht:∀t,ak (kx e st.H st.nx σ w) (a.tmps.getD t undef) (st.tm t)) {r:ResultVar} {p:Prop} {x:A1} (h:l6 P st r=some (p,x)) (hp:p):
  ∃v,(m7 a.tmps r).run P w= .ok v w/\ar (kx e st.H st.nx σ w) v x:=by
 cases r with
 |tmp t=>
  simp only [l6] at h;split at h<;>try (cases h;done)
  rename_i y hy;simp only [Option.some.injEq,Prod.mk.injEq] at h;obtain ⟨rfl,rfl⟩:=h;have:=ht t;rw [hy] at this;exact ⟨_,rfl,this⟩
 |cell t ty=>
  simp only [l6] at h;split at h<;>try (cases h;done)
  rename_i nm s off ag sz hy hl;split at h<;>try (cases h;done)
  rename_i B hB;split at h<;>try (cases h;done)
  rename_i y hc;simp only [Option.some.injEq,Prod.mk.injEq] at h;obtain ⟨rfl,rfl⟩:=h;obtain ⟨hs,hk,ha⟩:=hp;have h0:=ht t;rw [hy] at h0;obtain ⟨b,h1,h2,xs,h3,h4⟩:=dw hW h0 hB hs;obtain ⟨v,h5,h6⟩:=kA (P:=P) (w:=w) (b:=b) (off:=0) hl h4 hk ha (fun j u hu=>by have:=h3.cells h1 j u hu;rwa [cz] at this);rw [qA hc] at h6;refine ⟨v,?_,h6⟩;have:=h5 w (FL.refl w);rw [Nat.zero_add] at this;simp only [Instr.loadAt,Instr.sureAddr,Sem.run_bind,Sem.run_pure,Result.andThen_ok] at this;simp only [m7,h2,asAddr,Sem.run_bind,Sem.run_pure,Result.andThen_ok,this]
theorem l7 {κ:Kx}:∀(l:List A1) (vs:List Value) (k:Nat),aP κ vs l->∀t,ak κ (if k<=t then vs.getD (t-k) undef else undef) (fM k l t)
 |[],[],k,_,t=>trivial
 |[],_::_,_,h,_=>h.elim
 |_::_,[],_,h,_=>h.elim
 |x::l,v::vs,k,h,t=>by
  simp only [fM];by_cases ht:t=k
  ·subst ht;rw [aO];show ar κ _ x;simpa using h.1
  rw [bM _ _ ht];have:=l7 l vs (k+1) h.2 t;by_cases hk:k<=t
  ·rw [if_pos (by omega)] at this;rw [if_pos hk];rw [show t-k=(t-(k+1))+1 by omega];simpa using this
  rw [if_neg (by omega)] at this;rw [if_neg hk];exact this
end
def ig (e:En) (k0:Kx) (N:Nat) (Q:Exit->St->Prop) (ex:Exit) (a:Act) (w:World):Prop:=(∀c,ex≠ .panic c)/\∃st,Q ex st/\Rel e k0 N st a w
def Awp (P:Program) (e:En) (k0:Kx) (N:Nat) (c:Code) (Q:Exit->St->Prop) (st:St):Prop:=∀a w,Rel e k0 N st a w->c.wp P (ig e k0 N Q) a w
def gK (P:Program) (st:St):List ResultVar->Option (Prop×List A1)
 |[]=>some (True,[])
 |r::l=>match l6 P st r,gK P st l with
  |some (p,a),some (q,Cf)=>some (p/\q,a::Cf)
  |_,_=>none
def ja (P:Program) (Rl:List ResultVar) (R:AV->Hp->Nat->Prop) (st:St):Prop:=
 match gK P st Rl with
 |some (p,l)=>p/\R (m6 l) st.H st.nx
 |none=>False
def ArI (P:Program) (Rl:List ResultVar) (R:AV->Hp->Nat->Prop):Exit->St->Prop
 | .normal,st=>ja P Rl R st
 | .ret,st=>ja P Rl R st
 |_,_=>False
def ACallI (P:Program) (f:FuncId) (args:List A1) (H:Hp) (nx:Nat) (R:AV->Hp->Nat->Prop):Prop:=
 kG P f/\∀(e:En) (σ:Nat->Value) (w:World) (vs:List Value),RW e H nx σ w->aP (kx e H nx σ w) vs args->
  Calls P f vs.toArray w fun ex w'=>∃v res H' nx' σ',ex= .returned v/\RW e H' nx' σ' w'/\Ext (kx e H nx σ w) (kx e H' nx' σ' w')/\ak (kx e H' nx' σ' w') v res/\R res H' nx'
def gL:List AV->Option (List A1)
 |[]=>some []
 | .val a::l=>(gL l).map (a::·)
 |_=>none
section
variable {P : Program} {e : En} {k0 : Kx} {N : Nat} {st st' : St} {a : Act} {w : World} {σ : Nat → Value} {o : Oper} {p : Prop} {x : AV} {d : Nat} {K : Act → World → Prop} {Q : Exit → Act → World → Prop}
theorem iG {κ:Kx}:∀{l:List AV} {ys:List A1} {vs:List Value},(vs.length=l.length/\∀i (h:i<vs.length) (h':i<l.length),ak κ vs[i] l[i])->gL l=some ys->aP κ vs ys
 |[],ys,[],_,h=>by simp [gL] at h;subst h;trivial
 |[],_,_::_,hd,_=>by simp at hd
 |_::_,_,[],hd,_=>by simp at hd
 | .val x::l,ys,v::vs,hd,h=>by
  simp only [gL,Option.map_eq_some_iff] at h;obtain ⟨zs,h1,rfl⟩:=h;exact ⟨hd.2 0 (by simp) (by simp),iG (l:=l) ⟨by simpa using hd.1,fun i h h'=>hd.2 (i+1) (by simpa using h) (by simpa using h')⟩ h1⟩
 | .tup _::_,_,_::_,_,h=>by simp [gL] at h
 | .dead::_,_,_::_,_,h=>by simp [gL] at h
theorem dY {κ:Kx}:∀{vs:List Value} {l:List A1},aP κ vs l->vs.length=l.length
 |[],[],_=>rfl
 |_::_,_::_,h=>congrArg (·+1) (dY h.2)
 |[],_::_,h=>h.elim
 |_::_,[],h=>h.elim
theorem dZ {κ:Kx} {vs:List Value} {args:List A1} {n:Nat} (hd:aP κ vs args) (hn:args.length<=n):
  (∀t,ak κ ((vs.toArray++Array.replicate (n-vs.toArray.size) undef).getD t undef) (fM 0 args t))/\(vs.toArray++Array.replicate (n-vs.toArray.size) undef).size=n:=by
 have hlen:=dY hd;refine ⟨fun t=>?_,by simp;omega⟩;have:=l7 args vs 0 hd t;simp only [Nat.zero_le,if_true,Nat.sub_zero] at this;have e1:(vs.toArray++Array.replicate (n-vs.toArray.size) undef).getD t undef=vs.getD t undef:=by
  rw [Array.getD_eq_getD_getElem?,List.getD_eq_getElem?_getD];rcases Nat.lt_or_ge t vs.length with ht|ht
  ·rw [Array.getElem?_append_left (by simpa using ht)];simp
  rw [Array.getElem?_append_right (by simpa using ht),List.getElem?_eq_none ht];simp only [Array.getElem?_replicate];split<;>rfl
 rw [e1];exact this
theorem kJ (hW:RW e st.H st.nx σ w) (ht:∀t,ak (kx e st.H st.nx σ w) (a.tmps.getD t undef) (st.tm t)):∀{l:List ResultVar} {p:Prop} {xs:List A1},gK P st l=some (p,xs)->p->
  ∃vs,(l.mapM (m7 a.tmps)).run P w= .ok vs w/\aP (kx e st.H st.nx σ w) vs xs
 |[],p,xs,h,_=>by
  simp only [gK,Option.some.injEq,Prod.mk.injEq] at h;obtain ⟨rfl,rfl⟩:=h;exact ⟨[],rfl,trivial⟩
 |r::l,p,xs,h,hp=>by
  simp only [gK] at h;split at h<;>try (cases h;done)
  rename_i p1 a1 q Cf h1 h2;simp only [Option.some.injEq,Prod.mk.injEq] at h;obtain ⟨rfl,rfl⟩:=h;obtain ⟨v,k1,k2⟩:=ot hW ht h1 hp.1;obtain ⟨vs,k3,k4⟩:=kJ hW ht h2 hp.2;refine ⟨v::vs,?_,k2,k4⟩;rw [List.mapM_cons];simp only [Sem.run_bind,k1,k3,Result.andThen_ok,Sem.run_pure]
theorem kK {κ:Kx} {fn:Func} {tmps:Array Value} {vs:List Value} {l:List A1} (k1:(fn.results.toList.mapM (m7 tmps)).run P w= .ok vs w) (k2:aP κ vs l):∃v,(results fn tmps).run P w= .ok v w/\ak κ v (m6 l):=by
 have hm:(fn.results.mapM (m7 tmps)).run P w= .ok vs.toArray w:=by
  rw [Array.mapM_eq_mapM_toList];simp only [Sem.run_map,k1,Result.andThen_ok]
 have hlen:=dY k2;have hr:(results fn tmps).run P w= .ok (if h:vs.toArray.size=1 then vs.toArray[0] else .tuple vs.toArray) w:=by
  rw [m8,Sem.run_bind,hm];rfl
 refine ⟨_,hr,?_⟩;match l,vs,k2,hlen with
 |[x],[v],k2,_=>exact k2.1
 |[],[],k2,_=>exact ⟨[],rfl,trivial⟩
 |x::y::l,v::u::vs,k2,_=>exact ⟨v::u::vs,by simp,k2⟩
theorem fb {f : FuncId} {fn : Func} {c : Code} {args : List A1} {H : Hp} {nx : Nat} {R : AV → Hp → Nat → Prop} (nb : Nat) (hf : P.funcs[f]? = some fn) (hb : fn.body = some c) (hn : fn.name ≠ "runtime.NumGoroutine") {N : Nat} (hNt : fn.ntmps = N) (hN : args.length ≤ N)
    {Rl : List ResultVar} (hR : fn.results.toList = Rl) (h : ∀ e k0, Awp P e k0 N c (ArI P Rl R) ⟨fM 0 args, H, nx, nb⟩) : ACallI P f args H nx R := by
  subst hNt hR
  refine ⟨⟨fn, hf, hn, by rw [hb]; rfl⟩, fun e σ w vs h1 hargs => ?_⟩
  obtain ⟨t1, t2⟩ := dZ (n := fn.ntmps) hargs hN
  have hrel : Rel e (kx e H nx σ w) fn.ntmps ⟨fM 0 args, H, nx, nb⟩ { tmps := vs.toArray ++ Array.replicate (fn.ntmps - vs.toArray.size) undef, defers := [] } w :=
    ⟨⟨σ, h1, t1, Ext.refl _⟩, rfl, t2⟩
  have fin : ∀ st' a' w', Rel e (kx e H nx σ w) fn.ntmps st' a' w' → ja P fn.results.toList R st' →
      a'.defers = [] ∧ ∃ v, (results fn a'.tmps).run P w' = .ok v w' ∧ ∃ v' res H' nx' σ', Ending.returned v = .returned v' ∧ RW e H' nx' σ' w' ∧ Ext (kx e H nx σ w) (kx e H' nx' σ' w') ∧ ak (kx e H' nx' σ' w') v' res ∧ R res H' nx' := by
    intro st' a' w' hr' hq
    obtain ⟨σ', g1, g2, g3⟩ := hr'.ex
    unfold ja at hq
    split at hq <;> try (exact hq.elim; done)
    rename_i p l hl
    obtain ⟨vs, m1, m2⟩ := kJ g1 g2 hl hq.1
    obtain ⟨v, m3, m4⟩ := kK (fn := fn) m1 m2
    exact ⟨hr'.df, v, m3, v, _, _, _, σ', rfl, g1, g3, m4, hq.2⟩
  refine calls_of_wp hf hb ?_
  refine wp_mono (h e _ _ w hrel) fun ex a' w' ⟨hp, st', hq, hr'⟩ => ?_
  cases ex with
  | normal => exact fin st' a' w' hr' hq
  | ret => exact fin st' a' w' hr' hq
  | panic c => exact (hp c rfl).elim
  | exit i => exact hq.elim
  | goto l => exact hq.elim
  | outgrown => exact hq.elim
theorem pr {c:Call} {f:FuncId} (hr:Rel e k0 N st a w) (hdst:o.dst=some d) (hdN:d<N) (hop:o.op= .call c) (hcal:kI a c f)
  {ys:List A1} (hs:gL (c.args.toList.map (ev st))=some ys) {R:AV->Hp->Nat->Prop} (hc:ACallI P f ys st.H st.nx R)
  (hK:∀res H nx,R res H nx->∀a' w',Rel e k0 N ⟨up st.tm d res,H,nx,st.nb⟩ a' w'->K a' w'):o.wp P a w K Q:=by
 obtain ⟨σ,h1,h2,h3⟩:=hr.ex;obtain ⟨hf,hc⟩:=hc;have hargs:=iG (κ:=kx e st.H st.nx σ w) (vs:=c.args.toList.map a.eval) (by
  refine ⟨by simp,fun i h h'=>?_⟩;simp only [List.getElem_map];exact ao h2 _) hs
 have hrun:=j8 (w:=w) hop hcal hf;unfold Oper.wp;rw [hrun];refine (hc e σ w _ h1 hargs).mono fun ex w' hex=>?_
 obtain ⟨v,res,H',nx',σ',rfl,g1,g2,g3,g4⟩:=hex;show K (a.put o.dst v) w';rw [hdst];exact hK _ _ _ g4 _ _ (hr.put g1 h2 h3 g2 g3 d hdN)
end
def ba (ops:Array Oper):List (Option (Nat×Bool)):=
 ops.toList.map fun o=>match o.guard with
  |none=>none
  |some (j,want)=>some (((ops[j]?).bind (·.dst)).getD 1000000,want)
def gd (g:Option (Nat×Bool)) (st:St):Option Bool:=
 match g with
 |none=>some true
 |some (s,want)=>match st.tm s with
  | .val (.one (.lit (.bool b)))=>some (b==want)
  | .tup _=>some false
  |_=>none
def putO (st:St) (dst:Option Nat) (x:AV):St:=
 match dst with
 |some d=>⟨up st.tm d x,st.H,st.nx,st.nb⟩
 |none=>st
def orS (a b:Option (Prop×AV)):Option (Prop×AV):=
 match a with
 |some r=>some r
 |none=>b
def bB (P:Program) (st:St) (op:Op):Option (Prop×AV):=
 match op with
 | .build t parts=>dh P st t parts
 | .lookup t m k ok=>dM P st (.lookup t m k ok)
 | .slice t x lo hi none=>orS (eG P st t x lo hi) (ib P st (.slice t x lo hi none))
 | .call {callee:= .builtin .cap,args,argTypes}=>eF P st args argTypes
 | .call {callee:= .builtin .min,args,..}=>dX false st args
 | .call {callee:= .builtin .max,args,..}=>dX true st args
 |op=>ib P st op
def dE:Op->Bool
 | .store .. =>true
 | .mapUpdate .. =>true
 | .call {callee:= .builtin .append,..}=>true
 |_=>false
def aZ (K:St->Prop) (st:St):Prop:=K st
def fN (r:Option (Prop×AV)) (d N:Nat) (K:St->Prop) (st:St):Prop:=
 match r with
 |some (p,x)=>d<N/\p/\K ⟨up st.tm d x,st.H,st.nx,st.nb⟩
 |none=>False
def eI (r:Option (Prop×St)) (d N:Nat) (K:St->Prop):Prop:=
 match r with
 |some (p,st')=>d<N/\p/\K st'
 |none=>False
def ov (r1 r2:Option (Prop×St)) (d N:Nat) (K:St->Prop):Prop:=
 match r1 with
 |some x=>eI (some x) d N K
 |none=>eI r2 d N K
def ox (r1:Option (Prop×St)) (r2:Option (Prop×AV)) (d N:Nat) (K:St->Prop) (st:St):Prop:=
 match r1 with
 |some x=>eI (some x) d N K
 |none=>fN r2 d N K st
def qC (r:Option (Prop×St)) (K:St->Prop):Prop:=
 match r with
 |some (p,st')=>p/\K st'
 |none=>False
def sY (P:Program) (f:FuncId) (r:Option (Prop×List A1×Bool)) (d N:Nat) (K:St->Prop) (st:St):Prop:=
 match r with
 |some (p,ys,b)=>d<N/\p/\∃res,ACall P f ys res/\kF (if b then f8 else cf) res=true/\aZ K ⟨up st.tm d res,st.H,st.nx,st.nb⟩
 |none=>False
def qD (R:AV->Hp->Nat->Prop) (d:Nat) (K:St->Prop) (tm:Nat->AV) (nb:Nat):Prop:=∀res H nx,R res H nx->K ⟨up tm d res,H,nx,nb⟩
def sZ (P:Program) (f:FuncId) (r:Option (List A1)) (d N:Nat) (K:St->Prop) (st:St):Prop:=
 match r with
 |some ys=>d<N/\∃R,ACallI P f ys st.H st.nx R/\qD R d K st.tm st.nb
 |none=>False
def ez:List Nat->Nat->Bool
 |[],_=>false
 |x::l,d=>x==d||ez l d
def qE (P:Program) (f:FuncId) (inl:Bool) (xs:List AV) (d N:Nat) (K:St->Prop) (st:St):Prop:=
 match inl with
 |true=>sZ P f (gL xs) d N K st
 |false=>sY P f (eH st xs) d N K st
def vX:AV->Option FuncId
 | .val (.one (.lit (.func (.func f) fi ca)))=>if fi= #[]/\ca= #[] then some f else none
 |_=>none
def vY (P:Program) (f:Option FuncId) (inl:Bool) (xs:List AV) (d N:Nat) (K:St->Prop) (st:St):Prop:=
 match f with
 |some f=>qE P f inl xs d N K st
 |none=>False
def cO (P:Program) (N:Nat) (I:List Nat) (st:St) (o:Oper) (K:St->Prop):Prop:=
 match o.op,o.dst with
 | .call {callee:= .value x,args,..},some d=>vY P (vX (ev st x)) (ez I d) (args.toList.map (ev st)) d N K st
 | .call {callee:= .builtin .append,args,argTypes},some d=>ov (qx P st d args argTypes) (eff P st d (.call {callee:= .builtin .append,args,argTypes})) d N K
 | .slice t x lo hi none,some d=>ox (om P st d t x lo hi) (bB P st (.slice t x lo hi none)) d N K st
 | .store t x y,none=>qC (eff P st 0 (.store t x y)) K
 | .mapUpdate t m k v,none=>qC (iY P st t m k v) K
 | .makeMap t none,some d=>eI (ol P st d t) d N K
 | .alloc t,some d=>eI (eff P st d (.alloc t)) d N K
 | .box t x,some d=>eI (eff P st d (.box t x)) d N K
 | .buildSlice t l ps,some d=>eI (eff P st d (.buildSlice t l ps)) d N K
 | .makeSlice t l c,some d=>eI (eff P st d (.makeSlice t l c)) d N K
 |op,some d=>fN (bB P st op) d N K st
 |_,none=>False
section
variable {P : Program} {e : En} {k0 : Kx} {N : Nat} {st st' : St} {a : Act} {w : World} {σ : Nat → Value} {o : Oper} {p : Prop} {x : AV} {d : Nat} {K : Act → World → Prop} {Q : Exit → Act → World → Prop}
theorem fd (hW:RW e st.H st.nx σ w) (ht:∀t,ak (kx e st.H st.nx σ w) (a.tmps.getD t undef) (st.tm t)) (h:bB P st o.op=some (p,x)) (hp:p):Yl P o a w (kx e st.H st.nx σ w) x:=by
 unfold bB at h;split at h
 ·rename_i hop;exact jO ht hop h hp
 ·rename_i hop;rw [←hop] at h;exact f5 hW ht h hp
 ·rename_i hop;unfold orS at h;split at h
  ·rename_i hn;obtain rfl:=Option.some.inj h;exact lX ht hop hn hp
  exact lS hW ht (by rw [hop];exact h) hp
 ·rename_i hop;exact lW ht hop h
 ·rename_i hop;exact i6 false ht hop h
 ·rename_i hop;exact i6 true ht hop h
 exact lS hW ht h hp
theorem l8 (hr:Rel e k0 N st a w) (hdst:o.dst=some d) (hdN:d<N) (h:bB P st o.op=some (p,x)) (hp:p) (hK:∀a' w',Rel e k0 N ⟨up st.tm d x,st.H,st.nx,st.nb⟩ a' w'->FL w w'->K a' w'):o.wp P a w K Q:=by
 obtain ⟨σ,h1,h2,h3⟩:=hr.ex;obtain ⟨v,k1,k2⟩:=fd h1 h2 h hp;refine bJ (k1 w (.inl (FL.refl w))) ?_;rw [hdst];exact hK _ _ (hr.put h1 h2 h3 (Ext.refl _) k2 d hdN) (FL.refl w)
theorem eJ {I : List Nat} {S : St → Prop} (hr : Rel e k0 N st a w) (h : cO P N I st o S) (hK : ∀ st' a' w', S st' → Rel e k0 N st' a' w' → (I = [] → dE o.op = false → FL w w') → K a' w') : o.wp P a w K Q := by
  unfold cO at h
  split at h <;> try (exact h.elim; done)
  · rename_i x args tys d hop hdst
    unfold vY at h
    split at h <;> try (exact h.elim; done)
    rename_i f hfn
    have hg : kI a { callee := .value x, args := args, argTypes := tys } f := by
      obtain ⟨σ, _, h2, _⟩ := hr.ex
      have h3 := ao h2 x
      unfold vX at hfn
      split at hfn <;> try (cases hfn; done)
      rename_i g fi ca hev
      split at hfn <;> try (cases hfn; done)
      rename_i hc
      obtain rfl := Option.some.inj hfn
      rw [hev] at h3
      simp only [ak, ar, den] at h3
      exact ⟨x, rfl, by rw [h3.1, hc.1, hc.2]⟩
    unfold qE at h
    split at h
    · rename_i hin
      unfold sZ at h
      split at h <;> try (exact h.elim; done)
      rename_i ys hs
      obtain ⟨hd, R, hc, hL⟩ := h
      refine pr hr hdst hd hop hg hs hc fun res H nx hR a' w' h1 => hK _ a' w' (hL res H nx hR) h1 fun hI => ?_
      subst hI
      simp [ez] at hin
    unfold sY at h
    split at h <;> try (exact h.elim; done)
    rename_i p ys b hs
    obtain ⟨hd, hp, res, hc, hres, hS⟩ := h
    exact qz hr hdst hd hop hg hs hp hc hres fun a' w' h1 h2 => hK _ a' w' hS h1 fun _ _ => h2
  · rename_i args tys d hop hdst
    unfold ov at h
    split at h
    · rename_i x hz
      obtain ⟨p, st'⟩ := x
      obtain ⟨hd, hp, hS⟩ := h
      refine lY (st' := st') hr hdst hd hop hz hp fun a' w' h1 => hK _ a' w' hS h1 fun _ hw => ?_
      rw [hop] at hw
      simp [dE] at hw
    unfold eI at h
    split at h <;> try (exact h.elim; done)
    rename_i p st' he
    obtain ⟨hd, hp, hS⟩ := h
    have he2 := he
    simp only [eff] at he2
    split at he2 <;> try (cases he2; done)
    rename_i s y t t' ha hty
    have hae : args = #[s, y] := Array.toList_inj.1 ha
    have hte : tys = #[t, t'] := Array.toList_inj.1 hty
    refine pp (st' := st') hr hdst hd hop rfl hae hte (by rw [hop]; exact he) hp fun a' w' h1 => hK _ a' w' hS h1 fun _ hw => ?_
    rw [hop] at hw
    simp [dE] at hw
  · rename_i t x lo hi d hop hdst
    unfold ox at h
    split at h
    · rename_i x hz
      obtain ⟨p, st'⟩ := x
      obtain ⟨hd, hp, hS⟩ := h
      exact pq (st' := st') hr hdst hd hop hz hp fun a' w' h1 h2 => hK _ a' w' hS h1 fun _ _ => h2
    unfold fN at h
    split at h <;> try (exact h.elim; done)
    rename_i p x he
    obtain ⟨hd, hp, hS⟩ := h
    exact l8 hr hdst hd (by rw [hop]; exact he) hp fun a' w' h1 h2 => hK _ a' w' hS h1 fun _ _ => h2
  · rename_i t x y hop hdst
    unfold qC at h
    split at h <;> try (exact h.elim; done)
    rename_i p st' he
    obtain ⟨hp, hS⟩ := h
    refine lU (d := 0) (st' := st') hr hdst hop (by rw [hop]; exact he) hp fun a' w' h1 => hK _ a' w' hS h1 fun _ hw => ?_
    rw [hop] at hw
    simp [dE] at hw
  · rename_i t m k v hop hdst
    unfold qC at h
    split at h <;> try (exact h.elim; done)
    rename_i p st' he
    obtain ⟨hp, hS⟩ := h
    refine qw (st' := st') hr hdst hop he hp fun a' w' h1 => hK _ a' w' hS h1 fun _ hw => ?_
    rw [hop] at hw
    simp [dE] at hw
  · rename_i t d hop hdst
    unfold eI at h
    split at h <;> try (exact h.elim; done)
    rename_i p st' he
    obtain ⟨hd, hp, hS⟩ := h
    exact vp (st' := st') hr hdst hd hop he fun a' w' h1 h2 => hK _ a' w' hS h1 fun _ _ => h2
  all_goals
    rename_i hop hdst
    first
      | unfold eI at h
      | unfold fN at h
    split at h <;> try (exact h.elim; done)
    first
      | (rename_i p st' he
         obtain ⟨hd, hp, hS⟩ := h
         exact qv (st' := st') hr hdst hd (by rw [hop]; exact he) hp (by rw [hop]; intro c; simp) (by rw [hop]; intro t x y; simp) fun a' w' h1 h2 => hK _ a' w' hS h1 fun _ _ => h2)
      | (rename_i p x he
         obtain ⟨hd, hp, hS⟩ := h
         exact l8 hr (by assumption) hd he hp fun a' w' h1 h2 => hK _ a' w' hS h1 fun _ _ => h2)
theorem cg {ops : Array Oper} {b : Bool} {g : Option (Nat × Bool)} (hr : Rel e k0 N st a w) (hN : N < 1000000) (hgo : g = match o.guard with
    | none => none
    | some (j, want) => some (((ops[j]?).bind (·.dst)).getD 1000000, want)) (h : gd g st = some b) : Region.wanted o (yielded ops a.tmps) = b := by
  unfold gd at h
  split at h
  · obtain rfl := Option.some.inj h
    cases hg : o.guard with
    | none => simp [Region.wanted, hg]
    | some q => rw [hg] at hgo; cases hgo
  rename_i s want
  cases hg : o.guard with
  | none => rw [hg] at hgo; cases hgo
  | some q =>
    obtain ⟨j, want'⟩ := q
    rw [hg] at hgo
    simp only [Option.some.injEq, Prod.mk.injEq] at hgo
    obtain ⟨hs, rfl⟩ := hgo
    split at h <;> try (cases h; done)
    rotate_left
    · rename_i l ht
      obtain rfl := Option.some.inj h
      obtain ⟨σ, _, h2, _⟩ := hr.ex
      have h3 := h2 s
      rw [ht] at h3
      obtain ⟨vs, h4, _⟩ := h3
      have hy : ∀ b, yielded ops a.tmps j ≠ some b := fun b hb => by
        cases hd : (ops[j]?).bind (·.dst) with
        | none => simp [yielded, hd] at hb
        | some s' =>
          have hss : s' = s := by rw [hd] at hs; simpa using hs.symm
          rw [hss] at hd
          by_cases hlt : s < a.tmps.size
          · have h5 : a.tmps[s]? = some (.tuple vs.toArray) := by
              simp only [Array.getD, hlt, dif_pos] at h4
              simp [hlt]; exact h4
            simp [yielded, hd, h5] at hb
          have h5 : a.tmps[s]? = none := Array.getElem?_eq_none (Nat.not_lt.1 hlt)
          simp [yielded, hd, h5] at hb
      simp only [Region.wanted, hg]
      cases hyy : yielded ops a.tmps j with
      | none => rfl
      | some b => exact absurd hyy (hy b)
    rename_i t ht
    obtain rfl := Option.some.inj h
    obtain ⟨σ, _, h2, _⟩ := hr.ex
    have h3 := h2 s
    rw [ht] at h3
    simp only [ak, ar, den] at h3
    have hlt : s < a.tmps.size := by
      rcases Nat.lt_or_ge s a.tmps.size with h | h
      · exact h
      have := h3.1
      simp [Array.getD, Nat.not_lt.2 h, undef] at this
    have hsz := hr.sz
    have hds : (ops[j]?).bind (·.dst) = some s := by
      cases hd : (ops[j]?).bind (·.dst) with
      | none => rw [hd] at hs; simp at hs; omega
      | some s' => rw [hd] at hs; simp at hs; rw [hs]
    have hv : a.tmps[s]? = some (.bool t) := by
      have := h3.1
      simp only [Array.getD, hlt, dif_pos] at this
      simp [hlt]; exact this
    simp [Region.wanted, hg, yielded, hds, hv]
theorem Rel.dead (hr:Rel e k0 N st a w) (dst:Option Nat):Rel e k0 N (putO st dst (.tup [])) (a.put dst undef) w:=by
 obtain ⟨σ,h1,h2,h3⟩:=hr.ex;cases dst with
 |none=>exact hr
 |some d=>
  by_cases hd:d<N
  ·exact hr.put h1 h2 h3 (Ext.refl _) (x:= .tup []) ⟨[],rfl,trivial⟩ d hd
  refine ⟨⟨σ,h1,fun t=>?_,h3⟩,hr.df,by simp [Act.put,hr.sz]⟩;have hsz:=hr.sz;have:a.tmps.setIfInBounds d undef=a.tmps:=by
   apply Array.ext
   ·simp
   intro i h4 h5;rw [Array.getElem_setIfInBounds (by simpa using h4)];rw [if_neg (by omega)]
  simp only [Act.put,this,putO];by_cases htd:t=d
  ·subst htd;rw [aO];exact ⟨[],by simp [Array.getD,hsz,hd,undef],trivial⟩
  rw [bM _ _ htd];exact h2 t
end
def AL (P:Program) (N:Nat) (I:List Nat) (Q:St->Prop):List Oper->List (Option (Nat×Bool))->St->Prop
 |o::os,g::gs,st=>match gd g st with
  |some true=>cO P N I st o (AL P N I Q os gs)
  |some false=>AL P N I Q os gs (putO st o.dst (.tup []))
  |none=>False
 |[],_,st=>Q st
 |_,_,_=>False
inductive SchO where
 |nil:SchO
 |take:Oper->Option (Nat×Bool)->SchO->SchO
 |eff:Oper->Option (Nat×Bool)->SchO->SchO
 |two:Oper->Oper->SchO->SchO->SchO
def SchO.fits (ops:Array Oper) (gs:List (Option (Nat×Bool))):SchO->Sch->Prop
 | .nil,.nil=>True
 | .take o g r,.cons i true s=>ops[i]? =some o/\gs[i]? =some g/\SchO.fits ops gs r s
 | .eff o g r,.cons i false s=>ops[i]? =some o/\gs[i]? =some g/\SchO.fits ops gs r s
 | .two oi oj r r',.two i j s s'=>ops[i]? =some oi/\gs[i]? =some none/\ops[j]? =some oj/\gs[j]? =some none/\SchO.fits ops gs r s/\SchO.fits ops gs r' s'
 |_,_=>False
def SchO.mk (ops:Array Oper) (gs:List (Option (Nat×Bool))):Sch->Option SchO
 | .nil=>some .nil
 | .cons i b r=>match ops[i]?,gs[i]?,SchO.mk ops gs r with
  |some o,some g,some r'=>some (if b then .take o g r' else .eff o g r')
  |_,_,_=>none
 | .two i j r s=>match ops[i]?,gs[i]?,ops[j]?,gs[j]?,SchO.mk ops gs r,SchO.mk ops gs s with
  |some oi,some none,some oj,some none,some r',some s'=>some (.two oi oj r' s')
  |_,_,_,_,_,_=>none
theorem SchO.mk_fits {ops:Array Oper} {gs:List (Option (Nat×Bool))}:∀{s:Sch} {r:SchO},SchO.mk ops gs s=some r->SchO.fits ops gs r s
 | .nil,r,h=>by simp [SchO.mk] at h;subst h;trivial
 | .cons i b s,r,h=>by
  simp only [SchO.mk] at h;split at h<;>try (cases h;done)
  rename_i o g r' h1 h2 h3;obtain rfl:=Option.some.inj h;cases b
  ·exact ⟨h1,h2,SchO.mk_fits h3⟩
  exact ⟨h1,h2,SchO.mk_fits h3⟩
 | .two i j s s',r,h=>by
  simp only [SchO.mk] at h;split at h<;>try (cases h;done)
  rename_i oi oj r1 r2 h1 h2 h3 h4 h5 h6;obtain rfl:=Option.some.inj h;exact ⟨h1,h2,h3,h4,SchO.mk_fits h5,SchO.mk_fits h6⟩
def AT (P:Program) (N:Nat) (Q:St->Prop):SchO->St->Prop
 | .nil,st=>Q st
 | .take o g r,st=>match gd g st with
  |some true=>match o.dst,bB P st o.op with
   |some d,some (p,x)=>d<N/\p/\AT P N Q r ⟨up st.tm d x,st.H,st.nx,st.nb⟩
   |_,_=>False
  |some false=>AT P N Q r (putO st o.dst (.tup []))
  |none=>False
 | .eff o g r,st=>match gd g st with
  |some true=>cO P N [] st o (AT P N Q r)
  |some false=>AT P N Q r (putO st o.dst (.tup []))
  |none=>False
 | .two oi oj r s,st=>cO P N [] st oi (AT P N Q r)/\cO P N [] st oj (AT P N Q s)
section
variable {P : Program} {e : En} {k0 : Kx} {N : Nat} {st st' : St} {Q : Exit → St → Prop} {ops : Array Oper}
theorem oy {I:List Nat} (hN:N<1000000):∀(l:List Oper) (gs:List (Option (Nat×Bool))) (st:St) (a:Act) (w:World),(gs=l.map fun o=>match o.guard with
  |none=>none
  |some (j,want)=>some (((ops[j]?).bind (·.dst)).getD 1000000,want))->AL P N I (Q .normal) l gs st->Rel e k0 N st a w->wpList P ops (ig e k0 N Q) l a w
 |[],_,st,a,w,_,h,hr=>by
  simp only [AL] at h;exact ⟨fun c=>by simp,st,h,hr⟩
 |o::os,[],_,_,_,hg,_,_=>by simp at hg
 |o::os,g::gs,st,a,w,hgs,h,hr=>by
  simp only [List.map_cons,List.cons.injEq] at hgs;simp only [AL] at h;split at h<;>try (exact h.elim;done)
  ·rename_i hg;refine wpList_step fun K hK=>?_
   rw [if_pos (cg hr hN hgs.1 hg)];exact eJ hr h fun st' a' w' hS hr' _=>hK _ _ (oy hN os gs st' a' w' hgs.2 hS hr')
  rename_i hg;refine wpList_step fun K hK=>?_
  rw [if_neg (by rw [cg hr hN hgs.1 hg];simp)];exact hK _ _ (oy hN os gs _ _ _ hgs.2 h (hr.dead o.dst))
def fO (ops:Array Oper) (i:Nat):Bool:=match ops[i]? with
 |some o=> !(dE o.op)
 |none=>true
theorem bA {i:Nat} {o:Oper} {g:Option (Nat×Bool)} (ho:ops[i]? =some o) (hg:(ba ops)[i]? =some g):g=match o.guard with
  |none=>none
  |some (j,want)=>some (((ops[j]?).bind (·.dst)).getD 1000000,want):=by
 unfold ba at hg;rw [List.getElem?_map,Array.getElem?_toList,ho] at hg;exact (Option.some.inj hg).symm
theorem jb (hN:N<1000000):∀(s:Sch) (r:SchO) (st:St) (a:Act) (w:World),SchO.fits ops (ba ops) r s->AT P N (Q .normal) r st->Rel e k0 N st a w->wpP P ops (ig e k0 N Q) (fO ops) s a w
 | .nil,r,st,a,w,hf,h,hr=>by
  cases r<;>simp only [SchO.fits] at hf;exact ⟨fun c=>by simp,st,h,hr⟩
 | .cons i true s,r,st,a,w,hf,h,hr=>by
  cases r<;>simp only [SchO.fits] at hf;rename_i o g r;obtain ⟨ho,hgi,hf⟩:=hf;have hgo:=bA ho hgi;simp only [AT] at h;obtain ⟨σ,h1,h2,h3⟩:=hr.ex;split at h<;>try (exact h.elim;done)
  ·rename_i hg;split at h<;>try (exact h.elim;done)
   rename_i d p x hdst hs;obtain ⟨hd,hp,hS⟩:=h;obtain ⟨v,k1,k2⟩:=fd h1 h2 hs hp;refine ⟨o,v,ho,.inl ⟨cg hr hN hgo hg,k1⟩,jb hN s r _ _ _ hf hS ?_⟩;rw [hdst];exact hr.put h1 h2 h3 (Ext.refl _) k2 d hd
  rename_i hg;exact ⟨o,undef,ho,.inr ⟨cg hr hN hgo hg,rfl⟩,jb hN s r _ _ _ hf h (hr.dead o.dst)⟩
 | .cons i false s,r,st,a,w,hf,h,hr=>by
  cases r<;>simp only [SchO.fits] at hf;rename_i o g r;obtain ⟨ho,hgi,hf⟩:=hf;have hgo:=bA ho hgi;simp only [AT] at h;show wpOp P ops _ i _ a w;unfold wpOp;simp only [ho];split at h<;>try (exact h.elim;done)
  ·rename_i hg;rw [if_pos (cg hr hN hgo hg)];exact .inl (eJ hr h fun st' a' w' hS hr' hF=>⟨fun hk=>hF rfl (by simpa [fO,ho] using hk),jb hN s r _ _ _ hf hS hr'⟩)
  rename_i hg;rw [if_neg (by rw [cg hr hN hgo hg];simp)];exact ⟨fun _=>FL.refl w,jb hN s r _ _ _ hf h (hr.dead o.dst)⟩
 | .two i j s s',r,st,a,w,hf,h,hr=>by
  cases r<;>simp only [SchO.fits] at hf;rename_i oi oj r r';obtain ⟨hi,hgi,hj,hgj,hf1,hf2⟩:=hf;have g1:Region.wanted oi (yielded ops a.tmps)=true:=cg hr hN (bA hi hgi) rfl;have g2:Region.wanted oj (yielded ops a.tmps)=true:=cg hr hN (bA hj hgj) rfl;simp only [AT] at h;obtain ⟨s1,s2⟩:=h;refine ⟨?_,?_⟩
  ·show wpOp P ops _ i _ a w;unfold wpOp;simp only [hi];rw [if_pos g1];exact .inl (eJ hr s1 fun st' a' w' hS hr' hF=>⟨fun hk=>hF rfl (by simpa [fO,hi] using hk),jb hN s r _ _ _ hf1 hS hr'⟩)
  show wpOp P ops _ j _ a w;unfold wpOp;simp only [hj];rw [if_pos g2];exact .inl (eJ hr s2 fun st' a' w' hS hr' hF=>⟨fun hk=>hF rfl (by simpa [fO,hj] using hk),jb hN s' r' _ _ _ hf2 hS hr'⟩)
theorem jc (I:List Nat) {id:Nat} {l:List Oper} {gs:List (Option (Nat×Bool))} (hl:ops.toList=l) (hg:ba ops=gs) (hN:decide (N<1000000)=true) (h:AL P N I (Q .normal) l gs st):Awp P e k0 N (.region id ops false) Q st:=fun a w hr=>by
 subst hl;exact wp_region_list (oy (of_decide_eq_true hN) _ gs _ _ _ hg.symm h hr)
theorem pu {id:Nat} (hm:P.follows .mixedOrders=true) (s:Sch) (hB:(Region.noSelect ops&&decide (s.len=ops.size)&&cM .any ops (fO ops) s (Array.replicate ops.size false))=true)
  {gs:List (Option (Nat×Bool))} (hg:ba ops=gs) {r:SchO} (hr:SchO.mk ops gs s=some r) (hN:decide (N<1000000)=true) (h:AT P N (Q .normal) r st):Awp P e k0 N (.region id ops true) Q st:=fun a w hr'=>by
 subst hg;exact iQ hm s (fO ops) hB (fun c a d v w hq=>(hq.1 c rfl).elim) (jb (of_decide_eq_true hN) s r st a _ (SchO.mk_fits hr) h hr'.drew)
def ga (R:St->Prop) (Q:Exit->St->Prop):Exit->St->Prop
 | .normal,st=>R st
 |ex,st=>Q ex st
def fP (id:Nat) (Q:Exit->St->Prop):Exit->St->Prop
 | .exit i,st=>if i=id then Q .normal st else Q (.exit i) st
 |ex,st=>Q ex st
theorem iH {x y:Code} (h:Awp P e k0 N x (ga (Awp P e k0 N y Q) Q) st):Awp P e k0 N (.seq x y) Q st:=fun a w hr=>by
 refine wp_seq (wp_mono (h a w hr) fun ex a' w' ⟨hp,st',hq,hr'⟩=>?_);cases ex with
 |normal=>exact hq a' w' hr'
 |panic c=>exact (hp c rfl).elim
 |_=>exact ⟨hp,st',hq,hr'⟩
theorem gb {c:Operand} {x y:Code} (t:Bool) (hc:ev st c= .val (.one (.lit (.bool t)))) (h1:t=true->Awp P e k0 N x Q st) (h2:t=false->Awp P e k0 N y Q st):Awp P e k0 N (.cond c x y) Q st:=fun a w hr=>by
 obtain ⟨σ,k1,k2,k3⟩:=hr.ex;have h3:=ao k2 c;rw [hc] at h3;simp only [ak,ar,den] at h3;exact wp_cond_split h3.1 (fun ht=>h1 ht a w hr) fun ht=>h2 ht a w hr
theorem l9 (h:Q .normal st):Awp P e k0 N .skip Q st:=fun a w hr=>wp_skip ⟨fun c=>by simp,st,h,hr⟩
theorem ma {id:Nat} (h:Q (.exit id) st):Awp P e k0 N (.exit id) Q st:=fun a w hr=>wp_exit ⟨fun c=>by simp,st,h,hr⟩
theorem oz (h:Q .ret st):Awp P e k0 N .ret Q st:=fun a w hr=>wp_ret ⟨fun c=>by simp,st,h,hr⟩
theorem gM {id:Nat} {c:Code} (h:Awp P e k0 N c (fP id Q) st):Awp P e k0 N (.block id c) Q st:=fun a w hr=>by
 refine wp_block (wp_mono (h a w hr) fun ex a' w' ⟨hp,st',hq,hr'⟩=>?_);cases ex with
 |exit i=>
  simp only [fP] at hq;simp only [Exit.inBlock];split
  ·rename_i hi;rw [if_pos hi] at hq;exact ⟨fun c=>by simp,st',hq,hr'⟩
  rename_i hi;rw [if_neg hi] at hq;exact ⟨fun c=>by simp,st',hq,hr'⟩
 |panic c=>exact (hp c rfl).elim
 |_=>exact ⟨hp,st',hq,hr'⟩
theorem vt (p:Nat->Prop):∀n,p n->∃m,p m/\∀k,p k->m<=k:=fun n=>by
 induction n using Nat.strongRecOn with
 |_ n ih=>
  intro h;by_cases hk:∃k,k<n/\p k
  ·obtain ⟨k,h1,h2⟩:=hk;exact ih k h1 h2
  exact ⟨n,h,fun k hk'=>Nat.le_of_not_lt fun hlt=>hk ⟨k,hlt,hk'⟩⟩
open Classical in
theorem mb {c:Code} (I:Nat->St->Prop) (n0:Nat) (h0:I n0 st) (round:∀n st,I n st->Awp P e k0 N c (ga (fun st'=>∃m,m<n/\I m st') Q) st):Awp P e k0 N (.loop c) Q st:=fun a w hr=>by
 let p:Act->World->Nat->Prop:=fun a w n=>∃st,I n st/\Rel e k0 N st a w
 let μ:Act->World->Nat:=fun a w=>if h:∃n,p a w n then Classical.choose (vt (p a w) h.choose h.choose_spec) else 0
 have hμ:∀a w n,p a w n->p a w (μ a w)/\μ a w<=n:=fun a w n hn=>by
  have hex:∃n,p a w n:=⟨n,hn⟩;have:=Classical.choose_spec (vt (p a w) hex.choose hex.choose_spec);simp only [μ,dif_pos hex];exact ⟨this.1,this.2 n hn⟩
 refine wp_loop (fun a w=>∃n,p a w n) μ ⟨n0,st,h0,hr⟩ fun a w ⟨n,hn⟩=>?_
 obtain ⟨⟨st1,hI,hr1⟩,_⟩:=hμ a w n hn;refine wp_mono (round _ st1 hI a w hr1) fun ex a' w' ⟨hp,st',hq,hr'⟩=>?_
 cases ex with
 |normal=>
  obtain ⟨m,hm,hIm⟩:=hq;exact ⟨⟨m,st',hIm,hr'⟩,Nat.lt_of_le_of_lt (hμ a' w' m ⟨st',hIm,hr'⟩).2 hm⟩
 |panic c=>exact (hp c rfl).elim
 |_=>exact ⟨hp,st',hq,hr'⟩
theorem kL {c:Code} (st2:St) (h:∀a w,Rel e k0 N st a w->Rel e k0 N st2 a w) (h2:Awp P e k0 N c Q st2):Awp P e k0 N c Q st:=fun a w hr=>h2 a w (h a w hr)
theorem mc {c:Code} {Q':Exit->St->Prop} (h:Awp P e k0 N c Q st) (hq:∀ex st,Q ex st->Q' ex st):Awp P e k0 N c Q' st:=fun a w hr=>wp_mono (h a w hr) fun ex a' w' ⟨hp,st',k,hr'⟩=>⟨hp,st',hq _ _ k,hr'⟩
end
def m9 (P:Program) (st:St):List ResultVar->Option (Prop×List A1)
 |[]=>some (True,[])
 |r::l=>match l6 P st r,m9 P st l with
  |some (p,a),some (q,Cf)=>match f9 st a with
   |some (p',b,_)=>some (p/\p'/\q,b::Cf)
   |none=>none
  |_,_=>none
def na (P:Program) (R:List ResultVar) (res:AV) (st:St):Prop:=
 match m9 P st R with
 |some (p,l)=>p/\m6 l=res
 |none=>False
def s9 (P:Program) (R:List ResultVar) (res:AV):Exit->St->Prop
 | .normal,st=>na P R res st
 | .ret,st=>na P R res st
 |_,_=>False
def ini (args:List A1):St:=⟨fM 0 args,fun _=>none,0,0⟩
section
variable {P : Program} {e : En} {k0 : Kx} {N : Nat} {st st' : St} {a : Act} {w : World} {σ : Nat → Value}
def nc (e:En) (w:World):Kx:=⟨e.w0.heap.size,e.T,w,fun _=> .slice none 0 0,fun _=>none,0⟩
theorem kM {b:Nat} {H:Hp} {nx:Nat} {σ:Nat->Value} (h:(kx e H nx σ w).S b):(nc e w).S b/\(nc e w).w.heap[b]? =(kx e H nx σ w).w.heap[b]? :=⟨⟨h.1,h.2.1,fun _ _ h=>by cases h⟩,rfl⟩
theorem j9 (hW:RW e st.H st.nx σ w) {c d:C} {b:Bool} {p:Prop} {v:Value} (hd:den (kx e st.H st.nx σ w) v c) (h:bR st c=some (p,d,b)) (hp:p):den (nc e w) v d:=by
 cases c with
 |own nm s n sz=>
  simp only [bR] at h;split at h<;>try (cases h;done)
  rename_i hsz;split at h<;>try (cases h;done)
  rename_i B hB;simp only [Option.some.injEq,Prod.mk.injEq] at h;obtain ⟨rfl,rfl,rfl⟩:=h;obtain ⟨hs,hpure⟩:=hp;simp only [den] at hd;obtain ⟨h1,h2,h3⟩:=hd.2.2 B hB hs;subst h2;subst h3;have h1':v=σ nm:=h1;rw [h1'];exact bz (fun b hb=>kM hb) (by simpa [bf] using hpure) (hW.publish hB hsz)
 |lit x=>
  simp only [bR,Option.some.injEq,Prod.mk.injEq] at h;obtain ⟨rfl,rfl,rfl⟩:=h
  exact bz (fun b hb=>kM hb) hp hd
 |sh sz n cs=>
  simp only [bR,Option.some.injEq,Prod.mk.injEq] at h;obtain ⟨rfl,rfl,rfl⟩:=h
  exact bz (fun b hb=>kM hb) hp hd
 |sp cs=>
  simp only [bR,Option.some.injEq,Prod.mk.injEq] at h;obtain ⟨rfl,rfl,rfl⟩:=h
  exact bz (fun b hb=>kM hb) hp hd
 |ptr nm s off=>simp only [bR] at h;cases h
 |dead=>simp only [bR] at h;cases h
 |vw nm s off n sz=>simp only [bR,Option.some.injEq,Prod.mk.injEq] at h;obtain ⟨rfl,rfl,rfl⟩:=h;simp [bf] at hp
 |clo f sh cs=>simp only [bR,Option.some.injEq,Prod.mk.injEq] at h;obtain ⟨rfl,rfl,rfl⟩:=h;simp [bf] at hp
 |e0=>simp only [bR,Option.some.injEq,Prod.mk.injEq] at h;obtain ⟨rfl,rfl,rfl⟩:=h;simp [bf] at hp
theorem jd (hW:RW e st.H st.nx σ w):∀{cs ds:List C} {b:Bool} {vs:List Value} {p:Prop},denVs (kx e st.H st.nx σ w) vs cs->dD st cs=some (p,ds,b)->p->denVs (nc e w) vs ds
 |[],ds,b,[],p,_,h,hp=>by
  simp only [dD,Option.some.injEq,Prod.mk.injEq] at h;obtain ⟨rfl,rfl,rfl⟩:=h;trivial
 |[],_,_,_::_,_,hd,_,_=>hd.elim
 |_::_,_,_,[],_,hd,_,_=>hd.elim
 |c::cs,ds,b,v::vs,p,hd,h,hp=>by
  simp only [dD] at h;split at h<;>try (cases h;done)
  rename_i p1 d1 b1 p2 d2 b2 h1 h2;simp only [Option.some.injEq,Prod.mk.injEq] at h;obtain ⟨rfl,rfl,rfl⟩:=h;exact ⟨j9 hW hd.1 h1 hp.1,jd hW hd.2 h2 hp.2⟩
theorem pv (hW:RW e st.H st.nx σ w) {x y:A1} {b:Bool} {p:Prop} {v:Value} (hd:ar (kx e st.H st.nx σ w) v x) (h:f9 st x=some (p,y,b)) (hp:p):ar (nc e w) v y:=by
 cases x with
 |one c=>
  simp only [f9] at h;split at h<;>try (cases h;done)
  rename_i p1 d1 b1 h1;simp only [Option.some.injEq,Prod.mk.injEq] at h;obtain ⟨rfl,rfl,rfl⟩:=h;exact j9 hW hd h1 hp
 |agg cs=>
  simp only [f9] at h;split at h<;>try (cases h;done)
  rename_i p1 d1 b1 h1;simp only [Option.some.injEq,Prod.mk.injEq] at h;obtain ⟨rfl,rfl,rfl⟩:=h;obtain ⟨vs,g1,g2⟩:=hd;exact ⟨vs,g1,jd hW g2 h1 hp⟩
theorem oA (hW:RW e st.H st.nx σ w) (ht:∀t,ak (kx e st.H st.nx σ w) (a.tmps.getD t undef) (st.tm t)):∀{l:List ResultVar} {p:Prop} {xs:List A1},m9 P st l=some (p,xs)->p->
  ∃vs,(l.mapM (m7 a.tmps)).run P w= .ok vs w/\aP (nc e w) vs xs
 |[],p,xs,h,_=>by
  simp only [m9,Option.some.injEq,Prod.mk.injEq] at h;obtain ⟨rfl,rfl⟩:=h;exact ⟨[],rfl,trivial⟩
 |r::l,p,xs,h,hp=>by
  simp only [m9] at h;split at h<;>try (cases h;done)
  rename_i p1 a1 q Cf h1 h2;split at h<;>try (cases h;done)
  rename_i p2 b b' h3;simp only [Option.some.injEq,Prod.mk.injEq] at h;obtain ⟨rfl,rfl⟩:=h;obtain ⟨hp1,hp2,hq⟩:=hp;obtain ⟨v,k1,k2⟩:=ot hW ht h1 hp1;obtain ⟨vs,k3,k4⟩:=oA hW ht h2 hq;refine ⟨v::vs,?_,pv hW k2 h3 hp2,k4⟩;rw [List.mapM_cons];simp only [Sem.run_bind,k1,k3,Result.andThen_ok,Sem.run_pure]
theorem d4 {fn:Func} {res:AV} (hW:RW e st.H st.nx σ w) (ht:∀t,ak (kx e st.H st.nx σ w) (a.tmps.getD t undef) (st.tm t)) (h:na P fn.results.toList res st):
  ∃v,(results fn a.tmps).run P w= .ok v w/\ak (nc e w) v res:=by
 unfold na at h;split at h<;>try (exact h.elim;done)
 rename_i p l hl;obtain ⟨hp,rfl⟩:=h;obtain ⟨vs,k1,k2⟩:=oA hW ht hl hp;exact kK k1 k2
theorem me {f : FuncId} {fn : Func} {c : Code} {args : List A1} {res : AV} (hf : P.funcs[f]? = some fn) (hb : fn.body = some c) (hn : fn.name ≠ "runtime.NumGoroutine") {N : Nat} (hNt : fn.ntmps = N) (hN : args.length ≤ N) {R : List ResultVar} (hR : fn.results.toList = R)
  (h:∀e k0,Awp P e k0 N c (s9 P R res) (ini args)):ACall P f args res:=by
 subst hNt hR;refine ⟨⟨fn,hf,hn,by rw [hb];rfl⟩,fun w T vs hT hd=>?_⟩;refine calls_of_wp hf hb ?_;obtain ⟨t1,t2⟩:=dZ (n:=fn.ntmps) hd hN;have hrel:Rel ⟨w,T⟩ (kIn w T w) fn.ntmps (ini args) {tmps:=vs.toArray++Array.replicate (fn.ntmps-vs.toArray.size) undef,defers:=[]} w:=
  ⟨⟨fun _=> .slice none 0 0,⟨Below.refl _ _,hT,(fun _ _ h=>by cases h),(fun _ _ _ _ h=>by cases h)⟩,t1,Ext.refl _⟩,rfl,t2⟩
 refine wp_mono (h ⟨w,T⟩ (kIn w T w) _ w hrel) fun ex a' w' ⟨hp,st',hq,hr'⟩=>?_
 obtain ⟨σ,h1,h2,_⟩:=hr'.ex;cases ex with
 |normal=>
  obtain ⟨v,k1,k2⟩:=d4 h1 h2 hq;exact ⟨hr'.df,v,k1,v,rfl,h1.bel,k2⟩
 |ret=>
  obtain ⟨v,k1,k2⟩:=d4 h1 h2 hq;exact ⟨hr'.df,v,k1,v,rfl,h1.bel,k2⟩
 |panic c=>exact (hp c rfl).elim
 |exit i=>exact hq.elim
 |goto l=>exact hq.elim
 |outgrown=>exact hq.elim
theorem kN {R:St->Prop} {Q:Exit->St->Prop} {st:St}:ga R Q .normal st=R st:=rfl
theorem ne {R:St->Prop} {Q:Exit->St->Prop} {st:St} {i:Nat}:ga R Q (.exit i) st=Q (.exit i) st:=rfl
theorem pw {R:St->Prop} {Q:Exit->St->Prop} {st:St}:ga R Q .ret st=Q .ret st:=rfl
theorem jP {i:Nat} {Q:Exit->St->Prop} {st:St}:fP i Q .normal st=Q .normal st:=rfl
theorem nf {i:Nat} {Q:Exit->St->Prop} {st:St}:fP i Q .ret st=Q .ret st:=rfl
theorem mf {i j:Nat} {Q:Exit->St->Prop} {st:St}:fP i Q (.exit j) st=if j=i then Q .normal st else Q (.exit j) st:=rfl
theorem mg {P:Program} {R:List ResultVar} {res:AV} {st:St}:s9 P R res .normal st=na P R res st:=rfl
theorem ng {P:Program} {Rl:List ResultVar} {R:AV->Hp->Nat->Prop} {st:St}:ArI P Rl R .normal st=ja P Rl R st:=rfl
theorem ta {P:Program} {Rl:List ResultVar} {R:AV->Hp->Nat->Prop} {st:St}:ArI P Rl R .ret st=ja P Rl R st:=rfl
theorem qF {P:Program} {R:List ResultVar} {res:AV} {st:St}:s9 P R res .ret st=na P R res st:=rfl
def ALg (P:Program) (N:Nat) (I:List Nat) (Q:St->Prop) (g:Option Bool) (o:Oper) (os:List Oper) (gs:List (Option (Nat×Bool))) (st:St):Prop:=
 match g with
 |some true=>cO P N I st o (AL P N I Q os gs)
 |some false=>AL P N I Q os gs (putO st o.dst (.tup []))
 |none=>False
def ATt (P:Program) (N:Nat) (Q:St->Prop) (g:Option Bool) (o:Oper) (r:SchO) (st:St):Prop:=
 match g with
 |some true=>match o.dst with
  |some d=>fN (bB P st o.op) d N (AT P N Q r) st
  |none=>False
 |some false=>AT P N Q r (putO st o.dst (.tup []))
 |none=>False
def ATe (P:Program) (N:Nat) (Q:St->Prop) (g:Option Bool) (o:Oper) (r:SchO) (st:St):Prop:=
 match g with
 |some true=>cO P N [] st o (AT P N Q r)
 |some false=>AT P N Q r (putO st o.dst (.tup []))
 |none=>False
section
variable {P : Program} {N : Nat} {I : List Nat} {Q : St → Prop} {st : St} {o oi oj : Oper} {os : List Oper} {g : Option (Nat × Bool)} {gs : List (Option (Nat × Bool))} {r s : SchO}
theorem vZ:AL P N I Q [] gs st=Q st:=by cases gs<;>rfl
theorem tb:AL P N I Q (o::os) (g::gs) st=ALg P N I Q (gd g st) o os gs st:=rfl
theorem xO:ALg P N I Q (some true) o os gs st=cO P N I st o (AL P N I Q os gs):=rfl
theorem xP:ALg P N I Q (some false) o os gs st=AL P N I Q os gs (putO st o.dst (.tup [])):=rfl
theorem v6:AT P N Q .nil st=Q st:=rfl
theorem tc:AT P N Q (.take o g r) st=ATt P N Q (gd g st) o r st:=by
 simp only [AT,ATt];cases gd g st with
 |none=>rfl
 |some b=>
  cases b with
  |false=>rfl
  |true=>
   cases o.dst with
   |none=>rfl
   |some d=>
    simp only [fN];cases bB P st o.op with
    |none=>rfl
    |some q=>rfl
theorem v7:AT P N Q (.eff o g r) st=ATe P N Q (gd g st) o r st:=rfl
theorem xQ {d:Nat} {op:Op} {t:TypeId} {ps:String} {af:Array Edge} {gg:Option (Nat×Bool)}:ATt P N Q (some true) ⟨some d,op,t,ps,af,gg⟩ r st=fN (bB P st op) d N (AT P N Q r) st:=rfl
theorem xR:ATt P N Q (some false) o r st=AT P N Q r (putO st o.dst (.tup [])):=rfl
theorem xS:ATe P N Q (some true) o r st=cO P N [] st o (AT P N Q r):=rfl
theorem xT:ATe P N Q (some false) o r st=AT P N Q r (putO st o.dst (.tup [])):=rfl
theorem v8:AT P N Q (.two oi oj r s) st=(cO P N [] st oi (AT P N Q r)/\cO P N [] st oj (AT P N Q s)):=rfl
theorem px {p:Prop} {x:AV} {d:Nat} {K:St->Prop}:fN (some (p,x)) d N K st=(d<N/\p/\K ⟨up st.tm d x,st.H,st.nx,st.nb⟩):=rfl
theorem py {p:Prop} {st':St} {d:Nat} {K:St->Prop}:eI (some (p,st')) d N K=(d<N/\p/\K st'):=rfl
theorem nh {x:Prop×St} {r:Option (Prop×St)} {d:Nat} {K:St->Prop}:ov (some x) r d N K=eI (some x) d N K:=rfl
theorem ni {r:Option (Prop×St)} {d:Nat} {K:St->Prop}:ov none r d N K=eI r d N K:=rfl
theorem nj {x:Prop×St} {r:Option (Prop×AV)} {d:Nat} {K:St->Prop}:ox (some x) r d N K st=eI (some x) d N K:=rfl
theorem nk {r:Option (Prop×AV)} {d:Nat} {K:St->Prop}:ox none r d N K st=fN r d N K st:=rfl
theorem qG {x:Prop×AV} {r:Option (Prop×AV)}:orS (some x) r=some x:=rfl
theorem qH {r:Option (Prop×AV)}:orS none r=r:=rfl
theorem pz {p:Prop} {st':St} {K:St->Prop}:qC (some (p,st')) K=(p/\K st'):=rfl
theorem pA {f:FuncId} {p:Prop} {ys:List A1} {b:Bool} {d:Nat} {K:St->Prop}:sY P f (some (p,ys,b)) d N K st=(d<N/\p/\∃res,ACall P f ys res/\kF (if b then f8 else cf) res=true/\aZ K ⟨up st.tm d res,st.H,st.nx,st.nb⟩):=rfl
end
theorem wb {P:Program} {f:FuncId} {xs:List AV} {d N:Nat} {K:St->Prop} {st:St}:qE P f true xs d N K st=sZ P f (gL xs) d N K st:=rfl
theorem wg {P:Program} {f:FuncId} {xs:List AV} {d N:Nat} {K:St->Prop} {st:St}:qE P f false xs d N K st=sY P f (eH st xs) d N K st:=rfl
theorem pB {P:Program} {f:FuncId} {b:Bool} {xs:List AV} {d N:Nat} {K:St->Prop} {st:St}:vY P (some f) b xs d N K st=qE P f b xs d N K st:=rfl
theorem pC {P:Program} {f:FuncId} {ys:List A1} {d N:Nat} {K:St->Prop} {st:St}:sZ P f (some ys) d N K st=(d<N/\∃R,ACallI P f ys st.H st.nx R/\qD R d K st.tm st.nb):=rfl
theorem wh {α:Type} (a b:α):(if true=true then a else b)=a:=rfl
theorem wi {α:Type} (a b:α):(if false=true then a else b)=b:=rfl
theorem wj:(false==true)=false:=rfl
theorem wk:(true==false)=false:=rfl
theorem wl:(false==false)=true:=rfl
theorem wq:(true==true)=true:=rfl
theorem je (tm':Nat->AV) (H':Hp) (ht:∀t,tm' t=st.tm t∨tm' t= .dead) (hH:∀nm B,H' nm=some B->st.H nm=some B) (hr:Rel e k0 N st a w):Rel e k0 N ⟨tm',H',st.nx,st.nb⟩ a w:=by
 obtain ⟨σ,h1,h2,h3⟩:=hr.ex;have hext:Ext (kx e st.H st.nx σ w) (kx e H' st.nx σ w):=
  ⟨Nat.le_refl _,fun b hb=>⟨⟨hb.1,hb.2.1,fun nm B hB=>hb.2.2 nm B (hH nm B hB)⟩,rfl⟩,fun nm B hB=> .inr ⟨B,hH nm B hB,rfl,rfl,rfl,rfl⟩⟩
 refine ⟨⟨σ,⟨h1.bel,h1.hT,fun nm B hB=>?_,fun nm nm' B B' hB hB'=>h1.inj nm nm' B B' (hH nm B hB) (hH nm' B' hB')⟩,fun t=>?_,h3.trans hext⟩,hr.df,hr.sz⟩
 ·exact ⟨(h1.blk nm B (hH nm B hB)).1,(h1.blk nm B (hH nm B hB)).2.kept (row:=none) ⟨rfl,rfl,rfl,Nat.le_refl _,fun _ _ _=>rfl⟩ (Classical.em _) rfl rfl hext⟩
 rcases ht t with h|h
 ·show ak _ _ (tm' t);rw [h];exact dg hext (h2 t)
 show ak _ _ (tm' t);rw [h];trivial
theorem td {t d:Nat} (E:TypeId) (sz:Nat) (hsz:sz≠0) (htm:st.tm t= .val (.one (.lit (.slice none 0 0)))) (hr:Rel e k0 N st a w):
  Rel e k0 N ⟨up st.tm t (.val (.one (.own d st.nx 0 sz))),up st.H d (some ⟨st.nx,E,sz,0,[]⟩),st.nx+1,st.nb⟩ a w:=by
 obtain ⟨σ,h1,h2,h3⟩:=hr.ex;obtain ⟨k1,k2⟩:=RW.new (nm0:=d) (d:=d) (row:=none) h1 (w':=w) ⟨rfl,rfl,rfl,Nat.le_refl _,fun _ _ _=>rfl⟩ (B':=⟨st.nx,E,sz,0,[]⟩) (v':= .slice none 0 0) (xs:=[]) rfl hsz (by simp) (by simp) (by simp [obk]) (w.ownsRow_nil _ _ _) trivial;rw [dL] at k1 k2;refine ⟨⟨_,k1,fun t'=>?_,h3.trans k2⟩,hr.df,hr.sz⟩;show ak _ _ (up st.tm t _ t');by_cases htt:t'=t
 ·subst htt;rw [aO];have h4:=h2 t';rw [htm] at h4;simp only [ak,ar,den] at h4;rw [h4.1];exact aY d σ w rfl
 rw [bM _ _ htt];exact dg k2 (h2 t')
end
end Go.Proofs.YtclkgcigacbmiaaGreatDoor
