/- The abstract machine: what the effects do to the world. No program in sight. -/
import Derived.Test.YtcgpghifhehlhaaGreatDoorDrawM
import Derived.Lib.AppendZerosOnto
import Derived.Lib.MinMax
set_option linter.unusedVariables false
set_option linter.unusedSimpArgs false
set_option linter.unnecessarySimpa false
set_option linter.unusedSectionVars false
namespace Go.Proofs.YtcgpghifhehlhaaGreatDoor
open Go Go.RowKit
section
variable {P : Program} {e : En} {k0 : Kx} {N : Nat} {st st' : St} {a : Act} {w : World} {σ : Nat → Value} {o : Oper} {p : Prop} {x : AV} {d : Nat} {K : Act → World → Prop} {Q : Exit → Act → World → Prop}
theorem fv {v:Value} {w':World} (h:(execOp a.eval o).run P w= .ok (.value v) w') (hK:K (a.put o.dst v) w'):o.wp P a w K Q:=by
 unfold Oper.wp;rw [h];exact hK
theorem om {w':World} (h:(execOp a.eval o).run P w= .ok .skip w') (hK:K (a.put o.dst undef) w'):o.wp P a w K Q:=by
 unfold Oper.wp;rw [h];exact hK
theorem j7 {H:Hp} {nx:Nat} {E:TypeId} {sz n:Nat} {cs:List C} (d b m:Nat) (σ:Nat->Value) (w:World):
  aG (kx e (up H d (some ⟨nx,E,sz,n,cs⟩)) (nx+1) (up σ d (.slice (some ⟨b,0,none⟩) n m)) w) (.pointer (some ⟨b,0,none⟩)) (.val (.one (.ptr d nx 0))):=by
 simp only [aG,bb,den];refine ⟨rfl,Nat.lt_succ_self _,fun B _ _=>⟨b,?_,rfl⟩⟩;show (up σ d _ d).ownBlock=some b;rw [bB];rfl
theorem cb {H:Hp} {nx:Nat} {E:TypeId} {sz n:Nat} {cs:List C} (d:Nat) {v:Value} (σ:Nat->Value) (w:World) (hv:v.oneCell'=true):
  aG (kx e (up H d (some ⟨nx,E,sz,n,cs⟩)) (nx+1) (up σ d v) w) v (.val (.one (.own d nx n sz))):=by
 simp only [aG,bb,den];refine ⟨hv,Nat.lt_succ_self _,fun B hB _=>?_⟩;have hB':up H d (some ⟨nx,E,sz,n,cs⟩) d=some B:=hB;rw [bB] at hB';cases hB';refine ⟨?_,rfl,rfl⟩;show v=up σ d v d;rw [bB]
theorem kH (hr:Rel e k0 N st a w) (hdst:o.dst=some d) (hdN:d<N) {E:TypeId} {sz n:Nat} {us:List Value} {cs:List C} {v:Value} {x:AV}
  (hrun:(execOp a.eval o).run P w= .ok (.value v) (w.alloc (.cells us.toArray E)))
  (hd:∀σ,RW e st.H st.nx σ w->(∀t,aG (kx e st.H st.nx σ w) (a.tmps.getD t undef) (st.tm t))->denVs (kx e st.H st.nx σ w) us cs) (hsz:sz≠0) (hlen:cs.length=n*sz) (hn:n<=maxLen)
  (hx:∀σ w',aG (kx e (up st.H (st.nb+d) (some ⟨st.nx,E,sz,n,cs⟩)) (st.nx+1) (up σ (st.nb+d) (.slice (some ⟨w.heap.size,0,none⟩) n n)) w') v x)
  (hK:∀a' w',Rel e k0 N ⟨up st.tm d x,up st.H (st.nb+d) (some ⟨st.nx,E,sz,n,cs⟩),st.nx+1,st.nb⟩ a' w'->FL w w'->K a' w'):o.wp P a w K Q:=by
 obtain ⟨σ,h1,h2,h3⟩:=hr.ex;obtain ⟨k1,k2⟩:=h1.row (st.nb+d) E sz n hsz (hd σ h1 h2) hlen hn;refine fv hrun ?_;rw [hdst];exact hK _ _ (hr.put k1 h2 h3 k2 (hx σ _) d hdN) (FL.alloc _ _)
theorem rn {E:TypeId} {sz:Nat} (h:(zrT P E).map List.length=some sz):(zrT P E).isSome=true:=by
 cases hz:zrT P E with
 |none=>rw [hz] at h;cases h
 |some z=>rfl
theorem tX {E:TypeId} {sz:Nat} (h:(zrT P E).map List.length=some sz) (zs:List Value) (hz:zrT P E=some zs):zs.length=sz:=by
 rw [hz] at h;simpa using h
theorem kI {base:Nat} {t ty E:TypeId} {sz by_:Nat} (hel:elT P t=some (E,sz,by_)) (hz:(zrT P E).isSome=true) (hzs:∀zs,zrT P E=some zs->zs.length=sz) (hsz:0<sz) {v:Value} {n:Nat} {xs:List Value} (ho:w.ownsRow base E sz v n xs)
  {ad:Option Addr} {m c:Nat} {news:List Value} (hl:news.length=m*sz) (hs:m=0∨∃b off,ad=some ⟨b,off,none⟩/\∀j u,news[j]? =some u->w.cell? ⟨b,off+j,none⟩=some u)
  (h1:∀u∈news,u.oneCell'=true) (h63:n+m<=maxLen) (hb:(n+m)*by_<=140737488355328) (hbase:base<=w.heap.size):
  ∃v' w',(Builtin.append_ #[t,t] ty #[v,.slice ad m c]).run P w= .ok v' w'/\v'.oneCell'=true/\w'.ownsRow base E sz v' (n+m) (xs++news)/\w.grownBy w' v.ownBlock/\(v'.ownBlock=v.ownBlock∨v'.ownBlock=some w.heap.size):=by
 obtain ⟨g1,i,g2,g3,g4⟩:=dZ hel;obtain ⟨zs,hzz⟩:=Option.isSome_iff_exists.1 hz;have hlen:=hzs zs hzz;unfold zrT at hzz;split at hzz<;>try (cases hzz;done)
 rename_i z hzi;split at hzz<;>try (cases hzz;done)
 obtain rfl:=Option.some.inj hzz;rw [g2] at hzi;have hzi':i.zero=some z:=by simpa using hzi
 rcases Nat.eq_zero_or_pos m with hm|hm
 ·subst hm;have hnil:news=[]:=List.eq_nil_of_length_eq_zero (by simpa using hl);subst hnil;have fc:(Builtin.firstCells sz 0 (.slice ad 0 c)).run P w= .ok #[] w:=by
   cases ad with
   |none=>simp [Builtin.firstCells]
   |some q=>simp [Builtin.firstCells,loadCells,loadCellsFrom]
  refine ⟨v,w,?_,?_,by simpa using ho,⟨rfl,rfl,rfl,Nat.le_refl _,fun _ _ _=>rfl⟩,.inl rfl⟩
  ·rcases ho.2 with ⟨rfl,rfl⟩|⟨g,cap,cur,rfl,_,hg,hc,_⟩
   ·simp [Builtin.append_,run_underlying g1,sizeOf,typeInfo,g2,g3,Builtin.lenOf,fc]
   have hc':n<=cap:=hc;simp [Builtin.append_,run_underlying g1,sizeOf,typeInfo,g2,g3,Builtin.lenOf,fc,hc',storeCells]
  rcases ho.2 with ⟨rfl,_⟩|⟨g,cap,cur,rfl,_⟩<;>rfl
 obtain ⟨b,off,rfl,hcell⟩:=hs.resolve_left (by omega);obtain ⟨v',w',r1,r2,r3,r4⟩:=jj (P:=P) w base t ty E i z sz by_ g1 g2 hzi' g3 g4 (by simpa using hlen) hsz v n xs ho ⟨b,off,none⟩ m c news hl (fun j u hu=>by rw [add_lit];exact hcell j u hu) h1 h63 hb hbase hm;refine ⟨v',w',r1,?_,r2,r3,r4⟩;rcases r2.2 with ⟨rfl,_⟩|⟨g,cap,cur,rfl,_⟩<;>rfl
theorem ro {κ:Kx} (hW:RW e st.H st.nx σ w) {v:Value} {y:AV} (hy:aG (kx e st.H st.nx σ w) v y) {q:Prop} {sz m:Nat} {ns:List C} (h:wB st y=some (q,sz,m,ns)) (hq:q):
  ∃ad c news,v= .slice ad m c/\denVs (kx e st.H st.nx σ w) news ns/\ns.length=m*sz/\m<=maxLen/\(m=0∨∃b off,ad=some ⟨b,off,none⟩/\∀j u,news[j]? =some u->w.cell? ⟨b,off+j,none⟩=some u):=by
 unfold wB at h;split at h<;>try (cases h;done)
 ·rename_i nm s' n sz';split at h<;>try (cases h;done)
  rename_i B hB;simp only [Option.some.injEq,Prod.mk.injEq] at h;obtain ⟨rfl,rfl,rfl,rfl⟩:=h;simp only [aG,bb,den] at hy;obtain ⟨hq,hsz⟩:=hq;obtain ⟨h1,h2,h3⟩:=hy.2.2 B hB hq;obtain ⟨_,h4,xs,h5,h6⟩:=hW.rowOf hB (.inl (by rw [h3];exact hsz));have h1':v=σ nm:=h1;subst h2;subst h3;rcases h5.2 with ⟨h7,h8⟩|⟨g,cap,cur,h7,h8,h9,h10,h11,h12,h13⟩
  ·exact ⟨none,0,xs,by rw [h1',h8];exact h7,h6,h4,by rw [h8];exact Nat.zero_le _,.inl h8⟩
  refine ⟨some ⟨g,0,none⟩,cap,xs,by rw [h1'];exact h7,h6,h4,Nat.le_trans h10 h11,.inr ⟨g,0,rfl,fun j u hu=>?_⟩⟩;have:=h5.cells (g:=g) (by rw [h7];rfl) j u hu;rwa [add_lit] at this
 rename_i sz' n cs;simp only [Option.some.injEq,Prod.mk.injEq] at h;obtain ⟨rfl,rfl,rfl,rfl⟩:=h;simp only [aG,bb,den] at hy;obtain ⟨ad,cap,h1,h2,h3,h4,h5,h6⟩:=hy;rcases h6 with h6|⟨b,off,rfl,h7,h8⟩
 ·subst h6;have hcs:cs=[]:=List.eq_nil_of_length_eq_zero (by simpa using h5);subst hcs;exact ⟨ad,cap,[],h1,trivial,h5,by omega,.inl rfl⟩
 obtain ⟨us,h9,h10⟩:=h8.vals;exact ⟨some ⟨b,off,none⟩,cap,us,h1,h9,h5,by omega,.inr ⟨b,off,rfl,h10⟩⟩
theorem sJ {c:Call} {s y:Operand} {t t':TypeId} (hr:Rel e k0 N st a w) (hdst:o.dst=some d) (hdN:d<N) (hop:o.op= .call c) (hcal:c.callee= .builtin .append) (hargs:c.args= #[s,y]) (htys:c.argTypes= #[t,t'])
  (h:eff P st d o.op=some (p,st')) (hp:p) (hK:∀a' w',Rel e k0 N st' a' w'->K a' w'):o.wp P a w K Q:=by
 obtain ⟨callee,args,argTypes⟩:=c;simp only at hcal hargs htys;subst hcal hargs htys;obtain ⟨σ,h1,h2,h3⟩:=hr.ex;rw [hop] at h;simp only [eff] at h;split at h<;>try (cases h;done)
 rename_i E sz by_ q sz' m ns hel hsrc;have hs:=bc h2 s;have hy:=bc h2 y;have hml:maxLen=4611686018427387904∨4611686018427387904<=maxLen:=by unfold maxLen;omega
 split at h<;>try (cases h;done)
 ·rename_i nm s' n sz'' hes;rw [hes] at hs;split at h<;>try (cases h;done)
  rename_i B hB;simp only [Option.some.injEq,Prod.mk.injEq] at h;obtain ⟨rfl,rfl⟩:=h;obtain ⟨hq,rfl,hst,rfl,rfl,rfl,hz,hsz,hb,hl⟩:=hp;obtain ⟨ad,c,news,e1,e2,e3,e4,e5⟩:=ro (κ:=kx e st.H st.nx σ w) h1 hy hsrc hq;simp only [aG,bb,den] at hs;obtain ⟨f1,f2,f3⟩:=hs.2.2 B hB hst;have f1':a.eval s=σ nm:=f1;obtain ⟨g1,g2,xs,g3,g4⟩:=h1.rowOf hB (.inl (by omega));have g3':w.ownsRow e.w0.heap.size B.E sz' (σ nm) n xs:=by rw [←f2,←f3];exact g3
  obtain ⟨v',w',r1,r2,r3,r4,r5⟩:=kI (ty:=o.type) hel (rn hz) (tX hz) hsz g3' (by rw [e2.length];exact e3) e5 e2.one (by omega) hb h1.size;obtain ⟨k1,k2⟩:=RW.new (nm0:=nm) (d:=st.nb+d) h1 r4 (B':=⟨st.nx,B.E,sz',n+m,B.cs++ns⟩) rfl (by show sz'≠0;omega) (by simp only [List.length_append];rw [g2,e3,f2,f3,Nat.add_mul]) (fun r hr=>⟨iV hr,B,hB⟩) (fun r hr=>by
   rw [kp r3] at hr;rcases r5 with h5|h5
   ·exact .inr ⟨iV (h5▸hr),B,hB⟩
   rw [h5] at hr;cases hr;exact .inl (Nat.le_refl _)) r3 (g4.append e2)
  refine fv (v:=v') (w':=w') ?_ ?_
  ·have r1':=r1;simp only [execOp,hop,resolve,Sem.run_bind,Sem.run_pure,Result.andThen_ok,invoke,builtin,List.map_toArray,List.map_cons,List.map_nil,f1',e1];rw [r1'];rfl
  rw [hdst];refine hK _ _ (hr.put k1 h2 h3 k2 ?_ d hdN);exact cb (st.nb+d) σ w' r2
 rename_i hes;rw [hes] at hs;simp only [Option.some.injEq,Prod.mk.injEq] at h;obtain ⟨rfl,rfl⟩:=h;obtain ⟨hq,rfl,rfl,hz,hsz,hb,hl⟩:=hp;obtain ⟨ad,c,news,e1,e2,e3,e4,e5⟩:=ro (κ:=kx e st.H st.nx σ w) h1 hy hsrc hq;simp only [aG,bb,den] at hs;obtain ⟨v',w',r1,r2,r3,r4,r5⟩:=kI (ty:=o.type) hel (rn hz) (tX hz) hsz (w.ownsRow_nil e.w0.heap.size E sz') (by rw [e2.length];exact e3) e5 e2.one (by omega) (by simpa using hb) h1.size;simp only [Nat.zero_add,List.nil_append] at r3;obtain ⟨k1,k2⟩:=RW.new (nm0:=st.nb+d) (d:=st.nb+d) h1 r4 (B':=⟨st.nx,E,sz',m,ns⟩) rfl (by show sz'≠0;omega) e3 (fun r hr=>by simp [Value.ownBlock] at hr) (fun r hr=>by
  rw [kp r3] at hr;rcases r5 with h5|h5
  ·rw [h5] at hr;simp [Value.ownBlock] at hr
  rw [h5] at hr;cases hr;exact .inl (Nat.le_refl _)) r3 e2
 rw [mm] at k1 k2;refine fv (v:=v') (w':=w') ?_ ?_
 ·have r1':=r1;simp only [execOp,hop,resolve,Sem.run_bind,Sem.run_pure,Result.andThen_ok,invoke,builtin,List.map_toArray,List.map_cons,List.map_nil,hs.1,e1];rw [r1'];rfl
 rw [hdst];refine hK _ _ (hr.put k1 h2 h3 k2 ?_ d hdN);exact cb (st.nb+d) σ w' r2
theorem CN (hr:Rel e k0 N st a w) (hdst:o.dst=some d) (hdN:d<N) (h:eff P st d o.op=some (p,st')) (hp:p) (hcall:∀c,o.op≠ .call c) (hst:∀t x y,o.op≠ .store t x y)
  (hK:∀a' w',Rel e k0 N st' a' w'->FL w w'->K a' w'):o.wp P a w K Q:=by
 generalize hop:o.op=op at h;cases op<;>simp only [eff,reduceCtorEq] at h;case alloc t=>
  split at h<;>try (cases h;done)
  rename_i zs hz;simp only [Option.some.injEq,Prod.mk.injEq] at h;obtain ⟨rfl,rfl⟩:=h;obtain ⟨z,h1,h2,h3⟩:=jm hz;refine kH (v:= .pointer (some ⟨w.heap.size,0,none⟩)) (us:=zs) hr hdst hdN ?_ (fun σ _ _=>dN _ _ h2) hp (by simp) (by unfold maxLen;omega) (fun σ w'=>j7 (st.nb+d) _ _ σ w') hK;have h1':z.cells=zs.toArray:=by rw [←h1]
  simp [execOp,hop,Instr.alloc,h3 w,newVar,newRow,h1']
 case box t y=>
  split at h<;>try (cases h;done)
  rename_i cs hc;simp only [Option.some.injEq,Prod.mk.injEq] at h;obtain ⟨rfl,rfl⟩:=h;refine kH (v:= .pointer (some ⟨w.heap.size,0,none⟩)) (us:=(a.eval y).cells.toList) hr hdst hdN ?_ (fun σ _ h2=>iX (bc h2 y) hc) hp (by simp) (by unfold maxLen;omega) (fun σ w'=>j7 (st.nb+d) _ _ σ w') hK;simp [execOp,hop,Instr.box,newVar,newRow]
 case buildSlice t len parts=>
  split at h<;>try (cases h;done)
  rename_i E sz by_ hel;split at h<;>try (cases h;done)
  rename_i zs hz;split at h<;>try (cases h;done)
  rename_i q r hf;simp only [Option.some.injEq,Prod.mk.injEq] at h;obtain ⟨rfl,rfl⟩:=h;obtain ⟨hq,hzs,hpos,hbig,hlen⟩:=hp;obtain ⟨z,h1,h2,h3⟩:=jm hz;obtain ⟨g1,i,g2,g3,g4⟩:=dZ hel;have hzsz:z.cells.size=sz:=by rw [←hzs,←h1];simp
  obtain ⟨σ0,q1,q2,q3⟩:=hr.ex;have hd0:∀σ,denVs (kx e st.H st.nx σ w) (madeCells z.cells (len*sz)).toList (eA len (zs.map .lit)):=fun σ=>by
   rw [←hzsz,jH,h1];exact gw (dN _ _ h2) len
  obtain ⟨arr',f1,_⟩:=ks (κ:=kx e st.H st.nx σ0 w) (place:=fun i=>some (i*sz,sz)) _ _ _ (madeCells z.cells (len*sz)) (f8 q2 parts.toList).1 (f8 q2 parts.toList).2 (hd0 σ0) hf hq;refine kH (v:= .slice (some ⟨w.heap.size,0,none⟩) len len) (us:=arr'.toList) hr hdst hdN ?_ (fun σ _ k2=>?_) (by intro h0;rw [h0] at hpos;simp at hpos) hlen (by
   have:len<=len*sz:=Nat.le_mul_of_pos_right _ (Nat.pos_of_mul_pos_left hpos);unfold maxLen;omega) (fun σ w'=>?_) hK
  ·have hne:¬len*sz=0:=by omega
   have hbg:¬(16777216<len*sz):=by omega
   have f1':Instr.fill (fun i=>some (i*sz,sz)) ((Array.range (len*sz)).map (z.cells[·%z.cells.size]!)) (parts.map fun q=>(q.1,a.eval q.2)).toList=some arr':=by
    have:=f1;simp only [madeCells] at this;simpa using this
   have hbg':¬(len*sz>2^24):=by simpa using hbg
   simp only [execOp,hop,Instr.buildSlice,Sem.run_bind,run_underlying g1,Result.andThen_ok,sizeOf,typeInfo,run_program,g2,g3,Sem.run_pure,Sem.run_ite,if_neg hbg',if_neg hne,h3 w,f1',newRow,run_newObj];simp
  ·obtain ⟨arr2,f2,f3⟩:=ks (κ:=kx e st.H st.nx σ w) (place:=fun i=>some (i*sz,sz)) _ _ _ (madeCells z.cells (len*sz)) (f8 k2 parts.toList).1 (f8 k2 parts.toList).2 (hd0 σ) hf hq;rw [f1] at f2;cases f2;exact f3
  exact cb (st.nb+d) σ w' rfl
 case makeSlice t l c=>
  split at h<;>try (cases h;done)
  rename_i k1 n k2 n' E sz by_ hl hc hel;split at h<;>try (cases h;done)
  rename_i zs hz;simp only [Option.some.injEq,Prod.mk.injEq] at h;obtain ⟨rfl,rfl⟩:=h;obtain ⟨rfl,hsz,hzs,h0,hb,hn⟩:=hp;obtain ⟨z,h1,h2,h3⟩:=jm hz;obtain ⟨g1,i,g2,g3,g4⟩:=dZ hel;have hzsz:z.cells.size=sz:=by rw [←hzs,←h1];simp
  have hzi:i.zero=some z:=by
   have:=h3 w;cases hiz:i.zero with
   |none=>simp [zeroValue,typeInfo,g2,hiz] at this
   |some z'=>simp [zeroValue,typeInfo,g2,hiz] at this;rw [this]
  obtain ⟨σ0,q1,q2,q3⟩:=hr.ex;have el:=bc q2 l;have ec:=bc q2 c;rw [hl] at el;rw [hc] at ec;simp only [aG,bb,den] at el ec;have hrun:=run_make (P:=P) w t E i z g1 g2 hzi k1 k2 n n h0 (by omega) (by rw [g4];exact hb) (by omega);refine kH (v:= .slice (some ⟨w.heap.size,0,none⟩) n.toNat n.toNat) (us:=eA n.toNat zs) (cs:=eA n.toNat (zs.map .lit)) hr hdst hdN ?_ (fun σ _ _=>gw (dN _ _ h2) _) hsz (by simp [dh,hzs]) (by unfold maxLen;omega) (fun σ w'=>cb (st.nb+d) σ w' rfl) hK;have hm:madeCells z.cells (n.toNat*sz)=(eA n.toNat zs).toArray:=by
   rw [←hzsz,←h1,←jH]
  simp only [execOp,hop,el.1,ec.1,hrun,Sem.run_bind,Result.andThen_ok,Sem.run_pure,g3,hm]
 case call c=>exact (hcall c hop).elim
 case store t x y=>exact (hst t x y hop).elim
theorem tY (hr : Rel e k0 N st a w) (hdst : o.dst = none) {t : TypeId} {y z : Operand} (hop : o.op = .store t y z) (h : eff P st d o.op = some (p, st')) (hp : p) (hK : ∀ a' w', Rel e k0 N st' a' w' → K a' w') : o.wp P a w K Q := by
  rw [hop] at h
  simp only [eff] at h
  obtain ⟨σ, h1, h2, h3⟩ := hr.ex
  have hy := bc h2 y
  have hz := bc h2 z
  split at h <;> try (cases h; done)
  rename_i nm s' off ds ag sz hey hc hl
  rw [hey] at hy
  split at h <;> try (cases h; done)
  rename_i B hB
  simp only [Option.some.injEq, Prod.mk.injEq] at h
  obtain ⟨rfl, rfl⟩ := h
  obtain ⟨hst, hds, hle⟩ := hp
  have hd := iX hz hc
  obtain ⟨b, q1, q2, xs, q3, q4⟩ := ip h1 hy hB hst
  obtain ⟨_, hBl, _⟩ := h1.rowOf hB (.inr (.inr ⟨b, q1⟩))
  have hvs : (a.eval z).cells.size = sz := by have := hd.length; rw [← hds]; simpa using this
  rcases q3.2 with ⟨g1, g2⟩ | ⟨g, cap, cur, g1, g2, g3, g4, g5, g6, g7⟩
  · rw [g1] at q1; cases q1
  have hgb : g = b := by rw [g1] at q1; simpa [Value.ownBlock] using q1
  subst hgb
  have hxl : xs.length = B.n * B.sz := q3.1
  have hcur : off + 0 + (a.eval z).cells.toList.length ≤ cur.size := by
    have : B.n * B.sz ≤ cap * B.sz := Nat.mul_le_mul_right _ g4
    simp only [Array.length_toList]; omega
  have hrun := run_storeCells_at (P := P) g off B.E (a.eval z).cells.toList 0 cur w g3 hcur hd.one
  obtain ⟨k1, k2⟩ := h1.upd (w' := w.setRow g (cur.toList.take (off + 0) ++ (a.eval z).cells.toList ++ cur.toList.drop (off + 0 + (a.eval z).cells.toList.length)).toArray) hB (by rw [q1]; exact kG w g _)
    (xs := spl xs off (a.eval z).cells.toList) (cs := spl B.cs off ds) (h1.szOf hB ⟨g, q1⟩) (by rw [iW _ _ _ (by omega)]; exact hBl) (by
      refine ⟨by rw [iW _ _ _ (by simp; omega)]; exact hxl, .inr ⟨g, cap, _, g1, g2, setRow_heap w g cur _ B.E (0, 0) g3, g4, g5, by simp; simp at hcur; omega, ?_⟩⟩
      have hlx : off + (a.eval z).cells.toList.length ≤ B.n * B.sz := by simp only [Array.length_toList]; omega
      rw [← g7]
      apply List.ext_getElem?
      intro j
      simp only [spl, Nat.add_zero]
      rw [List.getElem?_take]
      split
      · rename_i hj
        simp only [List.append_assoc]
        rcases Nat.lt_or_ge j off with h5 | h5
        · rw [List.getElem?_append_left (by simp; omega), List.getElem?_append_left (by simp; omega), List.getElem?_take, List.getElem?_take, List.getElem?_take]
          simp [h5, hj]
        have e1 : (List.take off cur.toList).length = off := by simp; omega
        have e2 : (List.take off (List.take (B.n * B.sz) cur.toList)).length = off := by simp; omega
        rw [List.getElem?_append_right (l₁ := List.take off cur.toList) (by omega), List.getElem?_append_right (l₁ := List.take off (List.take (B.n * B.sz) cur.toList)) (by omega), e1, e2]
        rcases Nat.lt_or_ge (j - off) (a.eval z).cells.toList.length with h6 | h6
        · rw [List.getElem?_append_left h6, List.getElem?_append_left h6]
        rw [List.getElem?_append_right h6, List.getElem?_append_right h6, List.getElem?_drop, List.getElem?_drop, List.getElem?_take, if_pos (by omega)]
      rename_i hj
      rw [List.getElem?_eq_none]
      have := iW (List.take (B.n * B.sz) cur.toList) off (a.eval z).cells.toList (by simp; simp at hcur hlx; omega)
      simp only [spl] at this
      rw [this]; simp; omega) (mo q4 hd off)
  refine om (w' := w.setRow g (cur.toList.take (off + 0) ++ (a.eval z).cells.toList ++ cur.toList.drop (off + 0 + (a.eval z).cells.toList.length)).toArray) ?_ ?_
  · have hsz : (sizeOf t).run P w = .ok sz w := by
      cases ag
      · exact (Fs hl w).2
      exact (jk hl w).2
    have q2' : a.eval y = .pointer (some ⟨g, off, none⟩) := q2
    simp only [execOp, hop, q2', Instr.storeAt, Instr.sureAddr, Sem.run_bind, Sem.run_pure, Result.andThen_ok, storeVar, hsz, hvs, ne_eq, not_true_eq_false, if_false, hrun]
  rw [hdst]
  exact hK _ _ (hr.skip k1 h2 h3 k2 _)
end
def eqW:Value->Value->Bool
 | .agg a,.agg b=>oc a.toList b.toList
 |a,b=>eqV a b
def qe:C->Option (Value×Value)
 | .lit (.agg a)=>match a.toList with
  |[k,v]=>some (k,v)
  |_=>none
 |_=>none
def ent (k v:Value):C:= .lit (.agg #[k,v])
theorem oo (k v:Value):qe (ent k v)=some (k,v):=rfl
def gK (k:Value):List C->Option Value
 |[]=>none
 |c::cs=>match qe c with
  |some (k',v)=>if eqW k k'=true then some v else gK k cs
  |none=>gK k cs
def jI (k v:Value):List C->List C
 |[]=>[ent k v]
 |c::cs=>match qe c with
  |some (k',_)=>if eqW k k'=true then ent k v::cs else c::jI k v cs
  |none=>c::jI k v cs
def MK (P:Program) (kt:TypeId) (k:Value) (cs:List C):Prop:=
 (∀b w,(Instr.checkKey b 10000 kt k).run P w= .ok () w)/\(∃dsc,P.underlying kt=some dsc/\
 ∀c∈cs,∃k' v',c=ent k' v'/\(∀w,(Op.equal kt k k').run P w= .ok (eqW k k') w)/\(Instr.sameNow dsc k k'=none∨Instr.sameNow dsc k k'=some (eqW k k'))/\(eqW k k'=true->Instr.sameBits 10000 k' k=true))
def sK:AV->Option Value
 | .val (.one (.lit v))=>some v
 | .val (.agg cs)=>(zn cs).map fun l=> .agg l.toArray
 |_=>none
def mpT (P:Program) (t:TypeId):Option (TypeId×Value):=
 match P.underlying t with
 |some (.map k e)=>match (P.info? e).map (·.zero) with
  |some (some z)=>some (k,z)
  |_=>none
 |_=>none
def tZ (ok:Bool) (r:Option Value) (z:Value):Option AV:=
 match qb (r.getD z) with
 | .val a=>some (if ok then .tup [a,.one (.lit (.bool r.isSome))] else .val a)
 |_=>none
def ir (P:Program) (st:St):Op->Option (Prop×AV)
 | .lookup t m k ok=>match ev st m,sK (ev st k),mpT P t with
  | .val (.one (.own nm s n sz)),some kv,some (kt,z)=>match st.H nm with
   |some B=>match tZ ok (gK kv B.cs) z with
    |some x=>some (B.st=s/\n=0/\sz=0/\MK P kt kv B.cs,x)
    |none=>none
   |none=>none
  |_,_,_=>none
 |_=>none
section
variable {P : Program} {e : En} {k0 : Kx} {N : Nat} {st st' : St} {a : Act} {w : World} {σ : Nat → Value} {o : Oper} {p : Prop} {x : AV} {d : Nat} {K : Act → World → Prop} {Q : Exit → Act → World → Prop}
theorem kJ {κ:Kx} {v kv:Value} {y:AV} (h:sK y=some kv) (hd:aG κ v y):v=kv:=by
 unfold sK at h;split at h<;>try (cases h;done)
 ·obtain rfl:=Option.some.inj h;simp only [aG,bb,den] at hd;exact hd.1
 rename_i cs;rw [Option.map_eq_some_iff] at h;obtain ⟨l,h1,rfl⟩:=h;obtain ⟨vs,h2,h3⟩:=hd;rw [h2,gv h1 h3]
def fnd (k:Value):List MapEntry->Nat->Option (Nat×Value)
 |[],_=>none
 |e::es,i=>if eqW k e.key=true then some (i,e.val) else fnd k es (i+1)
theorem Kp (k:Value):∀(es:List MapEntry) (i:Nat),(fnd k es i).map (·.2)=gK k (es.map dY)
 |[],_=>rfl
 |e::es,i=>by
  simp only [fnd,List.map_cons,gK,dY,qe];split
  ·rfl
  exact Kp k es (i+1)
theorem kK {kt:TypeId} {k:Value} {w:World}:∀(es:List MapEntry) (i:Nat),(∀e∈es,∀w,(Op.equal kt k e.key).run P w= .ok (eqW k e.key) w)->(Instr.findAsking kt k es i).run P w= .ok (fnd k es i) w
 |[],i,_=>rfl
 |e::es,i,h=>by
  simp only [Instr.findAsking,Sem.run_bind,h e (by simp) w,Result.andThen_ok,fnd];split
  ·rfl
  exact kK es (i+1) (fun e' he'=>h e' (by simp [he']))
theorem rp {dsc:TypeDesc} {k:Value}:∀(es:List MapEntry) (i:Nat),(∀e∈es,Instr.sameNow dsc k e.key=none∨Instr.sameNow dsc k e.key=some (eqW k e.key))->Instr.findNow dsc k es i=none∨Instr.findNow dsc k es i=some (fnd k es i)
 |[],i,_=> .inr rfl
 |e::es,i,h=>by
  simp only [Instr.findNow,fnd];rcases h e (by simp) with h1|h1
  ·rw [h1];exact .inl rfl
  rw [h1];cases hq:eqW k e.key with
  |true=>exact .inr rfl
  |false=>simpa using rp es (i+1) (fun e' he'=>h e' (by simp [he']))
theorem j8 {kt:TypeId} {k:Value} {es:List MapEntry} (h:MK P kt k (es.map dY)) (w:World):(Instr.findKey kt k es).run P w= .ok (fnd k es 0) w:=by
 obtain ⟨_,dsc,hd,hc⟩:=h;have hk:∀e∈es,(∀w,(Op.equal kt k e.key).run P w= .ok (eqW k e.key) w)/\(Instr.sameNow dsc k e.key=none∨Instr.sameNow dsc k e.key=some (eqW k e.key)):=fun e he=>by
  obtain ⟨k',v',h1,h2,h3,_⟩:=hc (dY e) (List.mem_map_of_mem he);have h4:e.key=k':=by
   simp only [dY,ent,C.lit.injEq,Value.agg.injEq] at h1;have:=congrArg Array.toList h1;simpa using (List.cons.inj this).1
  rw [h4];exact ⟨h2,h3⟩
 unfold Instr.findKey;simp only [Sem.run_bind,run_underlying hd,Result.andThen_ok];rcases rp es 0 (fun e he=>(hk e he).2) with h1|h1
 ·rw [h1];exact kK es 0 (fun e he=>(hk e he).1)
 rw [h1];rfl
theorem xR (hW:RW e st.H st.nx σ w) {nm s:Nat} {v:Value} (hv:aG (kx e st.H st.nx σ w) v (.val (.one (.own nm s 0 0)))) {B:Blk} (hB:st.H nm=some B) (hs:B.st=s):
  v=σ nm/\∃b es clock,σ nm= .map (some b)/\w.heap[b]? =some (.map es clock)/\B.cs=es.toList.map dY/\B.sz=0/\B.n=0/\e.w0.heap.size<=b:=by
 simp only [aG,bb,den] at hv;obtain ⟨h1,h2,h3⟩:=hv.2.2 B hB hs;rcases (hW.blk nm B hB).2 with h|⟨g1,g2,b,es,clock,g3,g4,g5,g6⟩
 ·exact (h.1 h3).elim
 exact ⟨h1,b,es,clock,g3,g5,g6,g1,g2,g4⟩
theorem rq {t kt:TypeId} {z:Value} (h:mpT P t=some (kt,z)):∃et,P.underlying t=some (.map kt et)/\∀w,(zeroValue et).run P w= .ok z w:=by
 unfold mpT at h;split at h<;>try (cases h;done)
 rename_i k e' hu;split at h<;>try (cases h;done)
 rename_i z' hz;simp only [Option.some.injEq,Prod.mk.injEq] at h;obtain ⟨rfl,rfl⟩:=h;refine ⟨e',hu,fun w=>?_⟩;cases hi:P.info? e' with
 |none=>rw [hi] at hz;cases hz
 |some i=>
  rw [hi] at hz;have hz':i.zero=some z':=by simpa using hz
  simp [zeroValue,typeInfo,hi,hz']
theorem iY {b:Nat} {es:Array MapEntry} {clock:Nat} (h:w.heap[b]? =some (.map es clock)):(getObj b).run P w= .ok (.map es clock) w:=by
 simp only [getObj,Sem.run];rw [h]
theorem m6 (hW:RW e st.H st.nx σ w) (ht:∀t,aG (kx e st.H st.nx σ w) (a.tmps.getD t undef) (st.tm t)) (h:ir P st o.op=some (p,x)) (hp:p):Yl P o a w (kx e st.H st.nx σ w) x:=by
 generalize hop:o.op=op at h;cases op<;>simp only [ir] at h<;>try (cases h;done)
 case lookup t m k ok=>
  have hm:=bc ht m;have hk:=bc ht k;split at h<;>try (cases h;done)
  rename_i nm s n sz kv kt z hem hek hmp;rw [hem] at hm;split at h<;>try (cases h;done)
  rename_i B hB;split at h<;>try (cases h;done)
  rename_i y hl;simp only [Option.some.injEq,Prod.mk.injEq] at h;obtain ⟨rfl,rfl⟩:=h;obtain ⟨hs,rfl,rfl,hMK⟩:=hp;obtain ⟨h1,b,es,clock,h2,h3,h4,_⟩:=xR hW hm hB hs;have hkv:=kJ hek hk;obtain ⟨et,h5,h6⟩:=rq hmp;rw [h4] at hMK hl;have hlook:∀w',FL w w'->(Instr.lookup t (a.eval m) (a.eval k) ok).run P w'= .ok (if ok then .tuple #[(gK kv (es.toList.map dY)).getD z,.bool (gK kv (es.toList.map dY)).isSome] else (gK kv (es.toList.map dY)).getD z) w':=by
   intro w' hF;have hb:w'.heap[b]? =some (.map es clock):=by rw [hF.2 b (Array.getElem?_eq_some_iff.1 h3).1];exact h3
   have hf:=j8 hMK w';have hg:=Kp kv es.toList 0;unfold Instr.lookup;simp only [Sem.run_bind,run_underlying h5,Result.andThen_ok,h1,h2,hkv,iY hb,Sem.run_pure,hMK.1,hf];rw [←hg];cases fnd kv es.toList 0 with
   |none=>cases ok<;>simp [h6 w']
   |some q=>cases ok<;>simp
  refine ⟨if ok then .tuple #[(gK kv (es.toList.map dY)).getD z,.bool (gK kv (es.toList.map dY)).isSome] else (gK kv (es.toList.map dY)).getD z,fun w' hF=>by simp only [execOp,hop,Sem.run_bind,hlook w' (hF.resolve_right (by simp [reads,hop])),Result.andThen_ok,Sem.run_pure],?_⟩;unfold tZ at hl;split at hl<;>try (cases hl;done)
  rename_i y' hy;obtain rfl:=Option.some.inj hl;have hden:=kE (kx e st.H st.nx σ w) ((gK kv (es.toList.map dY)).getD z);rw [hy] at hden;cases ok with
  |true=>
   refine ⟨[(gK kv (es.toList.map dY)).getD z,.bool (gK kv (es.toList.map dY)).isSome],by simp,hden,?_,trivial⟩;simp only [bb,den];exact ⟨trivial,rfl⟩
  |false=>exact hden
def rt (P:Program) (st:St) (d:Nat) (t:TypeId):Option (Prop×St):=
 some (True,⟨up st.tm d (.val (.one (.own (st.nb+d) st.nx 0 0))),up st.H (st.nb+d) (some ⟨st.nx,t,0,0,[]⟩),st.nx+1,st.nb⟩)
theorem Iw {t:TypeId} (hr:Rel e k0 N st a w) (hdst:o.dst=some d) (hdN:d<N) (hop:o.op= .makeMap t none) (h:rt P st d t=some (p,st'))
  (hK:∀a' w',Rel e k0 N st' a' w'->FL w w'->K a' w'):o.wp P a w K Q:=by
 simp only [rt,Option.some.injEq,Prod.mk.injEq] at h;obtain ⟨rfl,rfl⟩:=h;obtain ⟨σ,h1,h2,h3⟩:=hr.ex;obtain ⟨k1,k2⟩:=h1.newV (nm0:=st.nb+d) (d:=st.nb+d) (row:=none) (grownBy_alloc w (.map #[] 0)) (B':=⟨st.nx,t,0,0,[]⟩) (v':= .map (some w.heap.size)) rfl (by simp) (fun r hr=> .inl (by simp [obk] at hr;omega))
  (fun _=> .inr ⟨rfl,rfl,w.heap.size,#[],0,bB _ _ _,h1.size,heap_alloc_new _ _,rfl⟩)
 rw [mm] at k1 k2;refine fv (v:= .map (some w.heap.size)) (w':=w.alloc (.map #[] 0)) ?_ ?_
 ·simp [execOp,hop,Instr.makeMap]
 rw [hdst];exact hK _ _ (hr.put k1 h2 h3 k2 (cb (st.nb+d) σ _ rfl) d hdN) (FL.alloc _ _)
def m7 (P:Program) (st:St) (t:TypeId) (m k v:Operand):Option (Prop×St):=
 match ev st m,sK (ev st k),sK (ev st v),mpT P t with
 | .val (.one (.own nm s n sz)),some kv,some vv,some (kt,_)=>match st.H nm with
  |some B=>some (B.st=s/\n=0/\sz=0/\MK P kt kv B.cs,⟨st.tm,up st.H nm (some {B with cs:=jI kv vv B.cs}),st.nx,st.nb⟩)
  |none=>none
 |_,_,_,_=>none
theorem kL {b:Nat} {ob:Obj} {es:Array MapEntry} {clock:Nat} (h0:w.heap[b]? =some (.map es clock)):∃w',(setObj b ob).run P w= .ok () w'/\w.grownBy w' (some b)/\w'.heap[b]? =some ob:=by
 have hb:b<w.heap.size:=(Array.getElem?_eq_some_iff.1 h0).1;refine ⟨{w with heap:=w.heap.setIfInBounds b ob},?_,⟨rfl,rfl,rfl,by simp,fun k _ hk=>?_⟩,?_⟩
 ·simp only [setObj,Sem.run];rw [h0]
 ·simp only [Array.getElem?_setIfInBounds];rw [if_neg (fun e=>hk (by rw [e]))]
 simp [hb]
theorem iM {k v:Value}:∀{es:List MapEntry} {i:Nat},fnd k es i=none->jI k v (es.map dY)=es.map dY++[ent k v]
 |[],_,_=>rfl
 |e::es,i,h=>by
  simp only [fnd] at h;split at h<;>try (cases h;done)
  rename_i hne;simp only [List.map_cons,jI,dY,qe];rw [if_neg hne];have:=iM (v:=v) h;rw [this];rfl
theorem iN {k v:Value}:∀{es:List MapEntry} {i j:Nat} {u:Value},fnd k es i=some (j,u)->i<=j/\j-i<es.length/\(∃x,es[j-i]? =some x/\eqW k x.key=true)/\
  jI k v (es.map dY)=((es.map dY).set (j-i) (ent k v))
 |[],_,_,_,h=>by cases h
 |e::es,i,j,u,h=>by
  simp only [fnd] at h;split at h
  ·rename_i hq;simp only [Option.some.injEq,Prod.mk.injEq] at h;obtain ⟨rfl,rfl⟩:=h;refine ⟨Nat.le_refl _,by simp,⟨e,by simp,hq⟩,?_⟩;simp only [List.map_cons,jI,dY,qe];rw [if_pos hq];simp
  rename_i hne;obtain ⟨h1,h2,⟨x,h3,h4⟩,h5⟩:=iN (v:=v) h;have e1:j-i=(j-(i+1))+1:=by omega
  refine ⟨by omega,by simp;omega,⟨x,by rw [e1];simpa using h3,h4⟩,?_⟩;rw [e1];simp only [List.map_cons,jI,dY,qe];rw [if_neg hne];simp only [List.set_cons_succ];rw [←h5]
theorem yb {t:TypeId} {m k v:Operand} (hr:Rel e k0 N st a w) (hdst:o.dst=none) (hop:o.op= .mapUpdate t m k v) (h:m7 P st t m k v=some (p,st')) (hp:p)
  (hK:∀a' w',Rel e k0 N st' a' w'->K a' w'):o.wp P a w K Q:=by
 obtain ⟨σ,h1,h2,h3⟩:=hr.ex;have hm:=bc h2 m;have hk:=bc h2 k;have hv:=bc h2 v;unfold m7 at h;split at h<;>try (cases h;done)
 rename_i nm s n sz kv vv kt z hem hek hev hmp;rw [hem] at hm;split at h<;>try (cases h;done)
 rename_i B hB;simp only [Option.some.injEq,Prod.mk.injEq] at h;obtain ⟨rfl,rfl⟩:=h;obtain ⟨hs,rfl,rfl,hMK⟩:=hp;obtain ⟨g1,b,es,clock,g2,g3,g4,g5,g6,g7⟩:=xR h1 hm hB hs;have hkv:=kJ hek hk;have hvv:=kJ hev hv;obtain ⟨et,h5,_⟩:=rq hmp;rw [g4] at hMK;have hf:=j8 hMK w;have hlt:b<w.heap.size:=(Array.getElem?_eq_some_iff.1 g3).1;have key:∃w' es' clock',(Instr.mapUpdate t (a.eval m) (a.eval k) (a.eval v)).run P w= .ok () w'/\w.grownBy w' (some b)/\w'.heap[b]? =some (.map es' clock')/\jI kv vv (es.toList.map dY)=es'.toList.map dY:=by
  cases hfn:fnd kv es.toList 0 with
  |none=>
   obtain ⟨w',q1,q2,q3⟩:=kL (P:=P) (w:=w) (b:=b) (ob:= .map (es.push {key:=kv,val:=vv,born:=clock}) (clock+1)) g3;refine ⟨w',_,_,?_,q2,q3,?_⟩
   ·unfold Instr.mapUpdate;simp only [Sem.run_bind,run_underlying h5,Result.andThen_ok,g1,g2,hkv,hvv,iY g3,hMK.1,hf,hfn,q1]
   rw [iM hfn];simp [dY,ent]
  |some q=>
   obtain ⟨j,u⟩:=q;obtain ⟨q1,q2,⟨x,q3,q4⟩,q5⟩:=iN (v:=vv) hfn;simp only [Nat.sub_zero] at q2 q3 q5;obtain ⟨w',r1,r2,r3⟩:=kL (P:=P) (w:=w) (b:=b) (ob:= .map (es.modify j fun e=>{e with key:=kv,val:=vv}) clock) g3;refine ⟨w',_,_,?_,r2,r3,?_⟩
   ·have hx:es[j]? =some x:=by simpa using q3
    have hsb:Instr.sameBits 10000 x.key kv=true:=by
     obtain ⟨_,dsc,_,hc⟩:=hMK;obtain ⟨k',v',c1,_,_,c4⟩:=hc (dY x) (List.mem_map_of_mem (List.mem_of_getElem? q3));have h4:x.key=k':=by
      simp only [dY,ent,C.lit.injEq,Value.agg.injEq] at c1;have:=congrArg Array.toList c1;simpa using (List.cons.inj this).1
     rw [h4] at q4 ⊢;exact c4 q4
    unfold Instr.mapUpdate;simp only [Sem.run_bind,run_underlying h5,Result.andThen_ok,g1,g2,hkv,hvv,iY g3,Sem.run_pure,hMK.1,hf,hfn,hx,Option.map_some,Option.getD_some,Instr.keyThatStays,hsb,if_true,r1]
   rw [q5];apply List.ext_getElem?;intro i;simp only [List.getElem?_set,List.getElem?_map,Array.getElem?_toList,Array.getElem?_modify,List.length_map,Array.length_toList];by_cases hij:j=i
   ·subst hij;have hjl:j<es.size:=by simpa using q2
    simp [hjl,dY,ent]
   simp [hij]
 obtain ⟨w',es',clock',r1,r2,r3,r4⟩:=key;obtain ⟨k1,k2⟩:=h1.updV (row:=some b) (cs:=jI kv vv B.cs) hB r2 (fun r hr=>by rw [g2,←hr];rfl) (fun _=> .inr ⟨g5,g6,b,es',clock',g2,g7,r3,by rw [g4];exact r4⟩);refine om (w':=w') ?_ ?_
 ·simp only [execOp,hop,Sem.run_bind,r1,Result.andThen_ok,Sem.run_pure]
 rw [hdst];exact hK _ _ (hr.skip k1 h2 h3 k2 _)
end
def jn (P:Program) (st:St) (args:Array Operand) (argTypes:Array TypeId):Option (Prop×AV):=
 match args.toList,argTypes.toList with
 |[x],[t]=>match ev st x,elT P t with
  | .val (.one (.lit (.slice _ _ c))),some _=>some (True,one (.int .i64 c))
  |_,_=>none
 |_,_=>none
def jo (mx:Bool) (st:St) (args:Array Operand):Option (Prop×AV):=
 match args.toList with
 |[x,y]=>match ev st x,ev st y with
  | .val (.one (.lit (.int k a))),.val (.one (.lit (.int _ b)))=>some (True,one (.int k (if mx then max a b else min a b)))
  |_,_=>none
 |_=>none
def jp (P:Program) (st:St) (t:TypeId) (x:Operand) (lo hi:Option Operand):Option (Prop×AV):=
 match ev st x,elT P t,bnd st lo 0,bnd st hi 0 with
 | .val (.one (.lit (.slice none 0 0))),some _,some (p1,l),some (p2,h)=>some (p1/\p2/\l=0/\h=0,one (.slice none 0 0))
 |_,_,_,_=>none
def wC (P : Program) (st : St) (d : Nat) (args : Array Operand) (argTypes : Array TypeId) : Option (Prop × St) :=
  match args.toList, argTypes.toList with
  | [s, x], [t, t'] => match ev st s, ev st x, elT P t, P.underlying t' with
    | .val (.one (.lit (.slice none 0 0))), .val (.one (.lit (.int _ n))), some (E, sz, by_), some (.int _) => match zrT P E with
      | some zs => some (zs.length = sz ∧ sz ≠ 0 ∧ 0 < n ∧ n * by_ ≤ 140737488355328 ∧ n ≤ 4611686018427387904,
          ⟨up st.tm d (.val (.one (.own (st.nb + d) st.nx n.toNat sz))), up st.H (st.nb + d) (some ⟨st.nx, E, sz, n.toNat, eA n.toNat (zs.map .lit)⟩), st.nx + 1, st.nb⟩)
      | none => none
    | _, _, _, _ => none
  | _, _ => none
def ru (P : Program) (st : St) (d : Nat) (t : TypeId) (x : Operand) (lo hi : Option Operand) : Option (Prop × St) :=
  match ev st x, lo, hi, elT P t with
  | .val (.one (.own nm s n sz)), none, some h, some (_, sz', _) => match ev st h, st.H nm with
    | .val (.one (.lit (.int _ i))), some B => some (sz = sz' ∧ sz ≠ 0 ∧ B.st = s ∧ 0 ≤ i ∧ i ≤ n,
        ⟨up st.tm d (.val (.one (.own (st.nb + d) st.nx i.toNat sz))), up (up st.H nm none) (st.nb + d) (some ⟨st.nx, B.E, sz, i.toNat, B.cs.take (i.toNat * sz)⟩), st.nx + 1, st.nb⟩)
    | _, _ => none
  | _, _, _, _ => none
section
variable {P : Program} {e : En} {k0 : Kx} {N : Nat} {st st' : St} {a : Act} {w : World} {σ : Nat → Value} {o : Oper} {p : Prop} {x : AV} {d : Nat} {K : Act → World → Prop} {Q : Exit → Act → World → Prop}
theorem ox {args:Array Operand} {argTypes:Array TypeId} (ht:∀t,aG (kx e st.H st.nx σ w) (a.tmps.getD t undef) (st.tm t)) (hop:o.op= .call {callee:= .builtin .cap,args,argTypes}) (h:jn P st args argTypes=some (p,x)):Yl P o a w (kx e st.H st.nx σ w) x:=by
 unfold jn at h;split at h<;>try (cases h;done)
 rename_i y t hargs htys;have ha:args= #[y]:=Array.toList_inj.1 hargs;have hty:argTypes= #[t]:=Array.toList_inj.1 htys;subst ha hty;have hy:=bc ht y;split at h<;>try (cases h;done)
 rename_i ad n c el hey hel;rw [hey] at hy;simp only [Option.some.injEq,Prod.mk.injEq] at h;obtain ⟨rfl,rfl⟩:=h;simp only [aG,bb,den] at hy;obtain ⟨e',sz,by_⟩:=el;obtain ⟨g1,_⟩:=dZ hel;refine ⟨.int .i64 c,fun w' _=>?_,by simp only [aG,bb,den];exact ⟨trivial,rfl⟩⟩;simp [execOp,hop,resolve,invoke,builtin,hy.1,Builtin.cap_,run_underlying g1,goInt]
theorem kM {args:Array Operand} {argTypes:Array TypeId} (mx:Bool) (ht:∀t,aG (kx e st.H st.nx σ w) (a.tmps.getD t undef) (st.tm t)) (hop:o.op= .call {callee:= .builtin (if mx then .max else .min),args,argTypes}) (h:jo mx st args=some (p,x)):Yl P o a w (kx e st.H st.nx σ w) x:=by
 unfold jo at h;split at h<;>try (cases h;done)
 rename_i y z hargs;have ha:args= #[y,z]:=Array.toList_inj.1 hargs;subst ha;have hy:=bc ht y;have hz:=bc ht z;split at h<;>try (cases h;done)
 rename_i k n k' m hey hez;rw [hey] at hy;rw [hez] at hz;simp only [Option.some.injEq,Prod.mk.injEq] at h;obtain ⟨rfl,rfl⟩:=h;simp only [aG,bb,den] at hy hz;refine ⟨.int k (if mx then max n m else min n m),fun w' _=>?_,by simp only [aG,bb,den];exact ⟨trivial,rfl⟩⟩;cases mx
 ·simp [execOp,hop,resolve,invoke,builtin,hy.1,hz.1,Lib.run_min_ints]
 simp [execOp,hop,resolve,invoke,builtin,hy.1,hz.1,Lib.run_max_ints]
theorem oy {t:TypeId} {y:Operand} {lo hi:Option Operand} (ht:∀t,aG (kx e st.H st.nx σ w) (a.tmps.getD t undef) (st.tm t)) (hop:o.op= .slice t y lo hi none) (h:jp P st t y lo hi=some (p,x)) (hp:p):Yl P o a w (kx e st.H st.nx σ w) x:=by
 unfold jp at h;have hy:=bc ht y;split at h<;>try (cases h;done)
 rename_i el p1 l p2 hh hey hel hb1 hb2;rw [hey] at hy;simp only [Option.some.injEq,Prod.mk.injEq] at h;obtain ⟨rfl,rfl⟩:=h;obtain ⟨hp1,hp2,rfl,rfl⟩:=hp;simp only [aG,bb,den] at hy;obtain ⟨e',sz,by_⟩:=el;obtain ⟨g1,j,g2,g3,_⟩:=dZ hel;refine ⟨.slice none 0 0,fun w' _=>?_,by simp only [aG,bb,den];exact ⟨trivial,rfl⟩⟩;have e1:(Instr.sliceBounds true 0 0 (lo.map a.eval) (hi.map a.eval) none).run P w'= .ok (0,0,0) w':=by
  rcases jG ht hb1 hp1 with ⟨rfl,_⟩|⟨z1,k1,rfl,q1⟩<;>rcases jG ht hb2 hp2 with ⟨rfl,_⟩|⟨z2,k2,rfl,q2⟩
  ·simp [Instr.sliceBounds]
  ·simp [Instr.sliceBounds,q2,Instr.sliceBound,asIntOf]
  ·simp [Instr.sliceBounds,q1,Instr.sliceBound,asIntOf]
  simp [Instr.sliceBounds,q1,q2,Instr.sliceBound,asIntOf]
 simp [execOp,hop,hy.1,Instr.sliceAt,run_underlying g1,Instr.slice,e1,sizeOf,typeInfo,g2]
theorem t6 {args:Array Operand} {argTypes:Array TypeId} (hr:Rel e k0 N st a w) (hdst:o.dst=some d) (hdN:d<N) (hop:o.op= .call {callee:= .builtin .append,args,argTypes}) (h:wC P st d args argTypes=some (p,st')) (hp:p)
  (hK:∀a' w',Rel e k0 N st' a' w'->K a' w'):o.wp P a w K Q:=by
 obtain ⟨σ,h1,h2,h3⟩:=hr.ex;unfold wC at h;split at h<;>try (cases h;done)
 rename_i s y t t' hargs htys;have ha:args= #[s,y]:=Array.toList_inj.1 hargs;have hty:argTypes= #[t,t']:=Array.toList_inj.1 htys;subst ha hty;have hs:=bc h2 s;have hy:=bc h2 y;split at h<;>try (cases h;done)
 rename_i k n E sz by_ kn hes hey hel hu;rw [hes] at hs;rw [hey] at hy;split at h<;>try (cases h;done)
 rename_i zs hz;simp only [Option.some.injEq,Prod.mk.injEq] at h;obtain ⟨rfl,rfl⟩:=h;obtain ⟨hzs,hsz,hn0,hb,hn⟩:=hp;simp only [aG,bb,den] at hs hy;obtain ⟨z,q1,q2,q3⟩:=jm hz;obtain ⟨g1,i,g2,g3,g4⟩:=dZ hel;have hzsz:z.cells.size=sz:=by rw [←hzs,←q1];simp
 have hzi:i.zero=some z:=by
  have:=q3 w;cases hiz:i.zero with
  |none=>simp [zeroValue,typeInfo,g2,hiz] at this
  |some z'=>simp [zeroValue,typeInfo,g2,hiz] at this;rw [this]
 obtain ⟨m,rfl⟩:∃m:Nat,n=(m:Int):=⟨n.toNat,by omega⟩;have hm:0<m:=by omega
 have hbm:m*by_<=140737488355328:=by
  have:((m*by_:Nat):Int)<=140737488355328:=by rw [Int.natCast_mul];exact hb
  omega
 have hfit:Builtin.nextslicecap (0+m) 0*i.bytes<=281474976710656:=by
  have:Builtin.nextslicecap (0+m) 0=m:=by simp [Builtin.nextslicecap,hm]
  rw [this,g4];omega
 have hrun:=Lib.run_append_grow_zeros (P:=P) w t t' o.type E i z k kn g1 hu g2 hzi none 0 0 [] (by simp [Builtin.firstCells]) m hm (by rw [g3];omega) (by omega) (by omega) (by rw [g4];omega) hfit;simp only [Nat.zero_add] at hrun;have hcap:=grownCap_ge w m 0 E;have hzc:∀n,(Builtin.zeroCells z.cells n).toList=eA n zs:=fun n=>by
  have:=jH z.cells n;rw [q1] at this;simp only [madeCells] at this;simpa [Builtin.zeroCells] using this
 have hg:w.grownBy (w.drew.alloc (.cells ((#[]:Array Value)++Builtin.zeroCells z.cells m++Builtin.zeroCells z.cells (grownCap w m 0 E-m)) E)) none:=
  ⟨rfl,rfl,rfl,by simp,fun k hk _=>Below.heap_alloc _ _ _ hk⟩
 obtain ⟨k1,k2⟩:=h1.new (nm0:=st.nb+d) (d:=st.nb+d) (row:=none) hg (B':=⟨st.nx,E,sz,m,eA m (zs.map .lit)⟩) (v':= .slice (some ⟨w.heap.size,0,none⟩) m (grownCap w m 0 E)) (xs:=eA m zs) rfl hsz (by simp [dh,hzs]) (by simp)
  (fun r hr=> .inl (by simp [obk] at hr;omega)) (by
   refine ⟨by simp [dh,hzs],.inr ⟨w.heap.size,grownCap w m 0 E,_,rfl,h1.size,heap_alloc_new w.drew _,hcap,grownCap_le_maxLen _ _ _ _ (by unfold maxLen;omega),?_,?_⟩⟩
   ·simp only [Array.size_append,Array.size_empty,Nat.zero_add];have s1:(Builtin.zeroCells z.cells m).size=m*sz:=by have:=congrArg List.length (hzc m);simpa [dh,hzs] using this
    have s2:(Builtin.zeroCells z.cells (grownCap w m 0 E-m)).size=(grownCap w m 0 E-m)*sz:=by have:=congrArg List.length (hzc (grownCap w m 0 E-m));simpa [dh,hzs] using this
    rw [s1,s2,←Nat.add_mul];congr 1;omega
   simp only [Array.toList_append,List.nil_append,hzc];rw [List.take_left'];simp [dh,hzs]) (gw (dN _ _ q2) _)
 rw [mm] at k1 k2;refine fv (v:= .slice (some ⟨w.heap.size,0,none⟩) m (grownCap w m 0 E)) (w':=w.drew.alloc (.cells ((#[]:Array Value)++Builtin.zeroCells z.cells m++Builtin.zeroCells z.cells (grownCap w m 0 E-m)) E)) ?_ ?_
 ·simp only [execOp,hop,resolve,Sem.run_bind,Sem.run_pure,Result.andThen_ok,invoke,builtin,List.map_toArray,List.map_cons,List.map_nil,hs.1,hy.1,hrun]
 rw [hdst];refine hK _ _ (hr.put k1 h2 h3 k2 ?_ d hdN);exact cb (st.nb+d) σ _ rfl
theorem sL {t : TypeId} {y : Operand} {lo hi : Option Operand} (hr : Rel e k0 N st a w) (hdst : o.dst = some d) (hdN : d < N) (hop : o.op = .slice t y lo hi none) (h : ru P st d t y lo hi = some (p, st')) (hp : p)
    (hK : ∀ a' w', Rel e k0 N st' a' w' → FL w w' → K a' w') : o.wp P a w K Q := by
  obtain ⟨σ, h1, h2, h3⟩ := hr.ex
  unfold ru at h
  have hy := bc h2 y
  split at h <;> try (cases h; done)
  rename_i nm s n sz hop2 E' sz' by_ hey hel
  have hh := bc h2 hop2
  rw [hey] at hy
  split at h <;> try (cases h; done)
  rename_i k i B heh hB
  rw [heh] at hh
  simp only [Option.some.injEq, Prod.mk.injEq] at h
  obtain ⟨rfl, rfl⟩ := h
  obtain ⟨rfl, hsz, hs, hi0, hin⟩ := hp
  simp only [aG, bb, den] at hy hh
  obtain ⟨f1, f2, f3⟩ := hy.2.2 B hB hs
  have f1' : a.eval y = σ nm := f1
  obtain ⟨_, g2, xs, g3, g4⟩ := h1.rowOf hB (.inl (by rw [f3]; exact hsz))
  obtain ⟨g5, j, g6, g7, _⟩ := dZ hel
  obtain ⟨m, rfl⟩ : ∃ m : Nat, i = (m : Int) := ⟨i.toNat, by omega⟩
  have hmn : m ≤ B.n := by omega
  subst f3
  obtain ⟨ad, cap, hv, hmc⟩ : ∃ ad cap, σ nm = .slice ad B.n cap ∧ m ≤ cap := by
    rcases g3.2 with ⟨q1, q2⟩ | ⟨g, cap, cur, q1, _, _, q2, _⟩
    · exact ⟨none, 0, by rw [q2]; exact q1, by omega⟩
    exact ⟨_, cap, q1, by omega⟩
  have hown : w.ownsRow e.w0.heap.size B.E B.sz (.slice ad m cap) m (xs.take (m * B.sz)) := by
    have hml : m * B.sz ≤ xs.length := by rw [g3.1]; exact Nat.mul_le_mul_right _ hmn
    refine ⟨by simp; omega, ?_⟩
    rcases g3.2 with ⟨q1, q2⟩ | ⟨g, cap', cur, q1, q2, q3, q4, q5, q6, q7⟩
    · rw [hv] at q1
      simp only [Value.slice.injEq] at q1
      obtain ⟨rfl, _, rfl⟩ := q1
      have : m = 0 := by omega
      subst this
      exact .inl ⟨rfl, rfl⟩
    rw [hv] at q1
    simp only [Value.slice.injEq] at q1
    obtain ⟨rfl, _, rfl⟩ := q1
    refine .inr ⟨g, cap, cur, rfl, q2, q3, hmc, q5, q6, ?_⟩
    rw [← q7, List.take_take]
    congr 1
    rw [g3.1] at hml
    omega
  obtain ⟨k1, k2⟩ := h1.new (nm0 := nm) (d := st.nb + d) (row := none) (w' := w) ⟨rfl, rfl, rfl, Nat.le_refl _, fun _ _ _ => rfl⟩ (B' := ⟨st.nx, B.E, B.sz, m, B.cs.take (m * B.sz)⟩) (v' := .slice ad m cap) rfl hsz (by
      show (List.take (m * B.sz) B.cs).length = m * B.sz
      have : m * B.sz ≤ B.cs.length := by rw [g2]; exact Nat.mul_le_mul_right _ hmn
      simp; omega) (by simp) (fun r hr => .inr ⟨by rw [hv]; cases ad <;> simpa [obk] using hr, B, hB⟩) hown (g4.take _)
  refine fv (v := .slice ad m cap) (w' := w) ?_ ?_
  · have e1 : (Instr.sliceBounds true B.n cap none (some (.int k (m : Int))) none).run P w = .ok (0, m, cap) w := by
      have c1 : (0 : Int) ≤ (m : Int) ∧ (m : Int) ≤ (cap : Int) := ⟨by omega, by omega⟩
      simp only [Instr.sliceBounds, Instr.sliceBound, asIntOf, Sem.run_bind, Sem.run_pure, Result.andThen_ok, Sem.run_ite, if_pos c1, Int.toNat_natCast]
    have e2 : (if cap = 0 then ad else ad.map (·.add (0 * B.sz))) = ad := by
      split
      · rfl
      cases ad with
      | none => rfl
      | some q => simp [Addr.add]
    simp only [execOp, hop, f1', hv, hh.1, Option.map_some, Option.map_none, Sem.run_bind, Instr.sliceAt, run_underlying g5, Result.andThen_ok, Instr.slice, e1, sizeOf, typeInfo, run_program, g6, g7, Sem.run_pure, Nat.sub_zero, e2]
  rw [hdst]
  refine hK _ _ (hr.put k1 h2 h3 k2 ?_ d hdN) (FL.refl w)
  exact cb (st.nb + d) σ _ rfl
end
mutual
def az:C->Bool
 | .lit _=>true
 | .sh _ _ cs=>av cs
 | .sp cs=>av cs
 |_=>false
def av:List C->Bool
 |[]=>true
 |c::cs=>az c&&av cs
end
def B6:C->Bool
 | .lit _=>true
 |_=>false
def aI (a:A1):Bool:=av a.cells
def FT (a:A1):Bool:=a.cells.all B6
def bu (f:A1->Bool):AV->Bool
 | .val a=>f a
 | .tup l=>l.all f
 | .dead=>true
mutual
theorem cP {κ κ':Kx} (h:∀b,κ.S b->κ'.S b/\κ'.w.heap[b]? =κ.w.heap[b]?):∀{c:C} {v:Value},az c=true->den κ v c->den κ' v c
 | .lit x,v,_,d=>by simp only [den] at d ⊢;exact d
 | .sh sz n cs,v,hp,d=>by
  simp only [az] at hp;simp only [den] at d ⊢;obtain ⟨a,cap,h1,h2,h3,h4,h5,h6⟩:=d;refine ⟨a,cap,h1,h2,h3,h4,h5,?_⟩;rcases h6 with h6|⟨b,off,h6,h7,h8⟩
  ·exact .inl h6
  exact .inr ⟨b,off,h6,(h b h7).1,jJ h (h b h7).2 hp h8⟩
 | .sp cs,v,hp,d=>by
  simp only [az] at hp;simp only [den] at d ⊢;obtain ⟨b,off,h1,h2,h3⟩:=d;exact ⟨b,off,h1,(h b h2).1,jJ h (h b h2).2 hp h3⟩
 | .own ..,v,hp,d=>by simp [az] at hp
 | .ptr ..,v,hp,d=>by simp [az] at hp
 | .dead,v,hp,d=>by simp [az] at hp
 | .vw ..,v,hp,d=>by simp [az] at hp
 | .clo ..,v,hp,d=>by simp [az] at hp
 | .e0,v,hp,d=>by simp [az] at hp
theorem jJ {κ κ':Kx} (h:∀b,κ.S b->κ'.S b/\κ'.w.heap[b]? =κ.w.heap[b]?) {b:Nat} (hb:κ'.w.heap[b]? =κ.w.heap[b]?):∀{cs:List C} {off:Nat},av cs=true->denM κ b off cs->denM κ' b off cs
 |[],off,_,_=>by simp [denM]
 |c::cs,off,hp,d=>by
  simp only [av,Bool.and_eq_true] at hp;simp only [denM] at d ⊢;obtain ⟨⟨u,h1,h2⟩,h3⟩:=d;exact ⟨⟨u,by rw [World.cell?_of_block (w:=κ.w) hb];exact h1,cP h hp.1 h2⟩,jJ h hb hp.2 h3⟩
end
theorem fw {κ κ':Kx} (h:∀b,κ.S b->κ'.S b/\κ'.w.heap[b]? =κ.w.heap[b]?):∀{vs:List Value} {cs:List C},av cs=true->denVs κ vs cs->denVs κ' vs cs
 |[],[],_,_=>trivial
 |_::_,_::_,hp,d=>by
  simp only [av,Bool.and_eq_true] at hp;exact ⟨cP h hp.1 d.1,fw h hp.2 d.2⟩
 |[],_::_,_,d=>d.elim
 |_::_,[],_,d=>d.elim
theorem mq {κ κ':Kx} (h:∀b,κ.S b->κ'.S b/\κ'.w.heap[b]? =κ.w.heap[b]?):∀{a:A1} {v:Value},aI a=true->bb κ v a->bb κ' v a
 | .one c,v,hp,d=>by
  simp only [aI,A1.cells,av,Bool.and_true] at hp;exact cP h hp d
 | .agg cs,v,hp,⟨vs,h1,h2⟩=>⟨vs,h1,fw h hp h2⟩
theorem iZ {κ κ':Kx} (h:∀b,κ.S b->κ'.S b/\κ'.w.heap[b]? =κ.w.heap[b]?):∀{vs:List Value} {l:List A1},l.all aI=true->cz κ vs l->cz κ' vs l
 |[],[],_,_=>trivial
 |_::_,_::_,hp,d=>by
  simp only [List.all_cons,Bool.and_eq_true] at hp;exact ⟨mq h hp.1 d.1,iZ h hp.2 d.2⟩
 |[],_::_,_,d=>d.elim
 |_::_,[],_,d=>d.elim
theorem sM {κ κ':Kx} (h:∀b,κ.S b->κ'.S b/\κ'.w.heap[b]? =κ.w.heap[b]?) {v:Value} {x:AV} (hp:bu aI x=true) (d:aG κ v x):aG κ' v x:=by
 cases x with
 |val a=>exact mq h hp d
 |tup l=>obtain ⟨vs,h1,h2⟩:=d;exact ⟨vs,h1,iZ h hp h2⟩
 |dead=>trivial
theorem FH {κ κ':Kx}:∀{vs:List Value} {cs:List C},cs.all B6=true->denVs κ vs cs->denVs κ' vs cs
 |[],[],_,_=>trivial
 |_::_,c::_,hp,d=>by
  simp only [List.all_cons,Bool.and_eq_true] at hp;refine ⟨?_,FH hp.2 d.2⟩;cases c with
  |lit x=>have:=d.1;simp only [den] at this ⊢;exact this
  |_=>simp [B6] at hp
 |[],_::_,_,d=>d.elim
 |_::_,[],_,d=>d.elim
theorem mr {κ κ':Kx}:∀{a:A1} {v:Value},FT a=true->bb κ v a->bb κ' v a
 | .one c,v,hp,d=>(FH (κ':=κ') (vs:=[v]) (cs:=[c]) hp ⟨d,trivial⟩).1
 | .agg cs,v,hp,⟨vs,h1,h2⟩=>⟨vs,h1,FH hp h2⟩
theorem kN {κ κ':Kx}:∀{vs:List Value} {l:List A1},l.all FT=true->cz κ vs l->cz κ' vs l
 |[],[],_,_=>trivial
 |_::_,_::_,hp,d=>by
  simp only [List.all_cons,Bool.and_eq_true] at hp;exact ⟨mr hp.1 d.1,kN hp.2 d.2⟩
 |[],_::_,_,d=>d.elim
 |_::_,[],_,d=>d.elim
theorem mt {κ κ':Kx} {v:Value} {x:AV} (hp:bu FT x=true) (d:aG κ v x):aG κ' v x:=by
 cases x with
 |val a=>exact mr hp d
 |tup l=>obtain ⟨vs,h1,h2⟩:=d;exact ⟨vs,h1,kN hp h2⟩
 |dead=>trivial
def kIn (w:World) (T:Nat->Prop) (w':World):Kx:=⟨w.heap.size,T,w',fun _=> .slice none 0 0,fun _=>none,0⟩
def l5 (P : Program) (f : FuncId) : Prop := ∃ fn, P.funcs[f]? = some fn ∧ fn.name ≠ "runtime.NumGoroutine" ∧ fn.body.isNone = false
def ch (P:Program) (f:FuncId) (args:List A1) (res:AV):Prop:=
 l5 P f/\∀(w:World) (T:Nat->Prop) (vs:List Value),(∀b,T b->b<w.heap.size)->cz (kIn w T w) vs args->
  Calls P f vs.toArray w fun e w'=>∃v,e= .returned v/\Below w.heap.size w w'/\aG (kIn w T w') v res
def dj (st:St):C->Option (Prop×C×Bool)
 | .own nm s n sz=>if sz=0 then none else match st.H nm with
  |some B=>some (B.st=s/\av B.cs=true,.sh sz n B.cs,true)
  |none=>none
 | .ptr .. =>none
 | .dead=>none
 |c=>some (az c=true,c,false)
def fR (st:St):List C->Option (Prop×List C×Bool)
 |[]=>some (True,[],false)
 |c::cs=>match dj st c,fR st cs with
  |some (p,d,b),some (q,ds,b')=>some (p/\q,d::ds,b||b')
  |_,_=>none
def jq (st:St):A1->Option (Prop×A1×Bool)
 | .one c=>match dj st c with
  |some (p,d,b)=>some (p,.one d,b)
  |none=>none
 | .agg cs=>match fR st cs with
  |some (p,ds,b)=>some (p,.agg ds,b)
  |none=>none
def gN (st:St):List AV->Option (Prop×List A1×Bool)
 |[]=>some (True,[],false)
 | .val a::l=>match jq st a,gN st l with
  |some (p,d,b),some (q,ds,b')=>some (p/\q,d::ds,b||b')
  |_,_=>none
 |_=>none
section
variable {P : Program} {e : En} {k0 : Kx} {N : Nat} {st st' : St} {a : Act} {w : World} {σ : Nat → Value} {o : Oper} {p : Prop} {x : AV} {d : Nat} {K : Act → World → Prop} {Q : Exit → Act → World → Prop}
def eP (w:World):Kx:=kIn w (fun b=>b<w.heap.size) w
theorem kO {w:World} {b:Nat} (h:b<w.heap.size):(eP w).S b:=⟨.inl h,h,fun _ _ h=>by cases h⟩
theorem oz (hW:RW e st.H st.nx σ w) {c d:C} {b:Bool} {v:Value} (hd:den (kx e st.H st.nx σ w) v c) (h:dj st c=some (p,d,b)) (hp:p):
  den (eP w) v d/\az d=true/\(b=false->d=c):=by
 have toAll:∀b,(kx e st.H st.nx σ w).S b->(eP w).S b/\(eP w).w.heap[b]? =(kx e st.H st.nx σ w).w.heap[b]? :=fun b hb=>⟨kO hb.2.1,rfl⟩
 cases c with
 |own nm s n sz=>
  simp only [dj] at h;split at h<;>try (cases h;done)
  rename_i hsz;split at h<;>try (cases h;done)
  rename_i B hB;simp only [Option.some.injEq,Prod.mk.injEq] at h;obtain ⟨rfl,rfl,rfl⟩:=h;obtain ⟨hs,hpure⟩:=hp;simp only [den] at hd;obtain ⟨h1,h2,h3⟩:=hd.2.2 B hB hs;subst h2;subst h3;have hpub:=hW.publish hB hsz;refine ⟨?_,by simpa [az] using hpure,fun h=>by cases h⟩;have h1':v=σ nm:=h1;rw [h1'];exact cP (κ:=kx e (up st.H nm none) st.nx σ w) (fun b hb=>⟨kO hb.2.1,rfl⟩) (by simpa [az] using hpure) hpub
 |lit x=>
  simp only [dj,Option.some.injEq,Prod.mk.injEq] at h;obtain ⟨rfl,rfl,rfl⟩:=h
  exact ⟨cP toAll hp hd,hp,fun _=>rfl⟩
 |sh sz n cs=>
  simp only [dj,Option.some.injEq,Prod.mk.injEq] at h;obtain ⟨rfl,rfl,rfl⟩:=h
  exact ⟨cP toAll hp hd,hp,fun _=>rfl⟩
 |sp cs=>
  simp only [dj,Option.some.injEq,Prod.mk.injEq] at h;obtain ⟨rfl,rfl,rfl⟩:=h
  exact ⟨cP toAll hp hd,hp,fun _=>rfl⟩
 |ptr nm s off=>simp only [dj] at h;cases h
 |dead=>simp only [dj] at h;cases h
 |vw nm s off n sz=>simp only [dj,Option.some.injEq,Prod.mk.injEq] at h;obtain ⟨rfl,rfl,rfl⟩:=h;simp [az] at hp
 |clo f sh cs=>simp only [dj,Option.some.injEq,Prod.mk.injEq] at h;obtain ⟨rfl,rfl,rfl⟩:=h;simp [az] at hp
 |e0=>simp only [dj,Option.some.injEq,Prod.mk.injEq] at h;obtain ⟨rfl,rfl,rfl⟩:=h;simp [az] at hp
theorem mu (hW:RW e st.H st.nx σ w):∀{cs ds:List C} {b:Bool} {vs:List Value} {p:Prop},denVs (kx e st.H st.nx σ w) vs cs->fR st cs=some (p,ds,b)->p->denVs (eP w) vs ds/\av ds=true/\(b=false->ds=cs)
 |[],ds,b,[],p,_,h,hp=>by
  simp only [fR,Option.some.injEq,Prod.mk.injEq] at h;obtain ⟨rfl,rfl,rfl⟩:=h;exact ⟨trivial,rfl,fun _=>rfl⟩
 |[],_,_,_::_,_,hd,_,_=>hd.elim
 |_::_,_,_,[],_,hd,_,_=>hd.elim
 |c::cs,ds,b,v::vs,p,hd,h,hp=>by
  simp only [fR] at h;split at h<;>try (cases h;done)
  rename_i p1 d1 b1 p2 d2 b2 h1 h2;simp only [Option.some.injEq,Prod.mk.injEq] at h;obtain ⟨rfl,rfl,rfl⟩:=h;obtain ⟨k1,k2,k3⟩:=oz hW hd.1 h1 hp.1;obtain ⟨m1,m2,m3⟩:=mu hW hd.2 h2 hp.2;refine ⟨⟨k1,m1⟩,by simp [av,k2,m2],fun hb=>?_⟩;simp only [Bool.or_eq_false_iff] at hb;rw [k3 hb.1,m3 hb.2]
theorem t8 (hW:RW e st.H st.nx σ w) {x y:A1} {b:Bool} {v:Value} (hd:bb (kx e st.H st.nx σ w) v x) (h:jq st x=some (p,y,b)) (hp:p):bb (eP w) v y/\aI y=true/\(b=false->y=x):=by
 cases x with
 |one c=>
  simp only [jq] at h;split at h<;>try (cases h;done)
  rename_i p1 d1 b1 h1;simp only [Option.some.injEq,Prod.mk.injEq] at h;obtain ⟨rfl,rfl,rfl⟩:=h;obtain ⟨k1,k2,k3⟩:=oz hW hd h1 hp;exact ⟨k1,by simp [aI,A1.cells,av,k2],fun hb=>by rw [k3 hb]⟩
 |agg cs=>
  simp only [jq] at h;split at h<;>try (cases h;done)
  rename_i p1 d1 b1 h1;simp only [Option.some.injEq,Prod.mk.injEq] at h;obtain ⟨rfl,rfl,rfl⟩:=h;obtain ⟨vs,g1,g2⟩:=hd;obtain ⟨k1,k2,k3⟩:=mu hW g2 h1 hp;exact ⟨⟨vs,g1,k1⟩,k2,fun hb=>by rw [k3 hb]⟩
theorem oA (hW:RW e st.H st.nx σ w):∀{l:List AV} {ys:List A1} {b:Bool} {vs:List Value} {p:Prop},(vs.length=l.length/\∀i (h:i<vs.length) (h':i<l.length),aG (kx e st.H st.nx σ w) vs[i] l[i])->gN st l=some (p,ys,b)->p->
  cz (eP w) vs ys/\ys.all aI=true/\(b=false->cz (kx e st.H st.nx σ w) vs ys)
 |[],ys,b,[],p,_,h,hp=>by
  simp only [gN,Option.some.injEq,Prod.mk.injEq] at h;obtain ⟨rfl,rfl,rfl⟩:=h;exact ⟨trivial,rfl,fun _=>trivial⟩
 |[],_,_,_::_,_,hd,_,_=>by simp at hd
 |_::_,_,_,[],_,hd,_,_=>by simp at hd
 | .tup _::_,_,_,_::_,_,_,h,_=>by simp [gN] at h
 | .dead::_,_,_,_::_,_,_,h,_=>by simp [gN] at h
 | .val x::l,ys,b,v::vs,p,hd,h,hp=>by
  simp only [gN] at h;split at h<;>try (cases h;done)
  rename_i p1 d1 b1 p2 d2 b2 h1 h2;simp only [Option.some.injEq,Prod.mk.injEq] at h;obtain ⟨rfl,rfl,rfl⟩:=h;have hd0:bb (kx e st.H st.nx σ w) v x:=hd.2 0 (by simp) (by simp);obtain ⟨k1,k2,k3⟩:=t8 hW hd0 h1 hp.1;obtain ⟨m1,m2,m3⟩:=oA hW (l:=l) (vs:=vs) ⟨by simpa using hd.1,fun i h h'=>hd.2 (i+1) (by simpa using h) (by simpa using h')⟩ h2 hp.2;refine ⟨⟨k1,m1⟩,by simp [k2,m2],fun hb=>?_⟩;simp only [Bool.or_eq_false_iff] at hb;exact ⟨by rw [k3 hb.1];exact hd0,m3 hb.2⟩
def m8 (a:Act) (c:Call) (f:FuncId):Prop:=∃x,c.callee= .value x/\a.eval x= .func (.func f) #[] #[]
theorem mv {c:Call} {f:FuncId} (hop:o.op= .call c) (hcal:m8 a c f) (hf:l5 P f):(execOp a.eval o).run P w= .ok (.enter f (c.args.toList.map a.eval).toArray) w:=by
 obtain ⟨fn,hf1,hf2,hf3⟩:=hf;obtain ⟨callee,args,argTypes⟩:=c;obtain ⟨x,hx1,hx2⟩:=hcal;simp only at hx1;subst hx1;have hbn:¬fn.body=none:=fun h=>by rw [h] at hf3;cases hf3
 simp only [execOp,hop,Sem.run_bind,resolve,hx2,Deferred.ofValue];have e1:Array.map a.eval args=(List.map a.eval args.toList).toArray:=by rw [←Array.toList_map,Array.toArray_toList]
 simp [invoke,callFunc,hf1,hf2,hbn,e1]
theorem ua {c:Call} {f:FuncId} (hr:Rel e k0 N st a w) (hdst:o.dst=some d) (hdN:d<N) (hop:o.op= .call c) (hcal:m8 a c f)
  {ys:List A1} {b:Bool} (hs:gN st (c.args.toList.map (ev st))=some (p,ys,b)) (hp:p) {res:AV} (hc:ch P f ys res) (hres:bu (if b then FT else aI) res=true)
  (hK:∀a' w',Rel e k0 N ⟨up st.tm d res,st.H,st.nx,st.nb⟩ a' w'->FL w w'->K a' w'):o.wp P a w K Q:=by
 obtain ⟨σ,h1,h2,h3⟩:=hr.ex;obtain ⟨k1,k2,k3⟩:=oA h1 (vs:=c.args.toList.map a.eval) (by
  refine ⟨by simp,fun i h h'=>?_⟩;simp only [List.getElem_map];exact bc h2 _) hs hp
 obtain ⟨hf,hc⟩:=hc;have hrun:=mv (w:=w) hop hcal hf;have key:∀(T:Nat->Prop),(∀b,T b->b<w.heap.size)->cz (kIn w T w) (c.args.toList.map a.eval) ys->(∀v w',Below w.heap.size w w'->aG (kIn w T w') v res->aG (kx e st.H st.nx σ w') v res)->o.wp P a w K Q:=by
  intro T hT hargs hout;unfold Oper.wp;rw [hrun];refine (hc w T _ hT hargs).mono fun ex w' hex=>?_
  obtain ⟨v,rfl,hb,hv⟩:=hex;obtain ⟨q1,q2⟩:=h1.keep (iK hb);show K (a.put o.dst v) w';rw [hdst];exact hK _ _ (hr.put q1 h2 h3 q2 (hout v w' hb hv) d hdN) (FL.of_below hb)
 cases b with
 |true=>
  refine key (fun b=>b<w.heap.size) (fun _ h=>h) k1 fun v w' _ hv=>mt (by simpa using hres) hv
 |false=>
  refine key (kx e st.H st.nx σ w).S (fun b hb=>hb.2.1) ?_ fun v w' hb hv=>?_
  ·exact iZ (κ:=kx e st.H st.nx σ w) (κ':=kIn w (kx e st.H st.nx σ w).S w) (fun b hb=>⟨⟨.inl hb,hb.2.1,fun _ _ h=>by cases h⟩,rfl⟩) k2 (k3 rfl)
  refine sM (κ:=kIn w (kx e st.H st.nx σ w).S w') (κ':=kx e st.H st.nx σ w') (fun b hbS=>⟨?_,rfl⟩) (by simpa using hres) hv;obtain ⟨h5,h6,_⟩:=hbS;rcases h5 with h5|h5
  ·have h5':(kx e st.H st.nx σ w).S b:=h5;exact ⟨h5'.1,h6,h5'.2.2⟩
  refine ⟨.inr (Nat.le_trans h1.size h5),h6,fun nm B hB hob=>?_⟩;have:=(h1.lt hB hob).2;have h5':w.heap.size<=b:=h5;omega
end
def wD (ag:Bool) (sz off:Nat) (cs:List C):Option A1:=
 if ag then some (.agg ((cs.drop off).take sz)) else (cs[off]?).map .one
theorem K7 {ag:Bool} {sz off:Nat} {cs:List C} {a:A1} (h:wD ag sz off cs=some a):cut ag sz off cs= .val a:=by
 unfold wD at h;unfold cut;cases ag with
 |true=>simp at h;subst h;rfl
 |false=>
  simp only [Bool.false_eq_true,if_false,Option.map_eq_some_iff] at h;obtain ⟨c,h1,rfl⟩:=h;simp [h1]
def sN (P:Program) (st:St):ResultVar->Option (Prop×A1)
 | .tmp t=>match st.tm t with
  | .val a=>some (True,a)
  |_=>none
 | .cell t ty=>match st.tm t,ldT P ty with
  | .val (.one (.ptr nm s off)),some (ag,sz)=>match st.H nm with
   |some B=>match wD ag sz off B.cs with
    |some a=>some (B.st=s/\off+sz<=B.cs.length/\(ag=true∨sz=1),a)
    |none=>none
   |none=>none
  |_,_=>none
def wE:List A1->AV
 |[a]=> .val a
 |l=> .tup l
def FI:Nat->List A1->Nat->AV
 |_,[]=>fun _=> .dead
 |k,a::l=>up (FI (k+1) l) k (.val a)
def qf (tmps:Array Value):ResultVar->Sem Value
 | .tmp t=>pure (tmps.getD t undef)
 | .cell b t=>do loadVar t (←asAddr (tmps.getD b undef))
theorem KC (fn:Func) (tmps:Array Value):results fn tmps=(do let vs ←fn.results.mapM (qf tmps);pure (if h:vs.size=1 then vs[0] else .tuple vs)):=by
 unfold results;congr 1
section
variable {P : Program} {e : En} {k0 : Kx} {N : Nat} {st st' : St} {a : Act} {w : World} {σ : Nat → Value}
theorem ry (hW:RW e st.H st.nx σ w) (ht:∀t,aG (kx e st.H st.nx σ w) (a.tmps.getD t undef) (st.tm t)) {r:ResultVar} {p:Prop} {x:A1} (h:sN P st r=some (p,x)) (hp:p):
  ∃v,(qf a.tmps r).run P w= .ok v w/\bb (kx e st.H st.nx σ w) v x:=by
 cases r with
 |tmp t=>
  simp only [sN] at h;split at h<;>try (cases h;done)
  rename_i y hy;simp only [Option.some.injEq,Prod.mk.injEq] at h;obtain ⟨rfl,rfl⟩:=h;have:=ht t;rw [hy] at this;exact ⟨_,rfl,this⟩
 |cell t ty=>
  simp only [sN] at h;split at h<;>try (cases h;done)
  rename_i nm s off ag sz hy hl;split at h<;>try (cases h;done)
  rename_i B hB;split at h<;>try (cases h;done)
  rename_i y hc;simp only [Option.some.injEq,Prod.mk.injEq] at h;obtain ⟨rfl,rfl⟩:=h;obtain ⟨hs,hk,ha⟩:=hp;have h0:=ht t;rw [hy] at h0;obtain ⟨b,h1,h2,xs,h3,h4⟩:=ip hW h0 hB hs;obtain ⟨v,h5,h6⟩:=m0 (P:=P) (w:=w) (b:=b) (off:=0) hl h4 hk ha (fun j u hu=>by have:=h3.cells h1 j u hu;rwa [add_lit] at this);rw [K7 hc] at h6;refine ⟨v,?_,h6⟩;have:=h5 w (FL.refl w);rw [Nat.zero_add] at this;simp only [Instr.loadAt,Instr.sureAddr,Sem.run_bind,Sem.run_pure,Result.andThen_ok] at this;simp only [qf,h2,asAddr,Sem.run_bind,Sem.run_pure,Result.andThen_ok,this]
theorem oB {κ:Kx}:∀(l:List A1) (vs:List Value) (k:Nat),cz κ vs l->∀t,aG κ (if k<=t then vs.getD (t-k) undef else undef) (FI k l t)
 |[],[],k,_,t=>trivial
 |[],_::_,_,h,_=>h.elim
 |_::_,[],_,h,_=>h.elim
 |x::l,v::vs,k,h,t=>by
  simp only [FI];by_cases ht:t=k
  ·subst ht;rw [bB];show bb κ _ x;simpa using h.1
  rw [ck _ _ ht];have:=oB l vs (k+1) h.2 t;by_cases hk:k<=t
  ·rw [if_pos (by omega)] at this;rw [if_pos hk];rw [show t-k=(t-(k+1))+1 by omega];simpa using this
  rw [if_neg (by omega)] at this;rw [if_neg hk];exact this
end
def rz (e:En) (k0:Kx) (N:Nat) (Q:Exit->St->Prop) (ex:Exit) (a:Act) (w:World):Prop:=(∀c,ex≠ .panic c)/\∃st,Q ex st/\Rel e k0 N st a w
def Awp (P:Program) (e:En) (k0:Kx) (N:Nat) (c:Code) (Q:Exit->St->Prop) (st:St):Prop:=∀a w,Rel e k0 N st a w->c.wp P (rz e k0 N Q) a w
def qi (P:Program) (st:St):List ResultVar->Option (Prop×List A1)
 |[]=>some (True,[])
 |r::l=>match sN P st r,qi P st l with
  |some (p,a),some (q,As)=>some (p/\q,a::As)
  |_,_=>none
def qj (P:Program) (Rl:List ResultVar) (R:AV->Hp->Nat->Prop) (st:St):Prop:=
 match qi P st Rl with
 |some (p,l)=>p/\R (wE l) st.H st.nx
 |none=>False
def ArI (P:Program) (Rl:List ResultVar) (R:AV->Hp->Nat->Prop):Exit->St->Prop
 | .normal,st=>qj P Rl R st
 | .ret,st=>qj P Rl R st
 |_,_=>False
def dk (P:Program) (f:FuncId) (args:List A1) (H:Hp) (nx:Nat) (R:AV->Hp->Nat->Prop):Prop:=
 l5 P f/\∀(e:En) (σ:Nat->Value) (w:World) (vs:List Value),RW e H nx σ w->cz (kx e H nx σ w) vs args->
  Calls P f vs.toArray w fun ex w'=>∃v res H' nx' σ',ex= .returned v/\RW e H' nx' σ' w'/\Ext (kx e H nx σ w) (kx e H' nx' σ' w')/\aG (kx e H' nx' σ' w') v res/\R res H' nx'
def kP:List AV->Option (List A1)
 |[]=>some []
 | .val a::l=>(kP l).map (a::·)
 |_=>none
section
variable {P : Program} {e : En} {k0 : Kx} {N : Nat} {st st' : St} {a : Act} {w : World} {σ : Nat → Value} {o : Oper} {p : Prop} {x : AV} {d : Nat} {K : Act → World → Prop} {Q : Exit → Act → World → Prop}
theorem rA {κ:Kx}:∀{l:List AV} {ys:List A1} {vs:List Value},(vs.length=l.length/\∀i (h:i<vs.length) (h':i<l.length),aG κ vs[i] l[i])->kP l=some ys->cz κ vs ys
 |[],ys,[],_,h=>by simp [kP] at h;subst h;trivial
 |[],_,_::_,hd,_=>by simp at hd
 |_::_,_,[],hd,_=>by simp at hd
 | .val x::l,ys,v::vs,hd,h=>by
  simp only [kP,Option.map_eq_some_iff] at h;obtain ⟨zs,h1,rfl⟩:=h;exact ⟨hd.2 0 (by simp) (by simp),rA (l:=l) ⟨by simpa using hd.1,fun i h h'=>hd.2 (i+1) (by simpa using h) (by simpa using h')⟩ h1⟩
 | .tup _::_,_,_::_,_,h=>by simp [kP] at h
 | .dead::_,_,_::_,_,h=>by simp [kP] at h
theorem gy {κ:Kx}:∀{vs:List Value} {l:List A1},cz κ vs l->vs.length=l.length
 |[],[],_=>rfl
 |_::_,_::_,h=>congrArg (·+1) (gy h.2)
 |[],_::_,h=>h.elim
 |_::_,[],h=>h.elim
theorem kQ {κ:Kx} {vs:List Value} {args:List A1} {n:Nat} (hd:cz κ vs args) (hn:args.length<=n):
  (∀t,aG κ ((vs.toArray++Array.replicate (n-vs.toArray.size) undef).getD t undef) (FI 0 args t))/\(vs.toArray++Array.replicate (n-vs.toArray.size) undef).size=n:=by
 have hlen:=gy hd;refine ⟨fun t=>?_,by simp;omega⟩;have:=oB args vs 0 hd t;simp only [Nat.zero_le,if_true,Nat.sub_zero] at this;have e1:(vs.toArray++Array.replicate (n-vs.toArray.size) undef).getD t undef=vs.getD t undef:=by
  rw [Array.getD_eq_getD_getElem?,List.getD_eq_getElem?_getD];rcases Nat.lt_or_ge t vs.length with ht|ht
  ·rw [Array.getElem?_append_left (by simpa using ht)];simp
  rw [Array.getElem?_append_right (by simpa using ht),List.getElem?_eq_none ht];simp only [Array.getElem?_replicate];split<;>rfl
 rw [e1];exact this
theorem rB (hW:RW e st.H st.nx σ w) (ht:∀t,aG (kx e st.H st.nx σ w) (a.tmps.getD t undef) (st.tm t)):∀{l:List ResultVar} {p:Prop} {xs:List A1},qi P st l=some (p,xs)->p->
  ∃vs,(l.mapM (qf a.tmps)).run P w= .ok vs w/\cz (kx e st.H st.nx σ w) vs xs
 |[],p,xs,h,_=>by
  simp only [qi,Option.some.injEq,Prod.mk.injEq] at h;obtain ⟨rfl,rfl⟩:=h;exact ⟨[],rfl,trivial⟩
 |r::l,p,xs,h,hp=>by
  simp only [qi] at h;split at h<;>try (cases h;done)
  rename_i p1 a1 q As h1 h2;simp only [Option.some.injEq,Prod.mk.injEq] at h;obtain ⟨rfl,rfl⟩:=h;obtain ⟨v,k1,k2⟩:=ry hW ht h1 hp.1;obtain ⟨vs,k3,k4⟩:=rB hW ht h2 hp.2;refine ⟨v::vs,?_,k2,k4⟩;rw [List.mapM_cons];simp only [Sem.run_bind,k1,k3,Result.andThen_ok,Sem.run_pure]
theorem rD {κ:Kx} {fn:Func} {tmps:Array Value} {vs:List Value} {l:List A1} (k1:(fn.results.toList.mapM (qf tmps)).run P w= .ok vs w) (k2:cz κ vs l):∃v,(results fn tmps).run P w= .ok v w/\aG κ v (wE l):=by
 have hm:(fn.results.mapM (qf tmps)).run P w= .ok vs.toArray w:=by
  rw [Array.mapM_eq_mapM_toList];simp only [Sem.run_map,k1,Result.andThen_ok]
 have hlen:=gy k2;have hr:(results fn tmps).run P w= .ok (if h:vs.toArray.size=1 then vs.toArray[0] else .tuple vs.toArray) w:=by
  rw [KC,Sem.run_bind,hm];rfl
 refine ⟨_,hr,?_⟩;match l,vs,k2,hlen with
 |[x],[v],k2,_=>exact k2.1
 |[],[],k2,_=>exact ⟨[],rfl,trivial⟩
 |x::y::l,v::u::vs,k2,_=>exact ⟨v::u::vs,by simp,k2⟩
theorem fm {f : FuncId} {fn : Func} {c : Code} {args : List A1} {H : Hp} {nx : Nat} {R : AV → Hp → Nat → Prop} (nb : Nat) (hf : P.funcs[f]? = some fn) (hb : fn.body = some c) (hn : fn.name ≠ "runtime.NumGoroutine") {N : Nat} (hNt : fn.ntmps = N) (hN : args.length ≤ N)
    {Rl : List ResultVar} (hR : fn.results.toList = Rl) (h : ∀ e k0, Awp P e k0 N c (ArI P Rl R) ⟨FI 0 args, H, nx, nb⟩) : dk P f args H nx R := by
  subst hNt hR
  refine ⟨⟨fn, hf, hn, by rw [hb]; rfl⟩, fun e σ w vs h1 hargs => ?_⟩
  obtain ⟨t1, t2⟩ := kQ (n := fn.ntmps) hargs hN
  have hrel : Rel e (kx e H nx σ w) fn.ntmps ⟨FI 0 args, H, nx, nb⟩ { tmps := vs.toArray ++ Array.replicate (fn.ntmps - vs.toArray.size) undef, defers := [] } w :=
    ⟨⟨σ, h1, t1, Ext.refl _⟩, rfl, t2⟩
  have fin : ∀ st' a' w', Rel e (kx e H nx σ w) fn.ntmps st' a' w' → qj P fn.results.toList R st' →
      a'.defers = [] ∧ ∃ v, (results fn a'.tmps).run P w' = .ok v w' ∧ ∃ v' res H' nx' σ', Ending.returned v = .returned v' ∧ RW e H' nx' σ' w' ∧ Ext (kx e H nx σ w) (kx e H' nx' σ' w') ∧ aG (kx e H' nx' σ' w') v' res ∧ R res H' nx' := by
    intro st' a' w' hr' hq
    obtain ⟨σ', g1, g2, g3⟩ := hr'.ex
    unfold qj at hq
    split at hq <;> try (exact hq.elim; done)
    rename_i p l hl
    obtain ⟨vs, m1, m2⟩ := rB g1 g2 hl hq.1
    obtain ⟨v, m3, m4⟩ := rD (fn := fn) m1 m2
    exact ⟨hr'.df, v, m3, v, _, _, _, σ', rfl, g1, g3, m4, hq.2⟩
  refine calls_of_wp hf hb ?_
  refine wp_mono (h e _ _ w hrel) fun ex a' w' ⟨hp, st', hq, hr'⟩ => ?_
  cases ex with
  | normal => exact fin st' a' w' hr' hq
  | ret => exact fin st' a' w' hr' hq
  | panic c => exact (hp c rfl).elim
  | exit i => exact hq.elim
  | goto l => exact hq.elim
  | outgrown => exact hq.elim
theorem sO {c:Call} {f:FuncId} (hr:Rel e k0 N st a w) (hdst:o.dst=some d) (hdN:d<N) (hop:o.op= .call c) (hcal:m8 a c f)
  {ys:List A1} (hs:kP (c.args.toList.map (ev st))=some ys) {R:AV->Hp->Nat->Prop} (hc:dk P f ys st.H st.nx R)
  (hK:∀res H nx,R res H nx->∀a' w',Rel e k0 N ⟨up st.tm d res,H,nx,st.nb⟩ a' w'->K a' w'):o.wp P a w K Q:=by
 obtain ⟨σ,h1,h2,h3⟩:=hr.ex;obtain ⟨hf,hc⟩:=hc;have hargs:=rA (κ:=kx e st.H st.nx σ w) (vs:=c.args.toList.map a.eval) (by
  refine ⟨by simp,fun i h h'=>?_⟩;simp only [List.getElem_map];exact bc h2 _) hs
 have hrun:=mv (w:=w) hop hcal hf;unfold Oper.wp;rw [hrun];refine (hc e σ w _ h1 hargs).mono fun ex w' hex=>?_
 obtain ⟨v,res,H',nx',σ',rfl,g1,g2,g3,g4⟩:=hex;show K (a.put o.dst v) w';rw [hdst];exact hK _ _ _ g4 _ _ (hr.put g1 h2 h3 g2 g3 d hdN)
end
def cX (ops:Array Oper):List (Option (Nat×Bool)):=
 ops.toList.map fun o=>match o.guard with
  |none=>none
  |some (j,want)=>some (((ops[j]?).bind (·.dst)).getD 1000000,want)
def gd (g:Option (Nat×Bool)) (st:St):Option Bool:=
 match g with
 |none=>some true
 |some (s,want)=>match st.tm s with
  | .val (.one (.lit (.bool b)))=>some (b==want)
  | .tup _=>some false
  |_=>none
def putO (st:St) (dst:Option Nat) (x:AV):St:=
 match dst with
 |some d=>⟨up st.tm d x,st.H,st.nx,st.nb⟩
 |none=>st
def orS (a b:Option (Prop×AV)):Option (Prop×AV):=
 match a with
 |some r=>some r
 |none=>b
def d8 (P:Program) (st:St) (op:Op):Option (Prop×AV):=
 match op with
 | .build t parts=>gx P st t parts
 | .lookup t m k ok=>ir P st (.lookup t m k ok)
 | .slice t x lo hi none=>orS (jp P st t x lo hi) (og P st (.slice t x lo hi none))
 | .call {callee:= .builtin .cap,args,argTypes}=>jn P st args argTypes
 | .call {callee:= .builtin .min,args,..}=>jo false st args
 | .call {callee:= .builtin .max,args,..}=>jo true st args
 |op=>og P st op
def fS:Op->Bool
 | .store .. =>true
 | .mapUpdate .. =>true
 | .call {callee:= .builtin .append,..}=>true
 |_=>false
def aq (K:St->Prop) (st:St):Prop:=K st
def ki (r:Option (Prop×AV)) (d N:Nat) (K:St->Prop) (st:St):Prop:=
 match r with
 |some (p,x)=>d<N/\p/\K ⟨up st.tm d x,st.H,st.nx,st.nb⟩
 |none=>False
def gP (r:Option (Prop×St)) (d N:Nat) (K:St->Prop):Prop:=
 match r with
 |some (p,st')=>d<N/\p/\K st'
 |none=>False
def rE (r1 r2:Option (Prop×St)) (d N:Nat) (K:St->Prop):Prop:=
 match r1 with
 |some x=>gP (some x) d N K
 |none=>gP r2 d N K
def rF (r1:Option (Prop×St)) (r2:Option (Prop×AV)) (d N:Nat) (K:St->Prop) (st:St):Prop:=
 match r1 with
 |some x=>gP (some x) d N K
 |none=>ki r2 d N K st
def ue (r:Option (Prop×St)) (K:St->Prop):Prop:=
 match r with
 |some (p,st')=>p/\K st'
 |none=>False
def wF (P:Program) (f:FuncId) (r:Option (Prop×List A1×Bool)) (d N:Nat) (K:St->Prop) (st:St):Prop:=
 match r with
 |some (p,ys,b)=>d<N/\p/\∃res,ch P f ys res/\bu (if b then FT else aI) res=true/\aq K ⟨up st.tm d res,st.H,st.nx,st.nb⟩
 |none=>False
def uf (R:AV->Hp->Nat->Prop) (d:Nat) (K:St->Prop) (tm:Nat->AV) (nb:Nat):Prop:=∀res H nx,R res H nx->K ⟨up tm d res,H,nx,nb⟩
def wG (P:Program) (f:FuncId) (r:Option (List A1)) (d N:Nat) (K:St->Prop) (st:St):Prop:=
 match r with
 |some ys=>d<N/\∃R,dk P f ys st.H st.nx R/\uf R d K st.tm st.nb
 |none=>False
def fI:List Nat->Nat->Bool
 |[],_=>false
 |x::l,d=>x==d||fI l d
def ug (P:Program) (f:FuncId) (inl:Bool) (xs:List AV) (d N:Nat) (K:St->Prop) (st:St):Prop:=
 match inl with
 |true=>wG P f (kP xs) d N K st
 |false=>wF P f (gN st xs) d N K st
def yd:AV->Option FuncId
 | .val (.one (.lit (.func (.func f) fi ca)))=>if fi= #[]/\ca= #[] then some f else none
 |_=>none
def ye (P:Program) (f:Option FuncId) (inl:Bool) (xs:List AV) (d N:Nat) (K:St->Prop) (st:St):Prop:=
 match f with
 |some f=>ug P f inl xs d N K st
 |none=>False
def fb (P:Program) (N:Nat) (I:List Nat) (st:St) (o:Oper) (K:St->Prop):Prop:=
 match o.op,o.dst with
 | .call {callee:= .value x,args,..},some d=>ye P (yd (ev st x)) (fI I d) (args.toList.map (ev st)) d N K st
 | .call {callee:= .builtin .append,args,argTypes},some d=>rE (wC P st d args argTypes) (eff P st d (.call {callee:= .builtin .append,args,argTypes})) d N K
 | .slice t x lo hi none,some d=>rF (ru P st d t x lo hi) (d8 P st (.slice t x lo hi none)) d N K st
 | .store t x y,none=>ue (eff P st 0 (.store t x y)) K
 | .mapUpdate t m k v,none=>ue (m7 P st t m k v) K
 | .makeMap t none,some d=>gP (rt P st d t) d N K
 | .alloc t,some d=>gP (eff P st d (.alloc t)) d N K
 | .box t x,some d=>gP (eff P st d (.box t x)) d N K
 | .buildSlice t l ps,some d=>gP (eff P st d (.buildSlice t l ps)) d N K
 | .makeSlice t l c,some d=>gP (eff P st d (.makeSlice t l c)) d N K
 |op,some d=>ki (d8 P st op) d N K st
 |_,none=>False
section
variable {P : Program} {e : En} {k0 : Kx} {N : Nat} {st st' : St} {a : Act} {w : World} {σ : Nat → Value} {o : Oper} {p : Prop} {x : AV} {d : Nat} {K : Act → World → Prop} {Q : Exit → Act → World → Prop}
theorem jK (hW:RW e st.H st.nx σ w) (ht:∀t,aG (kx e st.H st.nx σ w) (a.tmps.getD t undef) (st.tm t)) (h:d8 P st o.op=some (p,x)) (hp:p):Yl P o a w (kx e st.H st.nx σ w) x:=by
 unfold d8 at h;split at h
 ·rename_i hop;exact l8 ht hop h hp
 ·rename_i hop;rw [←hop] at h;exact m6 hW ht h hp
 ·rename_i hop;unfold orS at h;split at h
  ·rename_i hn;obtain rfl:=Option.some.inj h;exact oy ht hop hn hp
  exact ol hW ht (by rw [hop];exact h) hp
 ·rename_i hop;exact ox ht hop h
 ·rename_i hop;exact kM false ht hop h
 ·rename_i hop;exact kM true ht hop h
 exact ol hW ht h hp
theorem oC (hr:Rel e k0 N st a w) (hdst:o.dst=some d) (hdN:d<N) (h:d8 P st o.op=some (p,x)) (hp:p) (hK:∀a' w',Rel e k0 N ⟨up st.tm d x,st.H,st.nx,st.nb⟩ a' w'->FL w w'->K a' w'):o.wp P a w K Q:=by
 obtain ⟨σ,h1,h2,h3⟩:=hr.ex;obtain ⟨v,k1,k2⟩:=jK h1 h2 h hp;refine fv (k1 w (.inl (FL.refl w))) ?_;rw [hdst];exact hK _ _ (hr.put h1 h2 h3 (Ext.refl _) k2 d hdN) (FL.refl w)
theorem gQ {I : List Nat} {S : St → Prop} (hr : Rel e k0 N st a w) (h : fb P N I st o S) (hK : ∀ st' a' w', S st' → Rel e k0 N st' a' w' → (I = [] → fS o.op = false → FL w w') → K a' w') : o.wp P a w K Q := by
  unfold fb at h
  split at h <;> try (exact h.elim; done)
  · rename_i x args tys d hop hdst
    unfold ye at h
    split at h <;> try (exact h.elim; done)
    rename_i f hfn
    have hg : m8 a { callee := .value x, args := args, argTypes := tys } f := by
      obtain ⟨σ, _, h2, _⟩ := hr.ex
      have h3 := bc h2 x
      unfold yd at hfn
      split at hfn <;> try (cases hfn; done)
      rename_i g fi ca hev
      split at hfn <;> try (cases hfn; done)
      rename_i hc
      obtain rfl := Option.some.inj hfn
      rw [hev] at h3
      simp only [aG, bb, den] at h3
      exact ⟨x, rfl, by rw [h3.1, hc.1, hc.2]⟩
    unfold ug at h
    split at h
    · rename_i hin
      unfold wG at h
      split at h <;> try (exact h.elim; done)
      rename_i ys hs
      obtain ⟨hd, R, hc, hL⟩ := h
      refine sO hr hdst hd hop hg hs hc fun res H nx hR a' w' h1 => hK _ a' w' (hL res H nx hR) h1 fun hI => ?_
      subst hI
      simp [fI] at hin
    unfold wF at h
    split at h <;> try (exact h.elim; done)
    rename_i p ys b hs
    obtain ⟨hd, hp, res, hc, hres, hS⟩ := h
    exact ua hr hdst hd hop hg hs hp hc hres fun a' w' h1 h2 => hK _ a' w' hS h1 fun _ _ => h2
  · rename_i args tys d hop hdst
    unfold rE at h
    split at h
    · rename_i x hz
      obtain ⟨p, st'⟩ := x
      obtain ⟨hd, hp, hS⟩ := h
      refine t6 (st' := st') hr hdst hd hop hz hp fun a' w' h1 => hK _ a' w' hS h1 fun _ hw => ?_
      rw [hop] at hw
      simp [fS] at hw
    unfold gP at h
    split at h <;> try (exact h.elim; done)
    rename_i p st' he
    obtain ⟨hd, hp, hS⟩ := h
    have he2 := he
    simp only [eff] at he2
    split at he2 <;> try (cases he2; done)
    rename_i s y t t' ha hty
    have hae : args = #[s, y] := Array.toList_inj.1 ha
    have hte : tys = #[t, t'] := Array.toList_inj.1 hty
    refine sJ (st' := st') hr hdst hd hop rfl hae hte (by rw [hop]; exact he) hp fun a' w' h1 => hK _ a' w' hS h1 fun _ hw => ?_
    rw [hop] at hw
    simp [fS] at hw
  · rename_i t x lo hi d hop hdst
    unfold rF at h
    split at h
    · rename_i x hz
      obtain ⟨p, st'⟩ := x
      obtain ⟨hd, hp, hS⟩ := h
      exact sL (st' := st') hr hdst hd hop hz hp fun a' w' h1 h2 => hK _ a' w' hS h1 fun _ _ => h2
    unfold ki at h
    split at h <;> try (exact h.elim; done)
    rename_i p x he
    obtain ⟨hd, hp, hS⟩ := h
    exact oC hr hdst hd (by rw [hop]; exact he) hp fun a' w' h1 h2 => hK _ a' w' hS h1 fun _ _ => h2
  · rename_i t x y hop hdst
    unfold ue at h
    split at h <;> try (exact h.elim; done)
    rename_i p st' he
    obtain ⟨hp, hS⟩ := h
    refine tY (d := 0) (st' := st') hr hdst hop (by rw [hop]; exact he) hp fun a' w' h1 => hK _ a' w' hS h1 fun _ hw => ?_
    rw [hop] at hw
    simp [fS] at hw
  · rename_i t m k v hop hdst
    unfold ue at h
    split at h <;> try (exact h.elim; done)
    rename_i p st' he
    obtain ⟨hp, hS⟩ := h
    refine yb (st' := st') hr hdst hop he hp fun a' w' h1 => hK _ a' w' hS h1 fun _ hw => ?_
    rw [hop] at hw
    simp [fS] at hw
  · rename_i t d hop hdst
    unfold gP at h
    split at h <;> try (exact h.elim; done)
    rename_i p st' he
    obtain ⟨hd, hp, hS⟩ := h
    exact Iw (st' := st') hr hdst hd hop he fun a' w' h1 h2 => hK _ a' w' hS h1 fun _ _ => h2
  all_goals
    rename_i hop hdst
    first
      | unfold gP at h
      | unfold ki at h
    split at h <;> try (exact h.elim; done)
    first
      | (rename_i p st' he
         obtain ⟨hd, hp, hS⟩ := h
         exact CN (st' := st') hr hdst hd (by rw [hop]; exact he) hp (by rw [hop]; intro c; simp) (by rw [hop]; intro t x y; simp) fun a' w' h1 h2 => hK _ a' w' hS h1 fun _ _ => h2)
      | (rename_i p x he
         obtain ⟨hd, hp, hS⟩ := h
         exact oC hr (by assumption) hd he hp fun a' w' h1 h2 => hK _ a' w' hS h1 fun _ _ => h2)
theorem fJ {ops : Array Oper} {b : Bool} {g : Option (Nat × Bool)} (hr : Rel e k0 N st a w) (hN : N < 1000000) (hgo : g = match o.guard with
    | none => none
    | some (j, want) => some (((ops[j]?).bind (·.dst)).getD 1000000, want)) (h : gd g st = some b) : Region.wanted o (yielded ops a.tmps) = b := by
  unfold gd at h
  split at h
  · obtain rfl := Option.some.inj h
    cases hg : o.guard with
    | none => simp [Region.wanted, hg]
    | some q => rw [hg] at hgo; cases hgo
  rename_i s want
  cases hg : o.guard with
  | none => rw [hg] at hgo; cases hgo
  | some q =>
    obtain ⟨j, want'⟩ := q
    rw [hg] at hgo
    simp only [Option.some.injEq, Prod.mk.injEq] at hgo
    obtain ⟨hs, rfl⟩ := hgo
    split at h <;> try (cases h; done)
    rotate_left
    · rename_i l ht
      obtain rfl := Option.some.inj h
      obtain ⟨σ, _, h2, _⟩ := hr.ex
      have h3 := h2 s
      rw [ht] at h3
      obtain ⟨vs, h4, _⟩ := h3
      have hy : ∀ b, yielded ops a.tmps j ≠ some b := fun b hb => by
        cases hd : (ops[j]?).bind (·.dst) with
        | none => simp [yielded, hd] at hb
        | some s' =>
          have hss : s' = s := by rw [hd] at hs; simpa using hs.symm
          rw [hss] at hd
          by_cases hlt : s < a.tmps.size
          · have h5 : a.tmps[s]? = some (.tuple vs.toArray) := by
              simp only [Array.getD, hlt, dif_pos] at h4
              simp [hlt]; exact h4
            simp [yielded, hd, h5] at hb
          have h5 : a.tmps[s]? = none := Array.getElem?_eq_none (Nat.not_lt.1 hlt)
          simp [yielded, hd, h5] at hb
      simp only [Region.wanted, hg]
      cases hyy : yielded ops a.tmps j with
      | none => rfl
      | some b => exact absurd hyy (hy b)
    rename_i t ht
    obtain rfl := Option.some.inj h
    obtain ⟨σ, _, h2, _⟩ := hr.ex
    have h3 := h2 s
    rw [ht] at h3
    simp only [aG, bb, den] at h3
    have hlt : s < a.tmps.size := by
      rcases Nat.lt_or_ge s a.tmps.size with h | h
      · exact h
      have := h3.1
      simp [Array.getD, Nat.not_lt.2 h, undef] at this
    have hsz := hr.sz
    have hds : (ops[j]?).bind (·.dst) = some s := by
      cases hd : (ops[j]?).bind (·.dst) with
      | none => rw [hd] at hs; simp at hs; omega
      | some s' => rw [hd] at hs; simp at hs; rw [hs]
    have hv : a.tmps[s]? = some (.bool t) := by
      have := h3.1
      simp only [Array.getD, hlt, dif_pos] at this
      simp [hlt]; exact this
    simp [Region.wanted, hg, yielded, hds, hv]
theorem Rel.dead (hr:Rel e k0 N st a w) (dst:Option Nat):Rel e k0 N (putO st dst (.tup [])) (a.put dst undef) w:=by
 obtain ⟨σ,h1,h2,h3⟩:=hr.ex;cases dst with
 |none=>exact hr
 |some d=>
  by_cases hd:d<N
  ·exact hr.put h1 h2 h3 (Ext.refl _) (x:= .tup []) ⟨[],rfl,trivial⟩ d hd
  refine ⟨⟨σ,h1,fun t=>?_,h3⟩,hr.df,by simp [Act.put,hr.sz]⟩;have hsz:=hr.sz;have:a.tmps.setIfInBounds d undef=a.tmps:=by
   apply Array.ext
   ·simp
   intro i h4 h5;rw [Array.getElem_setIfInBounds (by simpa using h4)];rw [if_neg (by omega)]
  simp only [Act.put,this,putO];by_cases htd:t=d
  ·subst htd;rw [bB];exact ⟨[],by simp [Array.getD,hsz,hd,undef],trivial⟩
  rw [ck _ _ htd];exact h2 t
end
def AL (P:Program) (N:Nat) (I:List Nat) (Q:St->Prop):List Oper->List (Option (Nat×Bool))->St->Prop
 |o::os,g::gs,st=>match gd g st with
  |some true=>fb P N I st o (AL P N I Q os gs)
  |some false=>AL P N I Q os gs (putO st o.dst (.tup []))
  |none=>False
 |[],_,st=>Q st
 |_,_,_=>False
inductive SchO where
 |nil:SchO
 |take:Oper->Option (Nat×Bool)->SchO->SchO
 |eff:Oper->Option (Nat×Bool)->SchO->SchO
 |two:Oper->Oper->SchO->SchO->SchO
def SchO.fits (ops:Array Oper) (gs:List (Option (Nat×Bool))):SchO->Sch->Prop
 | .nil,.nil=>True
 | .take o g r,.cons i true s=>ops[i]? =some o/\gs[i]? =some g/\SchO.fits ops gs r s
 | .eff o g r,.cons i false s=>ops[i]? =some o/\gs[i]? =some g/\SchO.fits ops gs r s
 | .two oi oj r r',.two i j s s'=>ops[i]? =some oi/\gs[i]? =some none/\ops[j]? =some oj/\gs[j]? =some none/\SchO.fits ops gs r s/\SchO.fits ops gs r' s'
 |_,_=>False
def SchO.mk (ops:Array Oper) (gs:List (Option (Nat×Bool))):Sch->Option SchO
 | .nil=>some .nil
 | .cons i b r=>match ops[i]?,gs[i]?,SchO.mk ops gs r with
  |some o,some g,some r'=>some (if b then .take o g r' else .eff o g r')
  |_,_,_=>none
 | .two i j r s=>match ops[i]?,gs[i]?,ops[j]?,gs[j]?,SchO.mk ops gs r,SchO.mk ops gs s with
  |some oi,some none,some oj,some none,some r',some s'=>some (.two oi oj r' s')
  |_,_,_,_,_,_=>none
theorem SchO.mk_fits {ops:Array Oper} {gs:List (Option (Nat×Bool))}:∀{s:Sch} {r:SchO},SchO.mk ops gs s=some r->SchO.fits ops gs r s
 | .nil,r,h=>by simp [SchO.mk] at h;subst h;trivial
 | .cons i b s,r,h=>by
  simp only [SchO.mk] at h;split at h<;>try (cases h;done)
  rename_i o g r' h1 h2 h3;obtain rfl:=Option.some.inj h;cases b
  ·exact ⟨h1,h2,SchO.mk_fits h3⟩
  exact ⟨h1,h2,SchO.mk_fits h3⟩
 | .two i j s s',r,h=>by
  simp only [SchO.mk] at h;split at h<;>try (cases h;done)
  rename_i oi oj r1 r2 h1 h2 h3 h4 h5 h6;obtain rfl:=Option.some.inj h;exact ⟨h1,h2,h3,h4,SchO.mk_fits h5,SchO.mk_fits h6⟩
def AT (P:Program) (N:Nat) (Q:St->Prop):SchO->St->Prop
 | .nil,st=>Q st
 | .take o g r,st=>match gd g st with
  |some true=>match o.dst,d8 P st o.op with
   |some d,some (p,x)=>d<N/\p/\AT P N Q r ⟨up st.tm d x,st.H,st.nx,st.nb⟩
   |_,_=>False
  |some false=>AT P N Q r (putO st o.dst (.tup []))
  |none=>False
 | .eff o g r,st=>match gd g st with
  |some true=>fb P N [] st o (AT P N Q r)
  |some false=>AT P N Q r (putO st o.dst (.tup []))
  |none=>False
 | .two oi oj r s,st=>fb P N [] st oi (AT P N Q r)/\fb P N [] st oj (AT P N Q s)
section
variable {P : Program} {e : En} {k0 : Kx} {N : Nat} {st st' : St} {Q : Exit → St → Prop} {ops : Array Oper}
theorem uh {I:List Nat} (hN:N<1000000):∀(l:List Oper) (gs:List (Option (Nat×Bool))) (st:St) (a:Act) (w:World),(gs=l.map fun o=>match o.guard with
  |none=>none
  |some (j,want)=>some (((ops[j]?).bind (·.dst)).getD 1000000,want))->AL P N I (Q .normal) l gs st->Rel e k0 N st a w->wpList P ops (rz e k0 N Q) l a w
 |[],_,st,a,w,_,h,hr=>by
  simp only [AL] at h;exact ⟨fun c=>by simp,st,h,hr⟩
 |o::os,[],_,_,_,hg,_,_=>by simp at hg
 |o::os,g::gs,st,a,w,hgs,h,hr=>by
  simp only [List.map_cons,List.cons.injEq] at hgs;simp only [AL] at h;split at h<;>try (exact h.elim;done)
  ·rename_i hg;refine wpList_step fun K hK=>?_
   rw [if_pos (fJ hr hN hgs.1 hg)];exact gQ hr h fun st' a' w' hS hr' _=>hK _ _ (uh hN os gs st' a' w' hgs.2 hS hr')
  rename_i hg;refine wpList_step fun K hK=>?_
  rw [if_neg (by rw [fJ hr hN hgs.1 hg];simp)];exact hK _ _ (uh hN os gs _ _ _ hgs.2 h (hr.dead o.dst))
def JH (ops:Array Oper) (i:Nat):Bool:=match ops[i]? with
 |some o=> !(fS o.op)
 |none=>true
theorem cJ {i:Nat} {o:Oper} {g:Option (Nat×Bool)} (ho:ops[i]? =some o) (hg:(cX ops)[i]? =some g):g=match o.guard with
  |none=>none
  |some (j,want)=>some (((ops[j]?).bind (·.dst)).getD 1000000,want):=by
 unfold cX at hg;rw [List.getElem?_map,Array.getElem?_toList,ho] at hg;exact (Option.some.inj hg).symm
theorem kR (hN:N<1000000):∀(s:Sch) (r:SchO) (st:St) (a:Act) (w:World),SchO.fits ops (cX ops) r s->AT P N (Q .normal) r st->Rel e k0 N st a w->wpP P ops (rz e k0 N Q) (JH ops) s a w
 | .nil,r,st,a,w,hf,h,hr=>by
  cases r<;>simp only [SchO.fits] at hf;exact ⟨fun c=>by simp,st,h,hr⟩
 | .cons i true s,r,st,a,w,hf,h,hr=>by
  cases r<;>simp only [SchO.fits] at hf;rename_i o g r;obtain ⟨ho,hgi,hf⟩:=hf;have hgo:=cJ ho hgi;simp only [AT] at h;obtain ⟨σ,h1,h2,h3⟩:=hr.ex;split at h<;>try (exact h.elim;done)
  ·rename_i hg;split at h<;>try (exact h.elim;done)
   rename_i d p x hdst hs;obtain ⟨hd,hp,hS⟩:=h;obtain ⟨v,k1,k2⟩:=jK h1 h2 hs hp;refine ⟨o,v,ho,.inl ⟨fJ hr hN hgo hg,k1⟩,kR hN s r _ _ _ hf hS ?_⟩;rw [hdst];exact hr.put h1 h2 h3 (Ext.refl _) k2 d hd
  rename_i hg;exact ⟨o,undef,ho,.inr ⟨fJ hr hN hgo hg,rfl⟩,kR hN s r _ _ _ hf h (hr.dead o.dst)⟩
 | .cons i false s,r,st,a,w,hf,h,hr=>by
  cases r<;>simp only [SchO.fits] at hf;rename_i o g r;obtain ⟨ho,hgi,hf⟩:=hf;have hgo:=cJ ho hgi;simp only [AT] at h;show wpOp P ops _ i _ a w;unfold wpOp;simp only [ho];split at h<;>try (exact h.elim;done)
  ·rename_i hg;rw [if_pos (fJ hr hN hgo hg)];exact .inl (gQ hr h fun st' a' w' hS hr' hF=>⟨fun hk=>hF rfl (by simpa [JH,ho] using hk),kR hN s r _ _ _ hf hS hr'⟩)
  rename_i hg;rw [if_neg (by rw [fJ hr hN hgo hg];simp)];exact ⟨fun _=>FL.refl w,kR hN s r _ _ _ hf h (hr.dead o.dst)⟩
 | .two i j s s',r,st,a,w,hf,h,hr=>by
  cases r<;>simp only [SchO.fits] at hf;rename_i oi oj r r';obtain ⟨hi,hgi,hj,hgj,hf1,hf2⟩:=hf;have g1:Region.wanted oi (yielded ops a.tmps)=true:=fJ hr hN (cJ hi hgi) rfl;have g2:Region.wanted oj (yielded ops a.tmps)=true:=fJ hr hN (cJ hj hgj) rfl;simp only [AT] at h;obtain ⟨s1,s2⟩:=h;refine ⟨?_,?_⟩
  ·show wpOp P ops _ i _ a w;unfold wpOp;simp only [hi];rw [if_pos g1];exact .inl (gQ hr s1 fun st' a' w' hS hr' hF=>⟨fun hk=>hF rfl (by simpa [JH,hi] using hk),kR hN s r _ _ _ hf1 hS hr'⟩)
  show wpOp P ops _ j _ a w;unfold wpOp;simp only [hj];rw [if_pos g2];exact .inl (gQ hr s2 fun st' a' w' hS hr' hF=>⟨fun hk=>hF rfl (by simpa [JH,hj] using hk),kR hN s' r' _ _ _ hf2 hS hr'⟩)
theorem kS (I:List Nat) {id:Nat} {l:List Oper} {gs:List (Option (Nat×Bool))} (hl:ops.toList=l) (hg:cX ops=gs) (hN:decide (N<1000000)=true) (h:AL P N I (Q .normal) l gs st):Awp P e k0 N (.region id ops false) Q st:=fun a w hr=>by
 subst hl;exact wp_region_list (uh (of_decide_eq_true hN) _ gs _ _ _ hg.symm h hr)
theorem sP {id:Nat} (hm:P.follows .mixedOrders=true) (s:Sch) (hB:(Region.noSelect ops&&decide (s.len=ops.size)&&eC .any ops (JH ops) s (Array.replicate ops.size false))=true)
  {gs:List (Option (Nat×Bool))} (hg:cX ops=gs) {r:SchO} (hr:SchO.mk ops gs s=some r) (hN:decide (N<1000000)=true) (h:AT P N (Q .normal) r st):Awp P e k0 N (.region id ops true) Q st:=fun a w hr'=>by
 subst hg;exact gM hm s (JH ops) hB (fun c a d v w hq=>(hq.1 c rfl).elim) (kR (of_decide_eq_true hN) s r st a _ (SchO.mk_fits hr) h hr'.drew)
def iO (R:St->Prop) (Q:Exit->St->Prop):Exit->St->Prop
 | .normal,st=>R st
 |ex,st=>Q ex st
def i4 (id:Nat) (Q:Exit->St->Prop):Exit->St->Prop
 | .exit i,st=>if i=id then Q .normal st else Q (.exit i) st
 |ex,st=>Q ex st
theorem rG {x y:Code} (h:Awp P e k0 N x (iO (Awp P e k0 N y Q) Q) st):Awp P e k0 N (.seq x y) Q st:=fun a w hr=>by
 refine wp_seq (wp_mono (h a w hr) fun ex a' w' ⟨hp,st',hq,hr'⟩=>?_);cases ex with
 |normal=>exact hq a' w' hr'
 |panic c=>exact (hp c rfl).elim
 |_=>exact ⟨hp,st',hq,hr'⟩
theorem oD {c:Operand} {x y:Code} (t:Bool) (hc:ev st c= .val (.one (.lit (.bool t)))) (h1:t=true->Awp P e k0 N x Q st) (h2:t=false->Awp P e k0 N y Q st):Awp P e k0 N (.cond c x y) Q st:=fun a w hr=>by
 obtain ⟨σ,k1,k2,k3⟩:=hr.ex;have h3:=bc k2 c;rw [hc] at h3;simp only [aG,bb,den] at h3;exact wp_cond_split h3.1 (fun ht=>h1 ht a w hr) fun ht=>h2 ht a w hr
theorem ui (h:Q .normal st):Awp P e k0 N .skip Q st:=fun a w hr=>wp_skip ⟨fun c=>by simp,st,h,hr⟩
theorem uj {id:Nat} (h:Q (.exit id) st):Awp P e k0 N (.exit id) Q st:=fun a w hr=>wp_exit ⟨fun c=>by simp,st,h,hr⟩
theorem wH (h:Q .ret st):Awp P e k0 N .ret Q st:=fun a w hr=>wp_ret ⟨fun c=>by simp,st,h,hr⟩
theorem mw {id:Nat} {c:Code} (h:Awp P e k0 N c (i4 id Q) st):Awp P e k0 N (.block id c) Q st:=fun a w hr=>by
 refine wp_block (wp_mono (h a w hr) fun ex a' w' ⟨hp,st',hq,hr'⟩=>?_);cases ex with
 |exit i=>
  simp only [i4] at hq;simp only [Exit.inBlock];split
  ·rename_i hi;rw [if_pos hi] at hq;exact ⟨fun c=>by simp,st',hq,hr'⟩
  rename_i hi;rw [if_neg hi] at hq;exact ⟨fun c=>by simp,st',hq,hr'⟩
 |panic c=>exact (hp c rfl).elim
 |_=>exact ⟨hp,st',hq,hr'⟩
theorem xS (p:Nat->Prop):∀n,p n->∃m,p m/\∀k,p k->m<=k:=fun n=>by
 induction n using Nat.strongRecOn with
 |_ n ih=>
  intro h;by_cases hk:∃k,k<n/\p k
  ·obtain ⟨k,h1,h2⟩:=hk;exact ih k h1 h2
  exact ⟨n,h,fun k hk'=>Nat.le_of_not_lt fun hlt=>hk ⟨k,hlt,hk'⟩⟩
open Classical in
theorem uk {c:Code} (I:Nat->St->Prop) (n0:Nat) (h0:I n0 st) (round:∀n st,I n st->Awp P e k0 N c (iO (fun st'=>∃m,m<n/\I m st') Q) st):Awp P e k0 N (.loop c) Q st:=fun a w hr=>by
 let p:Act->World->Nat->Prop:=fun a w n=>∃st,I n st/\Rel e k0 N st a w
 let μ:Act->World->Nat:=fun a w=>if h:∃n,p a w n then Classical.choose (xS (p a w) h.choose h.choose_spec) else 0
 have hμ:∀a w n,p a w n->p a w (μ a w)/\μ a w<=n:=fun a w n hn=>by
  have hex:∃n,p a w n:=⟨n,hn⟩;have:=Classical.choose_spec (xS (p a w) hex.choose hex.choose_spec);simp only [μ,dif_pos hex];exact ⟨this.1,this.2 n hn⟩
 refine wp_loop (fun a w=>∃n,p a w n) μ ⟨n0,st,h0,hr⟩ fun a w ⟨n,hn⟩=>?_
 obtain ⟨⟨st1,hI,hr1⟩,_⟩:=hμ a w n hn;refine wp_mono (round _ st1 hI a w hr1) fun ex a' w' ⟨hp,st',hq,hr'⟩=>?_
 cases ex with
 |normal=>
  obtain ⟨m,hm,hIm⟩:=hq;exact ⟨⟨m,st',hIm,hr'⟩,Nat.lt_of_le_of_lt (hμ a' w' m ⟨st',hIm,hr'⟩).2 hm⟩
 |panic c=>exact (hp c rfl).elim
 |_=>exact ⟨hp,st',hq,hr'⟩
theorem iu {c:Code} (st2:St) (h:∀a w,Rel e k0 N st a w->Rel e k0 N st2 a w) (h2:Awp P e k0 N c Q st2):Awp P e k0 N c Q st:=fun a w hr=>h2 a w (h a w hr)
theorem oE {c:Code} {Q':Exit->St->Prop} (h:Awp P e k0 N c Q st) (hq:∀ex st,Q ex st->Q' ex st):Awp P e k0 N c Q' st:=fun a w hr=>wp_mono (h a w hr) fun ex a' w' ⟨hp,st',k,hr'⟩=>⟨hp,st',hq _ _ k,hr'⟩
end
def qk (P:Program) (st:St):List ResultVar->Option (Prop×List A1)
 |[]=>some (True,[])
 |r::l=>match sN P st r,qk P st l with
  |some (p,a),some (q,As)=>match jq st a with
   |some (p',b,_)=>some (p/\p'/\q,b::As)
   |none=>none
  |_,_=>none
def ql (P:Program) (R:List ResultVar) (res:AV) (st:St):Prop:=
 match qk P st R with
 |some (p,l)=>p/\wE l=res
 |none=>False
def yf (P:Program) (R:List ResultVar) (res:AV):Exit->St->Prop
 | .normal,st=>ql P R res st
 | .ret,st=>ql P R res st
 |_,_=>False
def ini (args:List A1):St:=⟨FI 0 args,fun _=>none,0,0⟩
section
variable {P : Program} {e : En} {k0 : Kx} {N : Nat} {st st' : St} {a : Act} {w : World} {σ : Nat → Value}
def qm (e:En) (w:World):Kx:=⟨e.w0.heap.size,e.T,w,fun _=> .slice none 0 0,fun _=>none,0⟩
theorem I5 {b:Nat} {H:Hp} {nx:Nat} {σ:Nat->Value} (h:(kx e H nx σ w).S b):(qm e w).S b/\(qm e w).w.heap[b]? =(kx e H nx σ w).w.heap[b]? :=⟨⟨h.1,h.2.1,fun _ _ h=>by cases h⟩,rfl⟩
theorem my (hW:RW e st.H st.nx σ w) {c d:C} {b:Bool} {p:Prop} {v:Value} (hd:den (kx e st.H st.nx σ w) v c) (h:dj st c=some (p,d,b)) (hp:p):den (qm e w) v d:=by
 cases c with
 |own nm s n sz=>
  simp only [dj] at h;split at h<;>try (cases h;done)
  rename_i hsz;split at h<;>try (cases h;done)
  rename_i B hB;simp only [Option.some.injEq,Prod.mk.injEq] at h;obtain ⟨rfl,rfl,rfl⟩:=h;obtain ⟨hs,hpure⟩:=hp;simp only [den] at hd;obtain ⟨h1,h2,h3⟩:=hd.2.2 B hB hs;subst h2;subst h3;have h1':v=σ nm:=h1;rw [h1'];exact cP (fun b hb=>I5 hb) (by simpa [az] using hpure) (hW.publish hB hsz)
 |lit x=>
  simp only [dj,Option.some.injEq,Prod.mk.injEq] at h;obtain ⟨rfl,rfl,rfl⟩:=h
  exact cP (fun b hb=>I5 hb) hp hd
 |sh sz n cs=>
  simp only [dj,Option.some.injEq,Prod.mk.injEq] at h;obtain ⟨rfl,rfl,rfl⟩:=h
  exact cP (fun b hb=>I5 hb) hp hd
 |sp cs=>
  simp only [dj,Option.some.injEq,Prod.mk.injEq] at h;obtain ⟨rfl,rfl,rfl⟩:=h
  exact cP (fun b hb=>I5 hb) hp hd
 |ptr nm s off=>simp only [dj] at h;cases h
 |dead=>simp only [dj] at h;cases h
 |vw nm s off n sz=>simp only [dj,Option.some.injEq,Prod.mk.injEq] at h;obtain ⟨rfl,rfl,rfl⟩:=h;simp [az] at hp
 |clo f sh cs=>simp only [dj,Option.some.injEq,Prod.mk.injEq] at h;obtain ⟨rfl,rfl,rfl⟩:=h;simp [az] at hp
 |e0=>simp only [dj,Option.some.injEq,Prod.mk.injEq] at h;obtain ⟨rfl,rfl,rfl⟩:=h;simp [az] at hp
theorem kT (hW:RW e st.H st.nx σ w):∀{cs ds:List C} {b:Bool} {vs:List Value} {p:Prop},denVs (kx e st.H st.nx σ w) vs cs->fR st cs=some (p,ds,b)->p->denVs (qm e w) vs ds
 |[],ds,b,[],p,_,h,hp=>by
  simp only [fR,Option.some.injEq,Prod.mk.injEq] at h;obtain ⟨rfl,rfl,rfl⟩:=h;trivial
 |[],_,_,_::_,_,hd,_,_=>hd.elim
 |_::_,_,_,[],_,hd,_,_=>hd.elim
 |c::cs,ds,b,v::vs,p,hd,h,hp=>by
  simp only [fR] at h;split at h<;>try (cases h;done)
  rename_i p1 d1 b1 p2 d2 b2 h1 h2;simp only [Option.some.injEq,Prod.mk.injEq] at h;obtain ⟨rfl,rfl,rfl⟩:=h;exact ⟨my hW hd.1 h1 hp.1,kT hW hd.2 h2 hp.2⟩
theorem sQ (hW:RW e st.H st.nx σ w) {x y:A1} {b:Bool} {p:Prop} {v:Value} (hd:bb (kx e st.H st.nx σ w) v x) (h:jq st x=some (p,y,b)) (hp:p):bb (qm e w) v y:=by
 cases x with
 |one c=>
  simp only [jq] at h;split at h<;>try (cases h;done)
  rename_i p1 d1 b1 h1;simp only [Option.some.injEq,Prod.mk.injEq] at h;obtain ⟨rfl,rfl,rfl⟩:=h;exact my hW hd h1 hp
 |agg cs=>
  simp only [jq] at h;split at h<;>try (cases h;done)
  rename_i p1 d1 b1 h1;simp only [Option.some.injEq,Prod.mk.injEq] at h;obtain ⟨rfl,rfl,rfl⟩:=h;obtain ⟨vs,g1,g2⟩:=hd;exact ⟨vs,g1,kT hW g2 h1 hp⟩
theorem rH (hW:RW e st.H st.nx σ w) (ht:∀t,aG (kx e st.H st.nx σ w) (a.tmps.getD t undef) (st.tm t)):∀{l:List ResultVar} {p:Prop} {xs:List A1},qk P st l=some (p,xs)->p->
  ∃vs,(l.mapM (qf a.tmps)).run P w= .ok vs w/\cz (qm e w) vs xs
 |[],p,xs,h,_=>by
  simp only [qk,Option.some.injEq,Prod.mk.injEq] at h;obtain ⟨rfl,rfl⟩:=h;exact ⟨[],rfl,trivial⟩
 |r::l,p,xs,h,hp=>by
  simp only [qk] at h;split at h<;>try (cases h;done)
  rename_i p1 a1 q As h1 h2;split at h<;>try (cases h;done)
  rename_i p2 b b' h3;simp only [Option.some.injEq,Prod.mk.injEq] at h;obtain ⟨rfl,rfl⟩:=h;obtain ⟨hp1,hp2,hq⟩:=hp;obtain ⟨v,k1,k2⟩:=ry hW ht h1 hp1;obtain ⟨vs,k3,k4⟩:=rH hW ht h2 hq;refine ⟨v::vs,?_,sQ hW k2 h3 hp2,k4⟩;rw [List.mapM_cons];simp only [Sem.run_bind,k1,k3,Result.andThen_ok,Sem.run_pure]
theorem kU {fn:Func} {res:AV} (hW:RW e st.H st.nx σ w) (ht:∀t,aG (kx e st.H st.nx σ w) (a.tmps.getD t undef) (st.tm t)) (h:ql P fn.results.toList res st):
  ∃v,(results fn a.tmps).run P w= .ok v w/\aG (qm e w) v res:=by
 unfold ql at h;split at h<;>try (exact h.elim;done)
 rename_i p l hl;obtain ⟨hp,rfl⟩:=h;obtain ⟨vs,k1,k2⟩:=rH hW ht hl hp;exact rD k1 k2
theorem bF {f : FuncId} {fn : Func} {c : Code} {args : List A1} {res : AV} (hf : P.funcs[f]? = some fn) (hb : fn.body = some c) (hn : fn.name ≠ "runtime.NumGoroutine") {N : Nat} (hNt : fn.ntmps = N) (hN : args.length ≤ N) {R : List ResultVar} (hR : fn.results.toList = R)
  (h:∀e k0,Awp P e k0 N c (yf P R res) (ini args)):ch P f args res:=by
 subst hNt hR;refine ⟨⟨fn,hf,hn,by rw [hb];rfl⟩,fun w T vs hT hd=>?_⟩;refine calls_of_wp hf hb ?_;obtain ⟨t1,t2⟩:=kQ (n:=fn.ntmps) hd hN;have hrel:Rel ⟨w,T⟩ (kIn w T w) fn.ntmps (ini args) {tmps:=vs.toArray++Array.replicate (fn.ntmps-vs.toArray.size) undef,defers:=[]} w:=
  ⟨⟨fun _=> .slice none 0 0,⟨Below.refl _ _,hT,(fun _ _ h=>by cases h),(fun _ _ _ _ h=>by cases h)⟩,t1,Ext.refl _⟩,rfl,t2⟩
 refine wp_mono (h ⟨w,T⟩ (kIn w T w) _ w hrel) fun ex a' w' ⟨hp,st',hq,hr'⟩=>?_
 obtain ⟨σ,h1,h2,_⟩:=hr'.ex;cases ex with
 |normal=>
  obtain ⟨v,k1,k2⟩:=kU h1 h2 hq;exact ⟨hr'.df,v,k1,v,rfl,h1.bel,k2⟩
 |ret=>
  obtain ⟨v,k1,k2⟩:=kU h1 h2 hq;exact ⟨hr'.df,v,k1,v,rfl,h1.bel,k2⟩
 |panic c=>exact (hp c rfl).elim
 |exit i=>exact hq.elim
 |goto l=>exact hq.elim
 |outgrown=>exact hq.elim
theorem ne {R:St->Prop} {Q:Exit->St->Prop} {st:St}:iO R Q .normal st=R st:=rfl
theorem qn {R:St->Prop} {Q:Exit->St->Prop} {st:St} {i:Nat}:iO R Q (.exit i) st=Q (.exit i) st:=rfl
theorem sR {R:St->Prop} {Q:Exit->St->Prop} {st:St}:iO R Q .ret st=Q .ret st:=rfl
theorem l9 {i:Nat} {Q:Exit->St->Prop} {st:St}:i4 i Q .normal st=Q .normal st:=rfl
theorem qo {i:Nat} {Q:Exit->St->Prop} {st:St}:i4 i Q .ret st=Q .ret st:=rfl
theorem oF {i j:Nat} {Q:Exit->St->Prop} {st:St}:i4 i Q (.exit j) st=if j=i then Q .normal st else Q (.exit j) st:=rfl
theorem oG {P:Program} {R:List ResultVar} {res:AV} {st:St}:yf P R res .normal st=ql P R res st:=rfl
theorem qp {P:Program} {Rl:List ResultVar} {R:AV->Hp->Nat->Prop} {st:St}:ArI P Rl R .normal st=qj P Rl R st:=rfl
theorem wI {P:Program} {Rl:List ResultVar} {R:AV->Hp->Nat->Prop} {st:St}:ArI P Rl R .ret st=qj P Rl R st:=rfl
theorem ul {P:Program} {R:List ResultVar} {res:AV} {st:St}:yf P R res .ret st=ql P R res st:=rfl
def ALg (P:Program) (N:Nat) (I:List Nat) (Q:St->Prop) (g:Option Bool) (o:Oper) (os:List Oper) (gs:List (Option (Nat×Bool))) (st:St):Prop:=
 match g with
 |some true=>fb P N I st o (AL P N I Q os gs)
 |some false=>AL P N I Q os gs (putO st o.dst (.tup []))
 |none=>False
def ATt (P:Program) (N:Nat) (Q:St->Prop) (g:Option Bool) (o:Oper) (r:SchO) (st:St):Prop:=
 match g with
 |some true=>match o.dst with
  |some d=>ki (d8 P st o.op) d N (AT P N Q r) st
  |none=>False
 |some false=>AT P N Q r (putO st o.dst (.tup []))
 |none=>False
def ATe (P:Program) (N:Nat) (Q:St->Prop) (g:Option Bool) (o:Oper) (r:SchO) (st:St):Prop:=
 match g with
 |some true=>fb P N [] st o (AT P N Q r)
 |some false=>AT P N Q r (putO st o.dst (.tup []))
 |none=>False
section
variable {P : Program} {N : Nat} {I : List Nat} {Q : St → Prop} {st : St} {o oi oj : Oper} {os : List Oper} {g : Option (Nat × Bool)} {gs : List (Option (Nat × Bool))} {r s : SchO}
theorem yg:AL P N I Q [] gs st=Q st:=by cases gs<;>rfl
theorem wJ:AL P N I Q (o::os) (g::gs) st=ALg P N I Q (gd g st) o os gs st:=rfl
theorem zl:ALg P N I Q (some true) o os gs st=fb P N I st o (AL P N I Q os gs):=rfl
theorem zm:ALg P N I Q (some false) o os gs st=AL P N I Q os gs (putO st o.dst (.tup [])):=rfl
theorem yh:AT P N Q .nil st=Q st:=rfl
theorem wK:AT P N Q (.take o g r) st=ATt P N Q (gd g st) o r st:=by
 simp only [AT,ATt];cases gd g st with
 |none=>rfl
 |some b=>
  cases b with
  |false=>rfl
  |true=>
   cases o.dst with
   |none=>rfl
   |some d=>
    simp only [ki];cases d8 P st o.op with
    |none=>rfl
    |some q=>rfl
theorem yi:AT P N Q (.eff o g r) st=ATe P N Q (gd g st) o r st:=rfl
theorem IU {d:Nat} {op:Op} {t:TypeId} {ps:String} {af:Array Edge} {gg:Option (Nat×Bool)}:ATt P N Q (some true) ⟨some d,op,t,ps,af,gg⟩ r st=ki (d8 P st op) d N (AT P N Q r) st:=rfl
theorem zo:ATt P N Q (some false) o r st=AT P N Q r (putO st o.dst (.tup [])):=rfl
theorem IV:ATe P N Q (some true) o r st=fb P N [] st o (AT P N Q r):=rfl
theorem IW:ATe P N Q (some false) o r st=AT P N Q r (putO st o.dst (.tup [])):=rfl
theorem yj:AT P N Q (.two oi oj r s) st=(fb P N [] st oi (AT P N Q r)/\fb P N [] st oj (AT P N Q s)):=rfl
theorem sS {p:Prop} {x:AV} {d:Nat} {K:St->Prop}:ki (some (p,x)) d N K st=(d<N/\p/\K ⟨up st.tm d x,st.H,st.nx,st.nb⟩):=rfl
theorem sT {p:Prop} {st':St} {d:Nat} {K:St->Prop}:gP (some (p,st')) d N K=(d<N/\p/\K st'):=rfl
theorem qq {x:Prop×St} {r:Option (Prop×St)} {d:Nat} {K:St->Prop}:rE (some x) r d N K=gP (some x) d N K:=rfl
theorem qr {r:Option (Prop×St)} {d:Nat} {K:St->Prop}:rE none r d N K=gP r d N K:=rfl
theorem qt {x:Prop×St} {r:Option (Prop×AV)} {d:Nat} {K:St->Prop}:rF (some x) r d N K st=gP (some x) d N K:=rfl
theorem qu {r:Option (Prop×AV)} {d:Nat} {K:St->Prop}:rF none r d N K st=ki r d N K st:=rfl
theorem uo {x:Prop×AV} {r:Option (Prop×AV)}:orS (some x) r=some x:=rfl
theorem uq {r:Option (Prop×AV)}:orS none r=r:=rfl
theorem sU {p:Prop} {st':St} {K:St->Prop}:ue (some (p,st')) K=(p/\K st'):=rfl
theorem sV {f:FuncId} {p:Prop} {ys:List A1} {b:Bool} {d:Nat} {K:St->Prop}:wF P f (some (p,ys,b)) d N K st=(d<N/\p/\∃res,ch P f ys res/\bu (if b then FT else aI) res=true/\aq K ⟨up st.tm d res,st.H,st.nx,st.nb⟩):=rfl
end
theorem LU {P:Program} {f:FuncId} {xs:List AV} {d N:Nat} {K:St->Prop} {st:St}:ug P f true xs d N K st=wG P f (kP xs) d N K st:=rfl
theorem yl {P:Program} {f:FuncId} {xs:List AV} {d N:Nat} {K:St->Prop} {st:St}:ug P f false xs d N K st=wF P f (gN st xs) d N K st:=rfl
theorem sW {P:Program} {f:FuncId} {b:Bool} {xs:List AV} {d N:Nat} {K:St->Prop} {st:St}:ye P (some f) b xs d N K st=ug P f b xs d N K st:=rfl
theorem sX {P:Program} {f:FuncId} {ys:List A1} {d N:Nat} {K:St->Prop} {st:St}:wG P f (some ys) d N K st=(d<N/\∃R,dk P f ys st.H st.nx R/\uf R d K st.tm st.nb):=rfl
theorem ym {α:Type} (a b:α):(if true=true then a else b)=a:=rfl
theorem yn {α:Type} (a b:α):(if false=true then a else b)=b:=rfl
theorem yo:(false==true)=false:=rfl
theorem yp:(true==false)=false:=rfl
theorem yq:(false==false)=true:=rfl
theorem yr:(true==true)=true:=rfl
theorem gT (tm':Nat->AV) (H':Hp) (ht:∀t,tm' t=st.tm t∨tm' t= .dead) (hH:∀nm B,H' nm=some B->st.H nm=some B) (hr:Rel e k0 N st a w):Rel e k0 N ⟨tm',H',st.nx,st.nb⟩ a w:=by
 obtain ⟨σ,h1,h2,h3⟩:=hr.ex;have hext:Ext (kx e st.H st.nx σ w) (kx e H' st.nx σ w):=
  ⟨Nat.le_refl _,fun b hb=>⟨⟨hb.1,hb.2.1,fun nm B hB=>hb.2.2 nm B (hH nm B hB)⟩,rfl⟩,fun nm B hB=> .inr ⟨B,hH nm B hB,rfl,rfl,rfl,rfl⟩⟩
 refine ⟨⟨σ,⟨h1.bel,h1.hT,fun nm B hB=>?_,fun nm nm' B B' hB hB'=>h1.inj nm nm' B B' (hH nm B hB) (hH nm' B' hB')⟩,fun t=>?_,h3.trans hext⟩,hr.df,hr.sz⟩
 ·exact ⟨(h1.blk nm B (hH nm B hB)).1,(h1.blk nm B (hH nm B hB)).2.kept (row:=none) ⟨rfl,rfl,rfl,Nat.le_refl _,fun _ _ _=>rfl⟩ (Classical.em _) rfl rfl hext⟩
 rcases ht t with h|h
 ·show aG _ _ (tm' t);rw [h];exact dz hext (h2 t)
 show aG _ _ (tm' t);rw [h];trivial
theorem oH {t nm s n sz:Nat} {B:Blk} (hB:st.H nm=some B) (hsz:sz≠0) (hs:B.st=s) (htm:st.tm t= .val (.one (.own nm s n sz))) (hr:Rel e k0 N st a w):
  Rel e k0 N ⟨up st.tm t (.val (.one (.sh sz n B.cs))),up st.H nm none,st.nx,st.nb⟩ a w:=by
 obtain ⟨σ,h1,h2,h3⟩:=hr.ex;obtain ⟨k1,k2⟩:=h1.drop nm;refine ⟨⟨σ,k1,fun t'=>?_,h3.trans k2⟩,hr.df,hr.sz⟩;show aG _ _ (up st.tm t _ t');by_cases htt:t'=t
 ·subst htt;rw [bB];have h4:=h2 t';rw [htm] at h4;simp only [aG,bb,den] at h4;obtain ⟨g1,g2,g3⟩:=h4.2.2 B hB hs;have g1':a.tmps.getD t' undef=σ nm:=g1;show den (kx e (up st.H nm none) st.nx σ w) _ _;rw [g1',←g2,←g3];exact h1.publish hB (by rw [g3];exact hsz)
 rw [ck _ _ htt];exact dz k2 (h2 t')
theorem wL {t d:Nat} (E:TypeId) (sz:Nat) (hsz:sz≠0) (htm:st.tm t= .val (.one (.lit (.slice none 0 0)))) (hr:Rel e k0 N st a w):
  Rel e k0 N ⟨up st.tm t (.val (.one (.own d st.nx 0 sz))),up st.H d (some ⟨st.nx,E,sz,0,[]⟩),st.nx+1,st.nb⟩ a w:=by
 obtain ⟨σ,h1,h2,h3⟩:=hr.ex;obtain ⟨k1,k2⟩:=RW.new (nm0:=d) (d:=d) (row:=none) h1 (w':=w) ⟨rfl,rfl,rfl,Nat.le_refl _,fun _ _ _=>rfl⟩ (B':=⟨st.nx,E,sz,0,[]⟩) (v':= .slice none 0 0) (xs:=[]) rfl hsz (by simp) (by simp) (by simp [obk]) (w.ownsRow_nil _ _ _) trivial;rw [mm] at k1 k2;refine ⟨⟨_,k1,fun t'=>?_,h3.trans k2⟩,hr.df,hr.sz⟩;show aG _ _ (up st.tm t _ t');by_cases htt:t'=t
 ·subst htt;rw [bB];have h4:=h2 t';rw [htm] at h4;simp only [aG,bb,den] at h4;rw [h4.1];exact cb d σ w rfl
 rw [ck _ _ htt];exact dz k2 (h2 t')
theorem jr {nm off d:Nat} {B:Blk} (E:TypeId) (sz:Nat) (hsz':sz≠0) (hB:st.H nm=some B) (hne:nm≠d) (hsz:B.sz≠0) (hc:B.cs[off]? =some (.lit (.slice none 0 0))) (hr:Rel e k0 N st a w):
  Rel e k0 N ⟨st.tm,up (up st.H d (some ⟨st.nx,E,sz,0,[]⟩)) nm (some {B with cs:=B.cs.set off (.own d st.nx 0 sz)}),st.nx+1,st.nb⟩ a w:=by
 obtain ⟨σ,h1,h2,h3⟩:=hr.ex;obtain ⟨k1,k2⟩:=RW.new (nm0:=d) (d:=d) (row:=none) h1 (w':=w) ⟨rfl,rfl,rfl,Nat.le_refl _,fun _ _ _=>rfl⟩ (B':=⟨st.nx,E,sz,0,[]⟩) (v':= .slice none 0 0) (xs:=[]) rfl hsz' (by simp) (by simp) (by simp [obk]) (w.ownsRow_nil _ _ _) trivial;rw [mm] at k1 k2;have hB':up st.H d (some ⟨st.nx,E,sz,0,[]⟩) nm=some B:=by rw [ck _ _ hne];exact hB
 obtain ⟨g1,g2,xs,g3,g4⟩:=k1.rowOf hB' (.inl hsz);obtain ⟨u,q1,q2⟩:=g4.get off hc;simp only [den] at q2;have hlt:off<xs.length:=(List.getElem?_eq_some_iff.1 q1).1;have hxu:xs[off]= .slice none 0 0:=by
  have:=(List.getElem?_eq_some_iff.1 q1).2;rw [this];exact q2.1
 have hset:xs.set off (.slice none 0 0)=xs:=by rw [←hxu];exact List.set_getElem_self hlt
 have hown:=cb (e:=e) (H:=st.H) (nx:=st.nx) (E:=E) (sz:=sz) (n:=0) (cs:=[]) d (v:= .slice none 0 0) σ w rfl;have hd:=g4.set off (v:= .slice none 0 0) (c:= .own d st.nx 0 sz) hown;rw [hset] at hd;obtain ⟨m1,m2⟩:=k1.upd (w':=w) hB' ⟨rfl,rfl,rfl,Nat.le_refl _,fun _ _ _=>rfl⟩ (cs:=B.cs.set off (.own d st.nx 0 sz)) hsz (by simpa using g2) g3 hd;exact ⟨⟨_,m1,fun t'=>dz (k2.trans m2) (h2 t'),h3.trans (k2.trans m2)⟩,hr.df,hr.sz⟩
end
end Go.Proofs.YtcgpghifhehlhaaGreatDoor
