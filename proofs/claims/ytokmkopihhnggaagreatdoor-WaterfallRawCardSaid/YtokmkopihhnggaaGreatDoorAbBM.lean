/- The abstract machine: a call that only reads what the caller owns; estates with agreements whose claims are rows of the call's own. No program in sight. -/
import Derived.Test.YtokmkopihhnggaaGreatDoorGu1M
import Derived.Test.YtokmkopihhnggaaGreatDoorAbTM
set_option linter.unusedVariables false
set_option linter.unusedSimpArgs false
set_option linter.defProp false
set_option linter.unusedSectionVars false
namespace Go.Proofs.YtokmkopihhnggaaGreatDoor
open Go Go.RowKit
section
variable {P : Program} {e : En} {H : Hp} {nx : Nat} {σ : Nat → Value} {w : World}
theorem fJ {f:FuncId} {args args':List A1} {res:AV} {H:Hp} {nx:Nat} (h:aR P f args res) (hf:aU nC res=true)
  (hs:∀(e:En) (σ:Nat->Value) (w:World) (vs:List Value),RW e H nx σ w->dh (kx e H nx σ w) vs args'->dh (fd w) vs args):
  cT P f args' H nx (fun r H' nx'=>r=res/\H'=H/\nx'=nx):=by
 refine ⟨h.1,fun e σ w vs hW hv=>?_⟩;refine (h.2 w (fun b=>b<w.heap.size) vs (fun _ h=>h) (hs e σ w vs hW hv)).mono fun ex w' ⟨v,he,hb,hd⟩=>?_
 obtain ⟨q1,q2⟩:=hW.keep (kD hb);exact ⟨v,res,H,nx,σ,he,q1,q2,re hf hd,rfl,rfl,rfl⟩
theorem C9 (hW:RW e H nx σ w) {v:Value} {nm s n sz:Nat} {B:Blk} (hB:H nm=some B) (hsz:B.sz≠0) (hs:B.st=s) (hd:den (kx e H nx σ w) v (.own nm s n sz)) {cs':List C}
  (hc:∀xs,denVs (kx e H nx σ w) xs B.cs->denVs (fd w) xs cs'):den (fd w) v (.sh sz n cs'):=by
 obtain ⟨h1,h2,xs,h3,h4⟩:=hW.rowOf hB (.inl hsz);have hc':=hc xs h4;have hlen:cs'.length=B.n*B.sz:=by rw [←hc'.length,h4.length];exact h2
 simp only [den] at hd ⊢;obtain ⟨e1,e2,e3⟩:=hd.2.2 B hB hs;subst e2;subst e3;have e1':v=σ nm:=e1;rw [e1'];rcases h3.2 with ⟨hn,h5⟩|⟨g,cap,cur,hn,hb,hg,hc,hm,hs,ht⟩
 ·refine ⟨none,0,?_,by omega,by unfold maxLen;omega,fun _=>rfl,hlen,.inl h5⟩;rw [h5];exact hn
 refine ⟨some ⟨g,0,none⟩,cap,hn,hc,hm,by simp,hlen,.inr ⟨g,0,rfl,?_,?_⟩⟩
 ·exact oJ (hW.lt hB (by rw [hn];rfl)).2
 refine denM.of_vals hc' fun j u hu=>?_
 have hadd:(⟨g,0,none⟩:Addr).add j=⟨g,0+j,none⟩:=by unfold Addr.add;split<;>simp_all
 have:=h3.cells (g:=g) (by rw [hn];rfl) j u hu;rw [hadd] at this;exact this
end
section
variable {P : Program} {e : En} {k0 : Kx} {N : Nat} {tm : Nat → AV} {nb s : Nat} {Q : Exit → St → Prop} {c : Code}
end
def jJ (I:List Nat) (o:Oper):List Nat:=match o.dst with
 |some d=>if fA I d=true then [d] else []
 |none=>[]
def p8 (ops:Array Oper) (I:List Nat) (i:Nat):Bool:=match ops[i]? with
 |some o=> !(g8 o.op)&&(jJ I o).isEmpty
 |none=>true
def zv (P:Program) (st:St) (d:Nat) (t:TypeId):Option (Prop×St):=match elT P t with
 |some (E,sz,_)=>some (sz≠0,⟨up st.tm d (.val (.one (.own (st.nb+d) st.nx 0 sz))),up st.H (st.nb+d) (some ⟨st.nx,E,sz,0,[]⟩),st.nx+1,st.nb⟩)
 |none=>none
def b0T:Op->Option TypeId
 | .buildSlice t len parts=>if len=0/\parts.size=0 then some t else none
 |_=>none
def gW (P:Program) (N:Nat) (I:List Nat) (st:St) (o:Oper) (K:St->Prop):Prop:=match b0T o.op,o.dst with
 |some t,some d=>iK (zv P st d t) d N K
 |_,_=>f7 P N I st o K
section
variable {P : Program} {e : En} {k0 : Kx} {N : Nat} {I : List Nat} {st st' : St} {a : Act} {w : World} {o : Oper} {p : Prop} {d : Nat} {K : Act → World → Prop} {Q : Exit → Act → World → Prop}
theorem Io (hr:Rel e k0 N st a w) (hdst:o.dst=some d) (hdN:d<N) {t:TypeId} (hop:o.op= .buildSlice t 0 #[]) (h:zv P st d t=some (p,st')) (hp:p) (hK:∀a' w',Rel e k0 N st' a' w'->FL w w'->K a' w'):o.wp P a w K Q:=by
 unfold zv at h;split at h<;>try (cases h;done)
 rename_i E sz by_ hel;simp only [Option.some.injEq,Prod.mk.injEq] at h;obtain ⟨rfl,rfl⟩:=h;obtain ⟨g1,i,g2,g3,g4⟩:=er hel;refine oC (v:= .slice (some ⟨w.heap.size,0,none⟩) 0 0) (us:=[]) (cs:=[]) hr hdst hdN ?_ (fun σ _ k2=>trivial) hp (by simp) (by unfold maxLen;omega) (fun σ w'=>cc (st.nb+d) σ w' rfl) hK;simp only [execOp,hop,Instr.buildSlice,Sem.run_bind,run_underlying g1,Result.andThen_ok,sizeOf,typeInfo,run_program,g2,g3,Sem.run_pure];have hz:Array.range 0= #[]:=by apply Array.eq_empty_of_size_eq_zero;simp
 simp [Instr.fill,newRow,hz]
theorem jK {S:St->Prop} (hr:Rel e k0 N st a w) (h:gW P N I st o S) (hK:∀st' a' w',S st'->Rel e k0 N st' a' w'->(I=[]->g8 o.op=false->FL w w')->K a' w'):o.wp P a w K Q:=by
 unfold gW at h;split at h
 ·rename_i t d hb hdst;have hop:o.op= .buildSlice t 0 #[]:=by
   unfold b0T at hb;split at hb<;>try (cases hb;done)
   rename_i t' len parts hop;split at hb<;>try (cases hb;done)
   rename_i h0;obtain rfl:=Option.some.inj hb;rw [hop,h0.1,Array.eq_empty_of_size_eq_zero h0.2]
  unfold iK at h;split at h<;>try (exact h.elim;done)
  rename_i p st' he;obtain ⟨hd,hp,hS⟩:=h;exact Io (st':=st') hr hdst hd hop he hp fun a' w' h1 h2=>hK _ a' w' hS h1 fun _ _=>h2
 exact jp hr h hK
end
def AT2 (P:Program) (N:Nat) (I:List Nat) (Q:St->Prop):SchO->St->Prop
 | .nil,st=>Q st
 | .take o g r,st=>match gd g st with
  |some true=>match o.dst,fe P st o.op with
   |some d,some (p,x)=>d<N/\p/\AT2 P N I Q r ⟨up st.tm d x,st.H,st.nx,st.nb⟩
   |_,_=>False
  |some false=>AT2 P N I Q r (fy st o.dst (.tup []))
  |none=>False
 | .eff o g r,st=>match gd g st with
  |some true=>gW P N (jJ I o) st o (AT2 P N I Q r)
  |some false=>AT2 P N I Q r (fy st o.dst (.tup []))
  |none=>False
 | .two oi oj r s,st=>gW P N (jJ I oi) st oi (AT2 P N I Q r)/\gW P N (jJ I oj) st oj (AT2 P N I Q s)
section
variable {P : Program} {e : En} {k0 : Kx} {N : Nat} {I : List Nat} {st st' : St} {Q : Exit → St → Prop} {ops : Array Oper}
theorem e6 {i:Nat} {o:Oper} (ho:ops[i]? =some o) (hk:p8 ops I i=true):jJ I o=[]/\g8 o.op=false:=by
 simp only [p8,ho,Bool.and_eq_true,Bool.not_eq_true',List.isEmpty_iff] at hk;exact ⟨hk.2,hk.1⟩
theorem lB (hN:N<1000000):∀(s:Sch) (r:SchO) (st:St) (a:Act) (w:World),SchO.fits ops (dj ops) r s->AT2 P N I (Q .normal) r st->Rel e k0 N st a w->wpP P ops (rh e k0 N Q) (p8 ops I) s a w
 | .nil,r,st,a,w,hf,h,hr=>by
  cases r<;>simp only [SchO.fits] at hf;exact ⟨fun c=>by simp,st,h,hr⟩
 | .cons i true s,r,st,a,w,hf,h,hr=>by
  cases r<;>simp only [SchO.fits] at hf;rename_i o g r;obtain ⟨ho,hgi,hf⟩:=hf;have hgo:=dk ho hgi;simp only [AT2] at h;obtain ⟨σ,h1,h2,h3⟩:=hr.ex;split at h<;>try (exact h.elim;done)
  ·rename_i hg;split at h<;>try (exact h.elim;done)
   rename_i d p x hdst hs;obtain ⟨hd,hp,hS⟩:=h;obtain ⟨v,k1,k2⟩:=mH h1 h2 hs hp;refine ⟨o,v,ho,.inl ⟨fp hr hN hgo hg,k1⟩,lB hN s r _ _ _ hf hS ?_⟩;rw [hdst];exact hr.put h1 h2 h3 (Ext.refl _) k2 d hd
  rename_i hg;exact ⟨o,undef,ho,.inr ⟨fp hr hN hgo hg,rfl⟩,lB hN s r _ _ _ hf h (hr.dead o.dst)⟩
 | .cons i false s,r,st,a,w,hf,h,hr=>by
  cases r<;>simp only [SchO.fits] at hf;rename_i o g r;obtain ⟨ho,hgi,hf⟩:=hf;have hgo:=dk ho hgi;simp only [AT2] at h;show wpOp P ops _ i _ a w;unfold wpOp;simp only [ho];split at h<;>try (exact h.elim;done)
  ·rename_i hg;rw [if_pos (fp hr hN hgo hg)];exact .inl (jK hr h fun st' a' w' hS hr' hF=>⟨fun hk=>hF (e6 ho hk).1 (e6 ho hk).2,lB hN s r _ _ _ hf hS hr'⟩)
  rename_i hg;rw [if_neg (by rw [fp hr hN hgo hg];simp)];exact ⟨fun _=>FL.refl w,lB hN s r _ _ _ hf h (hr.dead o.dst)⟩
 | .two i j s s',r,st,a,w,hf,h,hr=>by
  cases r<;>simp only [SchO.fits] at hf;rename_i oi oj r r';obtain ⟨hi,hgi,hj,hgj,hf1,hf2⟩:=hf;have g1:Region.wanted oi (yielded ops a.tmps)=true:=fp hr hN (dk hi hgi) rfl;have g2:Region.wanted oj (yielded ops a.tmps)=true:=fp hr hN (dk hj hgj) rfl;simp only [AT2] at h;obtain ⟨s1,s2⟩:=h;refine ⟨?_,?_⟩
  ·show wpOp P ops _ i _ a w;unfold wpOp;simp only [hi];rw [if_pos g1];exact .inl (jK hr s1 fun st' a' w' hS hr' hF=>⟨fun hk=>hF (e6 hi hk).1 (e6 hi hk).2,lB hN s r _ _ _ hf1 hS hr'⟩)
  show wpOp P ops _ j _ a w;unfold wpOp;simp only [hj];rw [if_pos g2];exact .inl (jK hr s2 fun st' a' w' hS hr' hF=>⟨fun hk=>hF (e6 hj hk).1 (e6 hj hk).2,lB hN s' r' _ _ _ hf2 hS hr'⟩)
theorem cb (I:List Nat) {id:Nat} (hm:P.follows .mixedOrders=true) (s:Sch) (hB:(Region.noSelect ops&&decide (s.len=ops.size)&&fx .any ops (p8 ops I) s (Array.replicate ops.size false))=true)
  {gs:List (Option (Nat×Bool))} (hg:dj ops=gs) {r:SchO} (hr:SchO.mk ops gs s=some r) (hN:decide (N<1000000)=true) (h:AT2 P N I (Q .normal) r st):Awp P e k0 N (.region id ops true) Q st:=fun a w hr'=>by
 subst hg;exact jm hm s (p8 ops I) hB (fun c a d v w hq=>(hq.1 c rfl).elim) (lB (of_decide_eq_true hN) s r st a _ (SchO.mk_fits hr) h hr'.drew)
end
section
variable {P : Program} {e : En} {k0 : Kx} {N : Nat} {I : List Nat} {st : St} {Q : Exit → St → Prop} {ops : Array Oper}
end
def EK (P:Program) (N:Nat) (I:List Nat) (Q:St->Prop) (g:Option Bool) (o:Oper) (r:SchO) (st:St):Prop:=
 match g with
 |some true=>match o.dst with
  |some d=>nU (fe P st o.op) d N (AT2 P N I Q r) st
  |none=>False
 |some false=>AT2 P N I Q r (fy st o.dst (.tup []))
 |none=>False
def GC (P:Program) (N:Nat) (I:List Nat) (Q:St->Prop) (g:Option Bool) (o:Oper) (r:SchO) (st:St):Prop:=
 match g with
 |some true=>gW P N (jJ I o) st o (AT2 P N I Q r)
 |some false=>AT2 P N I Q r (fy st o.dst (.tup []))
 |none=>False
section
variable {P : Program} {N : Nat} {I : List Nat} {Q : St → Prop} {st : St} {o oi oj : Oper} {g : Option (Nat × Bool)} {r s : SchO}
theorem EL:AT2 P N I Q .nil st=Q st:=rfl
theorem Da:AT2 P N I Q (.take o g r) st=EK P N I Q (gd g st) o r st:=by
 simp only [AT2,EK];cases gd g st with
 |none=>rfl
 |some b=>
  cases b with
  |false=>rfl
  |true=>
   cases o.dst with
   |none=>rfl
   |some d=>
    simp only [nU];cases fe P st o.op with
    |none=>rfl
    |some q=>rfl
theorem EM:AT2 P N I Q (.eff o g r) st=GC P N I Q (gd g st) o r st:=rfl
theorem GD {d:Nat} {op:Op} {t:TypeId} {ps:String} {af:Array Edge} {gg:Option (Nat×Bool)}:EK P N I Q (some true) ⟨some d,op,t,ps,af,gg⟩ r st=nU (fe P st op) d N (AT2 P N I Q r) st:=rfl
theorem GE:EK P N I Q (some false) o r st=AT2 P N I Q r (fy st o.dst (.tup [])):=rfl
theorem GF:GC P N I Q (some true) o r st=gW P N (jJ I o) st o (AT2 P N I Q r):=rfl
theorem GG:GC P N I Q (some false) o r st=AT2 P N I Q r (fy st o.dst (.tup [])):=rfl
theorem EN:AT2 P N I Q (.two oi oj r s) st=(gW P N (jJ I oi) st oi (AT2 P N I Q r)/\gW P N (jJ I oj) st oj (AT2 P N I Q s)):=rfl
theorem xW {d:Nat} {op:Op} {t:TypeId} {ps:String} {af:Array Edge} {gg:Option (Nat×Bool)}:jJ I ⟨some d,op,t,ps,af,gg⟩=if fA I d=true then [d] else []:=rfl
theorem xX {op:Op} {t:TypeId} {ps:String} {af:Array Edge} {gg:Option (Nat×Bool)}:jJ I ⟨none,op,t,ps,af,gg⟩=[]:=rfl
end
def AL3 (P:Program) (N:Nat) (I:List Nat) (Q:St->Prop):List Oper->List (Option (Nat×Bool))->St->Prop
 |o::os,g::gs,st=>match gd g st with
  |some true=>gW P N I st o (AL3 P N I Q os gs)
  |some false=>AL3 P N I Q os gs (fy st o.dst (.tup []))
  |none=>False
 |[],_,st=>Q st
 |_,_,_=>False
def GH (P:Program) (N:Nat) (I:List Nat) (Q:St->Prop) (g:Option Bool) (o:Oper) (os:List Oper) (gs:List (Option (Nat×Bool))) (st:St):Prop:=
 match g with
 |some true=>gW P N I st o (AL3 P N I Q os gs)
 |some false=>AL3 P N I Q os gs (fy st o.dst (.tup []))
 |none=>False
section
variable {P : Program} {e : En} {k0 : Kx} {N : Nat} {I : List Nat} {st : St} {Q : Exit → St → Prop} {ops : Array Oper}
theorem xY (hN:N<1000000):∀(l:List Oper) (gs:List (Option (Nat×Bool))) (st:St) (a:Act) (w:World),(gs=l.map fun o=>match o.guard with
  |none=>none
  |some (j,want)=>some (((ops[j]?).bind (·.dst)).getD 1000000,want))->AL3 P N I (Q .normal) l gs st->Rel e k0 N st a w->wpList P ops (rh e k0 N Q) l a w
 |[],_,st,a,w,_,h,hr=>by
  simp only [AL3] at h;exact ⟨fun c=>by simp,st,h,hr⟩
 |o::os,[],_,_,_,hg,_,_=>by simp at hg
 |o::os,g::gs,st,a,w,hgs,h,hr=>by
  simp only [List.map_cons,List.cons.injEq] at hgs;simp only [AL3] at h;split at h<;>try (exact h.elim;done)
  ·rename_i hg;refine wpList_step fun K hK=>?_
   rw [if_pos (fp hr hN hgs.1 hg)];exact jK hr h fun st' a' w' hS hr' _=>hK _ _ (xY hN os gs st' a' w' hgs.2 hS hr')
  rename_i hg;refine wpList_step fun K hK=>?_
  rw [if_neg (by rw [fp hr hN hgs.1 hg];simp)];exact hK _ _ (xY hN os gs _ _ _ hgs.2 h (hr.dead o.dst))
theorem vU (I:List Nat) {id:Nat} {l:List Oper} {gs:List (Option (Nat×Bool))} (hl:ops.toList=l) (hg:dj ops=gs) (hN:decide (N<1000000)=true) (h:AL3 P N I (Q .normal) l gs st):Awp P e k0 N (.region id ops false) Q st:=fun a w hr=>by
 subst hl;exact wp_region_list (xY (of_decide_eq_true hN) _ gs _ _ _ hg.symm h hr)
end
section
variable {P : Program} {N : Nat} {I : List Nat} {Q : St → Prop} {st : St} {o : Oper} {os : List Oper} {g : Option (Nat × Bool)} {gs : List (Option (Nat × Bool))}
theorem EO:AL3 P N I Q [] gs st=Q st:=by cases gs<;>rfl
theorem Db:AL3 P N I Q (o::os) (g::gs) st=GH P N I Q (gd g st) o os gs st:=rfl
theorem GI:GH P N I Q (some true) o os gs st=gW P N I st o (AL3 P N I Q os gs):=rfl
theorem GJ:GH P N I Q (some false) o os gs st=AL3 P N I Q os gs (fy st o.dst (.tup [])):=rfl
end
def SD:=And.intro @EO (And.intro @Db (And.intro @GI (And.intro @GJ (And.intro @gW.eq_def (And.intro @zv.eq_def (And.intro @b0T.eq_def (And.intro @Array.size_empty.{0} (And.intro @EL (And.intro @Da (And.intro @EM (And.intro @GD (And.intro @GE (And.intro @GF (And.intro @GG (And.intro @EN (And.intro @xW @xX))))))))))))))))
end Go.Proofs.YtokmkopihhnggaaGreatDoor
