/- The abstract machine: a call that only reads what the caller owns; estates with agreements whose claims are rows of the call's own. No program in sight. -/
import Derived.Test.YtcgpghifhehlhaaGreatDoorGu1M
import Derived.Test.YtcgpghifhehlhaaGreatDoorAbTM
set_option linter.unusedVariables false
set_option linter.unusedSimpArgs false
set_option linter.defProp false
set_option linter.unusedSectionVars false
namespace Go.Proofs.YtcgpghifhehlhaaGreatDoor
open Go Go.RowKit
section
variable {P : Program} {e : En} {H : Hp} {nx : Nat} {σ : Nat → Value} {w : World}
end
section
variable {P : Program} {e : En} {k0 : Kx} {N : Nat} {tm : Nat → AV} {nb s : Nat} {Q : Exit → St → Prop} {c : Code}
end
def ib (I:List Nat) (o:Oper):List Nat:=match o.dst with
 |some d=>if fI I d=true then [d] else []
 |none=>[]
def lG (ops:Array Oper) (I:List Nat) (i:Nat):Bool:=match ops[i]? with
 |some o=> !(fS o.op)&&(ib I o).isEmpty
 |none=>true
def r8 (P:Program) (st:St) (d:Nat) (t:TypeId):Option (Prop×St):=match elT P t with
 |some (E,sz,_)=>some (sz≠0,⟨up st.tm d (.val (.one (.own (st.nb+d) st.nx 0 sz))),up st.H (st.nb+d) (some ⟨st.nx,E,sz,0,[]⟩),st.nx+1,st.nb⟩)
 |none=>none
def b0T:Op->Option TypeId
 | .buildSlice t len parts=>if len=0/\parts.size=0 then some t else none
 |_=>none
def gm (P:Program) (N:Nat) (I:List Nat) (st:St) (o:Oper) (K:St->Prop):Prop:=match b0T o.op,o.dst with
 |some t,some d=>gP (r8 P st d t) d N K
 |_,_=>fb P N I st o K
section
variable {P : Program} {e : En} {k0 : Kx} {N : Nat} {I : List Nat} {st st' : St} {a : Act} {w : World} {o : Oper} {p : Prop} {d : Nat} {K : Act → World → Prop} {Q : Exit → Act → World → Prop}
theorem zM (hr:Rel e k0 N st a w) (hdst:o.dst=some d) (hdN:d<N) {t:TypeId} (hop:o.op= .buildSlice t 0 #[]) (h:r8 P st d t=some (p,st')) (hp:p) (hK:∀a' w',Rel e k0 N st' a' w'->FL w w'->K a' w'):o.wp P a w K Q:=by
 unfold r8 at h;split at h<;>try (cases h;done)
 rename_i E sz by_ hel;simp only [Option.some.injEq,Prod.mk.injEq] at h;obtain ⟨rfl,rfl⟩:=h;obtain ⟨g1,i,g2,g3,g4⟩:=dZ hel;refine kH (v:= .slice (some ⟨w.heap.size,0,none⟩) 0 0) (us:=[]) (cs:=[]) hr hdst hdN ?_ (fun σ _ k2=>trivial) hp (by simp) (by unfold maxLen;omega) (fun σ w'=>cb (st.nb+d) σ w' rfl) hK;simp only [execOp,hop,Instr.buildSlice,Sem.run_bind,run_underlying g1,Result.andThen_ok,sizeOf,typeInfo,run_program,g2,g3,Sem.run_pure];have hz:Array.range 0= #[]:=by apply Array.eq_empty_of_size_eq_zero;simp
 simp [Instr.fill,newRow,hz]
theorem lH {S:St->Prop} (hr:Rel e k0 N st a w) (h:gm P N I st o S) (hK:∀st' a' w',S st'->Rel e k0 N st' a' w'->(I=[]->fS o.op=false->FL w w')->K a' w'):o.wp P a w K Q:=by
 unfold gm at h;split at h
 ·rename_i t d hb hdst;have hop:o.op= .buildSlice t 0 #[]:=by
   unfold b0T at hb;split at hb<;>try (cases hb;done)
   rename_i t' len parts hop;split at hb<;>try (cases hb;done)
   rename_i h0;obtain rfl:=Option.some.inj hb;rw [hop,h0.1,Array.eq_empty_of_size_eq_zero h0.2]
  unfold gP at h;split at h<;>try (exact h.elim;done)
  rename_i p st' he;obtain ⟨hd,hp,hS⟩:=h;exact zM (st':=st') hr hdst hd hop he hp fun a' w' h1 h2=>hK _ a' w' hS h1 fun _ _=>h2
 exact gQ hr h hK
end
def AT2 (P:Program) (N:Nat) (I:List Nat) (Q:St->Prop):SchO->St->Prop
 | .nil,st=>Q st
 | .take o g r,st=>match gd g st with
  |some true=>match o.dst,d8 P st o.op with
   |some d,some (p,x)=>d<N/\p/\AT2 P N I Q r ⟨up st.tm d x,st.H,st.nx,st.nb⟩
   |_,_=>False
  |some false=>AT2 P N I Q r (putO st o.dst (.tup []))
  |none=>False
 | .eff o g r,st=>match gd g st with
  |some true=>gm P N (ib I o) st o (AT2 P N I Q r)
  |some false=>AT2 P N I Q r (putO st o.dst (.tup []))
  |none=>False
 | .two oi oj r s,st=>gm P N (ib I oi) st oi (AT2 P N I Q r)/\gm P N (ib I oj) st oj (AT2 P N I Q s)
section
variable {P : Program} {e : En} {k0 : Kx} {N : Nat} {I : List Nat} {st st' : St} {Q : Exit → St → Prop} {ops : Array Oper}
theorem dU {i:Nat} {o:Oper} (ho:ops[i]? =some o) (hk:lG ops I i=true):ib I o=[]/\fS o.op=false:=by
 simp only [lG,ho,Bool.and_eq_true,Bool.not_eq_true',List.isEmpty_iff] at hk;exact ⟨hk.2,hk.1⟩
theorem ja (hN:N<1000000):∀(s:Sch) (r:SchO) (st:St) (a:Act) (w:World),SchO.fits ops (cX ops) r s->AT2 P N I (Q .normal) r st->Rel e k0 N st a w->wpP P ops (rz e k0 N Q) (lG ops I) s a w
 | .nil,r,st,a,w,hf,h,hr=>by
  cases r<;>simp only [SchO.fits] at hf;exact ⟨fun c=>by simp,st,h,hr⟩
 | .cons i true s,r,st,a,w,hf,h,hr=>by
  cases r<;>simp only [SchO.fits] at hf;rename_i o g r;obtain ⟨ho,hgi,hf⟩:=hf;have hgo:=cJ ho hgi;simp only [AT2] at h;obtain ⟨σ,h1,h2,h3⟩:=hr.ex;split at h<;>try (exact h.elim;done)
  ·rename_i hg;split at h<;>try (exact h.elim;done)
   rename_i d p x hdst hs;obtain ⟨hd,hp,hS⟩:=h;obtain ⟨v,k1,k2⟩:=jK h1 h2 hs hp;refine ⟨o,v,ho,.inl ⟨fJ hr hN hgo hg,k1⟩,ja hN s r _ _ _ hf hS ?_⟩;rw [hdst];exact hr.put h1 h2 h3 (Ext.refl _) k2 d hd
  rename_i hg;exact ⟨o,undef,ho,.inr ⟨fJ hr hN hgo hg,rfl⟩,ja hN s r _ _ _ hf h (hr.dead o.dst)⟩
 | .cons i false s,r,st,a,w,hf,h,hr=>by
  cases r<;>simp only [SchO.fits] at hf;rename_i o g r;obtain ⟨ho,hgi,hf⟩:=hf;have hgo:=cJ ho hgi;simp only [AT2] at h;show wpOp P ops _ i _ a w;unfold wpOp;simp only [ho];split at h<;>try (exact h.elim;done)
  ·rename_i hg;rw [if_pos (fJ hr hN hgo hg)];exact .inl (lH hr h fun st' a' w' hS hr' hF=>⟨fun hk=>hF (dU ho hk).1 (dU ho hk).2,ja hN s r _ _ _ hf hS hr'⟩)
  rename_i hg;rw [if_neg (by rw [fJ hr hN hgo hg];simp)];exact ⟨fun _=>FL.refl w,ja hN s r _ _ _ hf h (hr.dead o.dst)⟩
 | .two i j s s',r,st,a,w,hf,h,hr=>by
  cases r<;>simp only [SchO.fits] at hf;rename_i oi oj r r';obtain ⟨hi,hgi,hj,hgj,hf1,hf2⟩:=hf;have g1:Region.wanted oi (yielded ops a.tmps)=true:=fJ hr hN (cJ hi hgi) rfl;have g2:Region.wanted oj (yielded ops a.tmps)=true:=fJ hr hN (cJ hj hgj) rfl;simp only [AT2] at h;obtain ⟨s1,s2⟩:=h;refine ⟨?_,?_⟩
  ·show wpOp P ops _ i _ a w;unfold wpOp;simp only [hi];rw [if_pos g1];exact .inl (lH hr s1 fun st' a' w' hS hr' hF=>⟨fun hk=>hF (dU hi hk).1 (dU hi hk).2,ja hN s r _ _ _ hf1 hS hr'⟩)
  show wpOp P ops _ j _ a w;unfold wpOp;simp only [hj];rw [if_pos g2];exact .inl (lH hr s2 fun st' a' w' hS hr' hF=>⟨fun hk=>hF (dU hj hk).1 (dU hj hk).2,ja hN s' r' _ _ _ hf2 hS hr'⟩)
theorem lI (I:List Nat) {id:Nat} (hm:P.follows .mixedOrders=true) (s:Sch) (hB:(Region.noSelect ops&&decide (s.len=ops.size)&&eC .any ops (lG ops I) s (Array.replicate ops.size false))=true)
  {gs:List (Option (Nat×Bool))} (hg:cX ops=gs) {r:SchO} (hr:SchO.mk ops gs s=some r) (hN:decide (N<1000000)=true) (h:AT2 P N I (Q .normal) r st):Awp P e k0 N (.region id ops true) Q st:=fun a w hr'=>by
 subst hg;exact gM hm s (lG ops I) hB (fun c a d v w hq=>(hq.1 c rfl).elim) (ja (of_decide_eq_true hN) s r st a _ (SchO.mk_fits hr) h hr'.drew)
end
section
variable {P : Program} {e : En} {k0 : Kx} {N : Nat} {I : List Nat} {st : St} {Q : Exit → St → Prop} {ops : Array Oper}
end
def xr (P:Program) (N:Nat) (I:List Nat) (Q:St->Prop) (g:Option Bool) (o:Oper) (r:SchO) (st:St):Prop:=
 match g with
 |some true=>match o.dst with
  |some d=>ki (d8 P st o.op) d N (AT2 P N I Q r) st
  |none=>False
 |some false=>AT2 P N I Q r (putO st o.dst (.tup []))
 |none=>False
def yL (P:Program) (N:Nat) (I:List Nat) (Q:St->Prop) (g:Option Bool) (o:Oper) (r:SchO) (st:St):Prop:=
 match g with
 |some true=>gm P N (ib I o) st o (AT2 P N I Q r)
 |some false=>AT2 P N I Q r (putO st o.dst (.tup []))
 |none=>False
section
variable {P : Program} {N : Nat} {I : List Nat} {Q : St → Prop} {st : St} {o oi oj : Oper} {g : Option (Nat × Bool)} {r s : SchO}
theorem xu:AT2 P N I Q .nil st=Q st:=rfl
theorem vG:AT2 P N I Q (.take o g r) st=xr P N I Q (gd g st) o r st:=by
 simp only [AT2,xr];cases gd g st with
 |none=>rfl
 |some b=>
  cases b with
  |false=>rfl
  |true=>
   cases o.dst with
   |none=>rfl
   |some d=>
    simp only [ki];cases d8 P st o.op with
    |none=>rfl
    |some q=>rfl
theorem xv:AT2 P N I Q (.eff o g r) st=yL P N I Q (gd g st) o r st:=rfl
theorem yM {d:Nat} {op:Op} {t:TypeId} {ps:String} {af:Array Edge} {gg:Option (Nat×Bool)}:xr P N I Q (some true) ⟨some d,op,t,ps,af,gg⟩ r st=ki (d8 P st op) d N (AT2 P N I Q r) st:=rfl
theorem yN:xr P N I Q (some false) o r st=AT2 P N I Q r (putO st o.dst (.tup [])):=rfl
theorem yO:yL P N I Q (some true) o r st=gm P N (ib I o) st o (AT2 P N I Q r):=rfl
theorem yP:yL P N I Q (some false) o r st=AT2 P N I Q r (putO st o.dst (.tup [])):=rfl
theorem xw:AT2 P N I Q (.two oi oj r s) st=(gm P N (ib I oi) st oi (AT2 P N I Q r)/\gm P N (ib I oj) st oj (AT2 P N I Q s)):=rfl
theorem qT {d:Nat} {op:Op} {t:TypeId} {ps:String} {af:Array Edge} {gg:Option (Nat×Bool)}:ib I ⟨some d,op,t,ps,af,gg⟩=if fI I d=true then [d] else []:=rfl
theorem qU {op:Op} {t:TypeId} {ps:String} {af:Array Edge} {gg:Option (Nat×Bool)}:ib I ⟨none,op,t,ps,af,gg⟩=[]:=rfl
end
def AL3 (P:Program) (N:Nat) (I:List Nat) (Q:St->Prop):List Oper->List (Option (Nat×Bool))->St->Prop
 |o::os,g::gs,st=>match gd g st with
  |some true=>gm P N I st o (AL3 P N I Q os gs)
  |some false=>AL3 P N I Q os gs (putO st o.dst (.tup []))
  |none=>False
 |[],_,st=>Q st
 |_,_,_=>False
def yQ (P:Program) (N:Nat) (I:List Nat) (Q:St->Prop) (g:Option Bool) (o:Oper) (os:List Oper) (gs:List (Option (Nat×Bool))) (st:St):Prop:=
 match g with
 |some true=>gm P N I st o (AL3 P N I Q os gs)
 |some false=>AL3 P N I Q os gs (putO st o.dst (.tup []))
 |none=>False
section
variable {P : Program} {e : En} {k0 : Kx} {N : Nat} {I : List Nat} {st : St} {Q : Exit → St → Prop} {ops : Array Oper}
end
section
variable {P : Program} {N : Nat} {I : List Nat} {Q : St → Prop} {st : St} {o : Oper} {os : List Oper} {g : Option (Nat × Bool)} {gs : List (Option (Nat × Bool))}
theorem xx:AL3 P N I Q [] gs st=Q st:=by cases gs<;>rfl
theorem vH:AL3 P N I Q (o::os) (g::gs) st=yQ P N I Q (gd g st) o os gs st:=rfl
theorem yR:yQ P N I Q (some true) o os gs st=gm P N I st o (AL3 P N I Q os gs):=rfl
theorem yS:yQ P N I Q (some false) o os gs st=AL3 P N I Q os gs (putO st o.dst (.tup [])):=rfl
end
def SD:=And.intro @xx (And.intro @vH (And.intro @yR (And.intro @yS (And.intro @gm.eq_def (And.intro @r8.eq_def (And.intro @b0T.eq_def (And.intro @Array.size_empty.{0} (And.intro @xu (And.intro @vG (And.intro @xv (And.intro @yM (And.intro @yN (And.intro @yO (And.intro @yP (And.intro @xw (And.intro @qT @qU))))))))))))))))
end Go.Proofs.YtcgpghifhehlhaaGreatDoor
