/- Groups of estates as cells; comparisons of legs; maps of legs. -/
import Derived.Test.YtcgpghifhehlhaaGreatDoorAb11M
import Derived.Test.YtcgpghifhehlhaaGreatDoorGrpM
import Derived.Laws.Cover3
set_option linter.unusedVariables false
set_option linter.unusedSimpArgs false
set_option linter.defProp false
set_option linter.unusedSectionVars false
namespace Go.Proofs.YtcgpghifhehlhaaGreatDoor
open Go Go.RowKit Go.Proofs.Tryz
def aA (c:GClaim):List C:=[.lit (.int .i64 c.holder),.lit (.int .i64 c.rank),.lit (.bool c.amount.neg),.lit (.string c.amount.num),.lit (.string c.amount.den)]
def aT (p:GPart):List C:=[.lit (.int .i64 p.claim),.lit (.bool p.capped),.lit (.bool p.cap.neg),.lit (.string p.cap.num),.lit (.string p.cap.den)]
def bo (t:List GPart):List C:=[.sh 5 t.length (ar aT t)]
def aU (a:cw):List C:=[.sh 1 a.length (ar bo a)]
def bh (e:GEst):List C:=[.lit (.bool e.cash.neg),.lit (.string e.cash.num),.lit (.string e.cash.den),.sh 5 e.claims.length (ar aA e.claims),.sh 1 e.agrs.length (ar aU e.agrs)]
abbrev Leg:=Int×Int
def f9 (l:Leg):List C:=[.lit (.int .i64 l.1),.lit (.int .i64 l.2)]
def cn (d:GDebt):List C:=[.lit (.bool d.whole.neg),.lit (.string d.whole.num),.lit (.string d.whole.den),.sh 2 d.legs.length (ar f9 d.legs)]
def au (g:GGrp):List C:=[.sh 5 g.ests.length (ar bh g.ests),.sh 4 g.debts.length (ar cn g.debts)]
def cI (n:Int):List C:=[.lit (.int .i64 n)]
theorem bX (c:GClaim):(aA c).length=5:=rfl
theorem gj (c:GPart):(aT c).length=5:=rfl
theorem eI (c:List GPart):(bo c).length=1:=rfl
theorem dG (c:cw):(aU c).length=1:=rfl
theorem de (c:GEst):(bh c).length=5:=rfl
theorem cr (c:Leg):(f9 c).length=2:=rfl
theorem dT (c:GDebt):(cn c).length=4:=rfl
theorem qP (c:Int):(cI c).length=1:=rfl
theorem bA (c:GClaim):av (aA c)=true:=rfl
theorem eJ (c:GPart):av (aT c)=true:=rfl
theorem cA (t:List GPart):av (bo t)=true:=by simp [bo,av,az,ab eJ]
theorem bg (a:cw):av (aU a)=true:=by simp [aU,av,az,ab cA]
theorem ak (e:GEst):av (bh e)=true:=by simp [bh,av,az,ab bA,ab bg]
theorem mN (c:Leg):av (f9 c)=true:=rfl
theorem ai (d:GDebt):av (cn d)=true:=by simp [cn,av,az,ab mN]
theorem rV (n:Int):av (cI n)=true:=rfl
def iI (l:Leg):Value:= .agg #[.int .i64 l.1,.int .i64 l.2]
def jV (T:List Leg):List C:=T.map fun l=>ent (iI l) (.bool true)
theorem kw (a b:Leg):eqW (iI a) (iI b)=decide (a=b):=by
 obtain ⟨a1,a2⟩:=a;obtain ⟨b1,b2⟩:=b;simp only [eqW,iI,oc,eqV,Bool.and_true];by_cases h1:a1=b1<;>by_cases h2:a2=b2<;>simp [h1,h2]
theorem lD (l:Leg):∀T:List Leg,gK (iI l) (jV T)=if l∈T then some (.bool true) else none
 |[]=>rfl
 |a::T=>by
  simp only [jV,List.map_cons,gK,oo,kw,decide_eq_true_eq,List.mem_cons];by_cases h:l=a
  ·simp [h]
  have:=lD l T;simp only [jV] at this;simp [h,this]
theorem pp (l:Leg):∀T:List Leg,l∉T->jI (iI l) (.bool true) (jV T)=jV (T++[l])
 |[],_=>rfl
 |a::T,h=>by
  simp only [List.mem_cons,not_or] at h;have:=pp l T h.2;simp only [jV] at this;simp only [jV,List.map_cons,jI,oo,kw,decide_eq_true_eq,h.1,if_false,List.cons_append,this]
theorem lE : (prog.fieldsOf 44).toList = [⟨ "Estate", 3, 0, false, "", "", 0⟩, ⟨ "Claim", 3, 1, false, "", "", 8⟩] := by kernel_rfl
theorem xk:ldT prog 3=some (false,1):=by kernel_rfl
theorem pq (cs:Array Value) (i:Nat) (v:Value) (h:cs[i]? =some v) (w:World):(part 3 cs i).run prog w= .ok v w:=by
 simp [part,(Fs xk w).1,h]
theorem ve (x y:Value) (w:World):(part 3 #[x,y] 0).run prog w= .ok x w:=pq _ 0 _ rfl w
theorem vf (x y:Value) (w:World):(part 3 #[x,y] 1).run prog w= .ok y w:=pq _ 1 _ rfl w
theorem tD (a b:Leg) (w:World):(Op.equal 44 (iI a) (iI b)).run prog w= .ok (decide (a=b)) w:=by
 obtain ⟨a1,a2⟩:=a;obtain ⟨b1,b2⟩:=b;have h2:=run_equalIn_agg (P:=prog) w 9999 44 #[.int .i64 a1,.int .i64 a2] #[.int .i64 b1,.int .i64 b2] (by kernel_rfl) (by kernel_rfl);have h3:(Op.equal 44 (iI (a1,a2)) (iI (b1,b2))).run prog w=(Op.equalIn (9999+1) 44 (.agg #[.int .i64 a1,.int .i64 a2]) (.agg #[.int .i64 b1,.int .i64 b2])).run prog w:=rfl;have hi:=fun (x y:Int)=>run_equalIn_int (P:=prog) w 9998 3 .i64 .i64 x y (by kernel_rfl)
 rw [h3,h2,lE];have n1 : ¬ "Estate" = "_" := by decide
 have n2 : ¬ "Claim" = "_" := by decide
 simp only [Op.eqFields,ne_eq,n1,n2,not_false_eq_true,if_true,Sem.run_bind,ve,Result.andThen_ok,hi];by_cases g1:a1=b1<;>by_cases g2:a2=b2<;>simp [g1,g2,hi,vf]
theorem xl (b:Bool) (l:Leg) (w:World):(Instr.checkKey b 10000 44 (iI l)).run prog w= .ok () w:=by
 have hu:prog.underlying 44=some (.struct (prog.fieldsOf 44)):=by kernel_rfl
 have hi:prog.underlying 3=some (.int .i64):=by kernel_rfl
 have k:∀d v,(Instr.checkKey b (d+1) 3 (.int .i64 v)).run prog w= .ok () w:=fun d v=>by
  simp [Instr.checkKey,underlying,hi]
 have e:(Instr.checkKey b (9999+1) 44 (iI l)).run prog w= .ok () w:=by
  have n1 : ¬ "Estate" = "_" := by decide
  have n2 : ¬ "Claim" = "_" := by decide
  rw [Instr.checkKey];simp only [Sem.run_bind,run_underlying hu,Result.andThen_ok,iI];rw [←Array.forIn_toList,lE];simp [List.forIn_cons,n1,n2,ve,vf,k 9998]
 exact e
theorem qQ (l:Leg) (T:List Leg):MK prog 44 (iI l) (jV T):=by
 refine ⟨fun b w=>xl b l w,.struct (prog.fieldsOf 44),by kernel_rfl,fun c hc=>?_⟩;obtain ⟨x,hx,rfl⟩:=List.mem_map.1 hc;refine ⟨iI x,.bool true,rfl,fun w=>by rw [kw];exact tD l x w,.inl rfl,fun h=>?_⟩;rw [kw] at h;obtain rfl:=of_decide_eq_true h;simp [iI,Instr.sameBits]
theorem xm (l:Leg) (T:List Leg) (h:l∈T):gK (.agg #[.int .i64 l.1,.int .i64 l.2]) (jV T)=some (.bool true):=by
 have:=lD l T;rw [if_pos h] at this;exact this
theorem vg (l:Leg) (T:List Leg) (h:l∉T):gK (.agg #[.int .i64 l.1,.int .i64 l.2]) (jV T)=none:=by
 have:=lD l T;rw [if_neg h] at this;exact this
theorem vh (l:Leg) (T:List Leg) (h:l∉T):jI (.agg #[.int .i64 l.1,.int .i64 l.2]) (.bool true) (jV T)=jV (T++[l]):=pp l T h
section
variable {P : Program} {e : En} {k0 : Kx} {N : Nat} {st : St} {a : Act} {w : World} {Q : Exit → St → Prop} {c : Code}
theorem gF {nm nm2 off s n sz:Nat} {B B2:Blk} (hB:st.H nm=some B) (hB2:st.H nm2=some B2) (hne:nm2≠nm) (hsz:B.sz≠0) (hsz2:B2.sz≠0) (hs:B.st=s) (hc:B2.cs[off]? =some (.own nm s n sz)) (hr:Rel e k0 N st a w):
  Rel e k0 N ⟨st.tm,up (up st.H nm none) nm2 (some {B2 with cs:=B2.cs.set off (.sh sz n B.cs)}),st.nx,st.nb⟩ a w:=by
 obtain ⟨σ,h1,h2,h3⟩:=hr.ex;obtain ⟨k1,k2⟩:=h1.drop nm;have hp:=h1.publish hB hsz;have hB':up st.H nm none nm2=some B2:=by rw [ck _ _ hne];exact hB2
 obtain ⟨g1,g2,xs,g3,g4⟩:=h1.rowOf hB2 (.inl hsz2);obtain ⟨u,q1,q2⟩:=g4.get off hc;simp only [den] at q2;obtain ⟨r1,r2,r3⟩:=q2.2.2 B hB hs;have hlt:off<xs.length:=(List.getElem?_eq_some_iff.1 q1).1;have hxu:xs[off]=u:=(List.getElem?_eq_some_iff.1 q1).2;have hset:xs.set off u=xs:=by rw [←hxu];exact List.set_getElem_self hlt
 have hu:den (kx e (up st.H nm none) st.nx σ w) u (.sh sz n B.cs):=by
  rw [←r2,←r3,r1];exact hp
 have hd:=(dQ k2 g4).set off hu;rw [hset] at hd;obtain ⟨m1,m2⟩:=k1.upd (w':=w) hB' ⟨rfl,rfl,rfl,Nat.le_refl _,fun _ _ _=>rfl⟩ (cs:=B2.cs.set off (.sh sz n B.cs)) hsz2 (by simpa using g2) g3 hd;exact ⟨⟨_,m1,fun t'=>dz (k2.trans m2) (h2 t'),h3.trans (k2.trans m2)⟩,hr.df,hr.sz⟩
theorem ao (nm nm2 off:Nat) {s n sz:Nat} {B B2:Blk} (hB:st.H nm=some B) (hB2:st.H nm2=some B2) (hc:B2.cs[off]? =some (.own nm s n sz)) (hne:nm2≠nm) (hsz:B.sz≠0) (hsz2:B2.sz≠0) (hs:B.st=s)
  (h:Awp P e k0 N c Q ⟨st.tm,up (up st.H nm none) nm2 (some {B2 with cs:=B2.cs.set off (.sh sz n B.cs)}),st.nx,st.nb⟩):Awp P e k0 N c Q st:=be (fun _ _ hr=>gF hB hB2 hne hsz hsz2 hs hc hr) h
end
def tbl (q:Nat) (E:TypeId) (ps:List (GEst×Nat)):Hp:=fun nm=>
 if 1000<=nm/\nm%1000=q then (ps[nm/1000-1]?).map fun p=>⟨p.2,E,5,p.1.claims.length,ar aA p.1.claims⟩ else none
theorem bk {q:Nat} {E:TypeId} {ps:List (GEst×Nat)} {i:Nat} {p:GEst×Nat} (hq:q<1000) (h:ps[i]? =some p):tbl q E ps (1000*(i+1)+q)=some ⟨p.2,E,5,p.1.claims.length,ar aA p.1.claims⟩:=by
 have h1:(1000*(i+1)+q)/1000-1=i:=by omega
 unfold tbl;rw [if_pos (by omega),h1,h];rfl
theorem xn {q:Nat} {E:TypeId} {ps:List (GEst×Nat)} {nm:Nat} (h:nm<1000):tbl q E ps nm=none:=if_neg (by omega)
theorem bD {q:Nat} {E:TypeId} {ps:List (GEst×Nat)} {nm:Nat} {B:Blk} (h:tbl q E ps nm=some B):∃i p,nm=1000*(i+1)+q/\ps[i]? =some p/\B=⟨p.2,E,5,p.1.claims.length,ar aA p.1.claims⟩:=by
 unfold tbl at h;split at h
 ·rename_i h1;obtain ⟨p,h2,rfl⟩:=Option.map_eq_some_iff.1 h;exact ⟨nm/1000-1,p,by omega,h2,rfl⟩
 cases h
theorem bR {q:Nat} {E:TypeId} {ps:List (GEst×Nat)} {H:Hp} (h:∀i p,ps[i]? =some p->H (1000*(i+1)+q)=some ⟨p.2,E,5,p.1.claims.length,ar aA p.1.claims⟩) (m:List Nat):∀x B,tbl q E ps x=some B->fI m x=true∨H x=some B:=by
 intro x B hx;obtain ⟨i,p,rfl,h1,rfl⟩:=bD hx;exact .inr (h i p h1)
def aR (q:Nat) (i:Nat) (p:GEst×Nat):C:= .own (1000*(i+1)+q) p.2 p.1.claims.length 5
def fSh (_:Nat) (p:GEst×Nat):C:= .sh 5 p.1.claims.length (ar aA p.1.claims)
theorem bY (cs:List C) (off:Nat) (c:C) (h:off<cs.length):spl cs off [c]=cs.set off c:=by
 induction cs generalizing off with
 |nil=>simp at h
 |cons d cs ih=>
  cases off with
  |zero=>rw [jQ,nI];rfl
  |succ n=>rw [lC,ih n (by simpa using h)];rfl
def ia (sel:Nat->Bool) (q:Nat) (E:TypeId) (ps:List (GEst×Nat)):Hp:=fun nm=>if sel (nm/1000-1) then tbl q E ps nm else none
theorem pu (q:Nat) (E:TypeId) (ps:List (GEst×Nat)) (sel:Nat->Bool) (h:∀i,i<ps.length->sel i=true):ia sel q E ps=tbl q E ps:=by
 funext nm;unfold ia;split
 ·rfl
 rename_i h1;cases hx:tbl q E ps nm with
 |none=>rfl
 |some B=>
  obtain ⟨i,p,rfl,h2,_⟩:=bD hx;have h3:=h i (List.getElem?_eq_some_iff.1 h2).1;have:(1000*(i+1)+q)/1000-1=i+q/1000:=by omega
  have hq:q<1000:=by
   unfold tbl at hx;split at hx
   ·rename_i h4;omega
   cases hx
  rw [this,Nat.div_eq_of_lt hq] at h1;exact absurd h3 h1
theorem mQ (q:Nat) (E:TypeId) (ps:List (GEst×Nat)) (sel:Nat->Bool) (h:∀i,i<ps.length->sel i=false):ia sel q E ps=fun _=>none:=by
 funext nm;unfold ia;split
 ·rename_i h1;cases hx:tbl q E ps nm with
  |none=>rfl
  |some B=>
   obtain ⟨i,p,rfl,h2,_⟩:=bD hx;have h3:=h i (List.getElem?_eq_some_iff.1 h2).1;have:(1000*(i+1)+q)/1000-1=i+q/1000:=by omega
   have hq:q<1000:=by
    unfold tbl at hx;split at hx
    ·rename_i h4;omega
    cases hx
   rw [this,Nat.div_eq_of_lt hq,Nat.add_zero,h3] at h1;cases h1
 rfl
theorem fq {H:Hp} {nm:Nat} (hn:1000<=nm):∀{m:List (Nat×Blk)},(∀p∈m,p.1<1000)->bW H m nm=H nm
 |[],_=>rfl
 |p::m,h=>by
  have h1:=h p (by simp);rw [bW.eq_2,ck _ _ (by omega)];exact fq hn fun x hx=>h x (by simp [hx])
theorem jB {H H':Hp} {nm:Nat} (hh:H nm=H' nm):∀{m:List (Nat×Blk)},bW H m nm=bW H' m nm
 |[]=>hh
 |p::m=>by
  rw [bW.eq_2,bW.eq_2,aj,aj,jB hh]
section
variable {P : Program} {e : En} {k0 : Kx} {N : Nat} {tm : Nat → AV} {nb s : Nat} {Q : Exit → St → Prop} {c : Code}
def dw (j:Nat) (f g:Nat->GEst×Nat->C):Nat->GEst×Nat->C:=fun i p=>if i<j then f i p else g i p
end
def ib (I:List Nat) (o:Oper):List Nat:=match o.dst with
 |some d=>if fI I d=true then [d] else []
 |none=>[]
def lG (ops:Array Oper) (I:List Nat) (i:Nat):Bool:=match ops[i]? with
 |some o=> !(fS o.op)&&(ib I o).isEmpty
 |none=>true
def r8 (P:Program) (st:St) (d:Nat) (t:TypeId):Option (Prop×St):=match elT P t with
 |some (E,sz,_)=>some (sz≠0,⟨up st.tm d (.val (.one (.own (st.nb+d) st.nx 0 sz))),up st.H (st.nb+d) (some ⟨st.nx,E,sz,0,[]⟩),st.nx+1,st.nb⟩)
 |none=>none
def b0T:Op->Option TypeId
 | .buildSlice t len parts=>if len=0/\parts.size=0 then some t else none
 |_=>none
def gm (P:Program) (N:Nat) (I:List Nat) (st:St) (o:Oper) (K:St->Prop):Prop:=match b0T o.op,o.dst with
 |some t,some d=>gP (r8 P st d t) d N K
 |_,_=>fb P N I st o K
section
variable {P : Program} {e : En} {k0 : Kx} {N : Nat} {I : List Nat} {st st' : St} {a : Act} {w : World} {o : Oper} {p : Prop} {d : Nat} {K : Act → World → Prop} {Q : Exit → Act → World → Prop}
theorem zM (hr:Rel e k0 N st a w) (hdst:o.dst=some d) (hdN:d<N) {t:TypeId} (hop:o.op= .buildSlice t 0 #[]) (h:r8 P st d t=some (p,st')) (hp:p) (hK:∀a' w',Rel e k0 N st' a' w'->FL w w'->K a' w'):o.wp P a w K Q:=by
 unfold r8 at h;split at h<;>try (cases h;done)
 rename_i E sz by_ hel;simp only [Option.some.injEq,Prod.mk.injEq] at h;obtain ⟨rfl,rfl⟩:=h;obtain ⟨g1,i,g2,g3,g4⟩:=dZ hel;refine kH (v:= .slice (some ⟨w.heap.size,0,none⟩) 0 0) (us:=[]) (cs:=[]) hr hdst hdN ?_ (fun σ _ k2=>trivial) hp (by simp) (by unfold maxLen;omega) (fun σ w'=>cb (st.nb+d) σ w' rfl) hK;simp only [execOp,hop,Instr.buildSlice,Sem.run_bind,run_underlying g1,Result.andThen_ok,sizeOf,typeInfo,run_program,g2,g3,Sem.run_pure];have hz:Array.range 0= #[]:=by apply Array.eq_empty_of_size_eq_zero;simp
 simp [Instr.fill,newRow,hz]
theorem lH {S:St->Prop} (hr:Rel e k0 N st a w) (h:gm P N I st o S) (hK:∀st' a' w',S st'->Rel e k0 N st' a' w'->(I=[]->fS o.op=false->FL w w')->K a' w'):o.wp P a w K Q:=by
 unfold gm at h;split at h
 ·rename_i t d hb hdst;have hop:o.op= .buildSlice t 0 #[]:=by
   unfold b0T at hb;split at hb<;>try (cases hb;done)
   rename_i t' len parts hop;split at hb<;>try (cases hb;done)
   rename_i h0;obtain rfl:=Option.some.inj hb;rw [hop,h0.1,Array.eq_empty_of_size_eq_zero h0.2]
  unfold gP at h;split at h<;>try (exact h.elim;done)
  rename_i p st' he;obtain ⟨hd,hp,hS⟩:=h;exact zM (st':=st') hr hdst hd hop he hp fun a' w' h1 h2=>hK _ a' w' hS h1 fun _ _=>h2
 exact gQ hr h hK
end
def AT2 (P:Program) (N:Nat) (I:List Nat) (Q:St->Prop):SchO->St->Prop
 | .nil,st=>Q st
 | .take o g r,st=>match gd g st with
  |some true=>match o.dst,d8 P st o.op with
   |some d,some (p,x)=>d<N/\p/\AT2 P N I Q r ⟨up st.tm d x,st.H,st.nx,st.nb⟩
   |_,_=>False
  |some false=>AT2 P N I Q r (putO st o.dst (.tup []))
  |none=>False
 | .eff o g r,st=>match gd g st with
  |some true=>gm P N (ib I o) st o (AT2 P N I Q r)
  |some false=>AT2 P N I Q r (putO st o.dst (.tup []))
  |none=>False
 | .two oi oj r s,st=>gm P N (ib I oi) st oi (AT2 P N I Q r)/\gm P N (ib I oj) st oj (AT2 P N I Q s)
section
variable {P : Program} {e : En} {k0 : Kx} {N : Nat} {I : List Nat} {st st' : St} {Q : Exit → St → Prop} {ops : Array Oper}
theorem dU {i:Nat} {o:Oper} (ho:ops[i]? =some o) (hk:lG ops I i=true):ib I o=[]/\fS o.op=false:=by
 simp only [lG,ho,Bool.and_eq_true,Bool.not_eq_true',List.isEmpty_iff] at hk;exact ⟨hk.2,hk.1⟩
theorem ja (hN:N<1000000):∀(s:Sch) (r:SchO) (st:St) (a:Act) (w:World),SchO.fits ops (cX ops) r s->AT2 P N I (Q .normal) r st->Rel e k0 N st a w->wpP P ops (rz e k0 N Q) (lG ops I) s a w
 | .nil,r,st,a,w,hf,h,hr=>by
  cases r<;>simp only [SchO.fits] at hf;exact ⟨fun c=>by simp,st,h,hr⟩
 | .cons i true s,r,st,a,w,hf,h,hr=>by
  cases r<;>simp only [SchO.fits] at hf;rename_i o g r;obtain ⟨ho,hgi,hf⟩:=hf;have hgo:=cJ ho hgi;simp only [AT2] at h;obtain ⟨σ,h1,h2,h3⟩:=hr.ex;split at h<;>try (exact h.elim;done)
  ·rename_i hg;split at h<;>try (exact h.elim;done)
   rename_i d p x hdst hs;obtain ⟨hd,hp,hS⟩:=h;obtain ⟨v,k1,k2⟩:=jK h1 h2 hs hp;refine ⟨o,v,ho,.inl ⟨fJ hr hN hgo hg,k1⟩,ja hN s r _ _ _ hf hS ?_⟩;rw [hdst];exact hr.put h1 h2 h3 (Ext.refl _) k2 d hd
  rename_i hg;exact ⟨o,undef,ho,.inr ⟨fJ hr hN hgo hg,rfl⟩,ja hN s r _ _ _ hf h (hr.dead o.dst)⟩
 | .cons i false s,r,st,a,w,hf,h,hr=>by
  cases r<;>simp only [SchO.fits] at hf;rename_i o g r;obtain ⟨ho,hgi,hf⟩:=hf;have hgo:=cJ ho hgi;simp only [AT2] at h;show wpOp P ops _ i _ a w;unfold wpOp;simp only [ho];split at h<;>try (exact h.elim;done)
  ·rename_i hg;rw [if_pos (fJ hr hN hgo hg)];exact .inl (lH hr h fun st' a' w' hS hr' hF=>⟨fun hk=>hF (dU ho hk).1 (dU ho hk).2,ja hN s r _ _ _ hf hS hr'⟩)
  rename_i hg;rw [if_neg (by rw [fJ hr hN hgo hg];simp)];exact ⟨fun _=>FL.refl w,ja hN s r _ _ _ hf h (hr.dead o.dst)⟩
 | .two i j s s',r,st,a,w,hf,h,hr=>by
  cases r<;>simp only [SchO.fits] at hf;rename_i oi oj r r';obtain ⟨hi,hgi,hj,hgj,hf1,hf2⟩:=hf;have g1:Region.wanted oi (yielded ops a.tmps)=true:=fJ hr hN (cJ hi hgi) rfl;have g2:Region.wanted oj (yielded ops a.tmps)=true:=fJ hr hN (cJ hj hgj) rfl;simp only [AT2] at h;obtain ⟨s1,s2⟩:=h;refine ⟨?_,?_⟩
  ·show wpOp P ops _ i _ a w;unfold wpOp;simp only [hi];rw [if_pos g1];exact .inl (lH hr s1 fun st' a' w' hS hr' hF=>⟨fun hk=>hF (dU hi hk).1 (dU hi hk).2,ja hN s r _ _ _ hf1 hS hr'⟩)
  show wpOp P ops _ j _ a w;unfold wpOp;simp only [hj];rw [if_pos g2];exact .inl (lH hr s2 fun st' a' w' hS hr' hF=>⟨fun hk=>hF (dU hj hk).1 (dU hj hk).2,ja hN s' r' _ _ _ hf2 hS hr'⟩)
theorem lI (I:List Nat) {id:Nat} (hm:P.follows .mixedOrders=true) (s:Sch) (hB:(Region.noSelect ops&&decide (s.len=ops.size)&&eC .any ops (lG ops I) s (Array.replicate ops.size false))=true)
  {gs:List (Option (Nat×Bool))} (hg:cX ops=gs) {r:SchO} (hr:SchO.mk ops gs s=some r) (hN:decide (N<1000000)=true) (h:AT2 P N I (Q .normal) r st):Awp P e k0 N (.region id ops true) Q st:=fun a w hr'=>by
 subst hg;exact gM hm s (lG ops I) hB (fun c a d v w hq=>(hq.1 c rfl).elim) (ja (of_decide_eq_true hN) s r st a _ (SchO.mk_fits hr) h hr'.drew)
end
section
variable {P : Program} {e : En} {k0 : Kx} {N : Nat} {I : List Nat} {st : St} {Q : Exit → St → Prop} {ops : Array Oper}
end
def xr (P:Program) (N:Nat) (I:List Nat) (Q:St->Prop) (g:Option Bool) (o:Oper) (r:SchO) (st:St):Prop:=
 match g with
 |some true=>match o.dst with
  |some d=>ki (d8 P st o.op) d N (AT2 P N I Q r) st
  |none=>False
 |some false=>AT2 P N I Q r (putO st o.dst (.tup []))
 |none=>False
def yL (P:Program) (N:Nat) (I:List Nat) (Q:St->Prop) (g:Option Bool) (o:Oper) (r:SchO) (st:St):Prop:=
 match g with
 |some true=>gm P N (ib I o) st o (AT2 P N I Q r)
 |some false=>AT2 P N I Q r (putO st o.dst (.tup []))
 |none=>False
section
variable {P : Program} {N : Nat} {I : List Nat} {Q : St → Prop} {st : St} {o oi oj : Oper} {g : Option (Nat × Bool)} {r s : SchO}
theorem xu:AT2 P N I Q .nil st=Q st:=rfl
theorem vG:AT2 P N I Q (.take o g r) st=xr P N I Q (gd g st) o r st:=by
 simp only [AT2,xr];cases gd g st with
 |none=>rfl
 |some b=>
  cases b with
  |false=>rfl
  |true=>
   cases o.dst with
   |none=>rfl
   |some d=>
    simp only [ki];cases d8 P st o.op with
    |none=>rfl
    |some q=>rfl
theorem xv:AT2 P N I Q (.eff o g r) st=yL P N I Q (gd g st) o r st:=rfl
theorem yM {d:Nat} {op:Op} {t:TypeId} {ps:String} {af:Array Edge} {gg:Option (Nat×Bool)}:xr P N I Q (some true) ⟨some d,op,t,ps,af,gg⟩ r st=ki (d8 P st op) d N (AT2 P N I Q r) st:=rfl
theorem yN:xr P N I Q (some false) o r st=AT2 P N I Q r (putO st o.dst (.tup [])):=rfl
theorem yO:yL P N I Q (some true) o r st=gm P N (ib I o) st o (AT2 P N I Q r):=rfl
theorem yP:yL P N I Q (some false) o r st=AT2 P N I Q r (putO st o.dst (.tup [])):=rfl
theorem xw:AT2 P N I Q (.two oi oj r s) st=(gm P N (ib I oi) st oi (AT2 P N I Q r)/\gm P N (ib I oj) st oj (AT2 P N I Q s)):=rfl
theorem qT {d:Nat} {op:Op} {t:TypeId} {ps:String} {af:Array Edge} {gg:Option (Nat×Bool)}:ib I ⟨some d,op,t,ps,af,gg⟩=if fI I d=true then [d] else []:=rfl
theorem qU {op:Op} {t:TypeId} {ps:String} {af:Array Edge} {gg:Option (Nat×Bool)}:ib I ⟨none,op,t,ps,af,gg⟩=[]:=rfl
end
def AL3 (P:Program) (N:Nat) (I:List Nat) (Q:St->Prop):List Oper->List (Option (Nat×Bool))->St->Prop
 |o::os,g::gs,st=>match gd g st with
  |some true=>gm P N I st o (AL3 P N I Q os gs)
  |some false=>AL3 P N I Q os gs (putO st o.dst (.tup []))
  |none=>False
 |[],_,st=>Q st
 |_,_,_=>False
def yQ (P:Program) (N:Nat) (I:List Nat) (Q:St->Prop) (g:Option Bool) (o:Oper) (os:List Oper) (gs:List (Option (Nat×Bool))) (st:St):Prop:=
 match g with
 |some true=>gm P N I st o (AL3 P N I Q os gs)
 |some false=>AL3 P N I Q os gs (putO st o.dst (.tup []))
 |none=>False
section
variable {P : Program} {e : En} {k0 : Kx} {N : Nat} {I : List Nat} {st : St} {Q : Exit → St → Prop} {ops : Array Oper}
theorem GM (hN:N<1000000):∀(l:List Oper) (gs:List (Option (Nat×Bool))) (st:St) (a:Act) (w:World),(gs=l.map fun o=>match o.guard with
  |none=>none
  |some (j,want)=>some (((ops[j]?).bind (·.dst)).getD 1000000,want))->AL3 P N I (Q .normal) l gs st->Rel e k0 N st a w->wpList P ops (rz e k0 N Q) l a w
 |[],_,st,a,w,_,h,hr=>by
  simp only [AL3] at h;exact ⟨fun c=>by simp,st,h,hr⟩
 |o::os,[],_,_,_,hg,_,_=>by simp at hg
 |o::os,g::gs,st,a,w,hgs,h,hr=>by
  simp only [List.map_cons,List.cons.injEq] at hgs;simp only [AL3] at h;split at h<;>try (exact h.elim;done)
  ·rename_i hg;refine wpList_step fun K hK=>?_
   rw [if_pos (fJ hr hN hgs.1 hg)];exact lH hr h fun st' a' w' hS hr' _=>hK _ _ (GM hN os gs st' a' w' hgs.2 hS hr')
  rename_i hg;refine wpList_step fun K hK=>?_
  rw [if_neg (by rw [fJ hr hN hgs.1 hg];simp)];exact hK _ _ (GM hN os gs _ _ _ hgs.2 h (hr.dead o.dst))
theorem Gx (I:List Nat) {id:Nat} {l:List Oper} {gs:List (Option (Nat×Bool))} (hl:ops.toList=l) (hg:cX ops=gs) (hN:decide (N<1000000)=true) (h:AL3 P N I (Q .normal) l gs st):Awp P e k0 N (.region id ops false) Q st:=fun a w hr=>by
 subst hl;exact wp_region_list (GM (of_decide_eq_true hN) _ gs _ _ _ hg.symm h hr)
end
section
variable {P : Program} {N : Nat} {I : List Nat} {Q : St → Prop} {st : St} {o : Oper} {os : List Oper} {g : Option (Nat × Bool)} {gs : List (Option (Nat × Bool))}
theorem xx:AL3 P N I Q [] gs st=Q st:=by cases gs<;>rfl
theorem vH:AL3 P N I Q (o::os) (g::gs) st=yQ P N I Q (gd g st) o os gs st:=rfl
theorem yR:yQ P N I Q (some true) o os gs st=gm P N I st o (AL3 P N I Q os gs):=rfl
theorem yS:yQ P N I Q (some false) o os gs st=AL3 P N I Q os gs (putO st o.dst (.tup [])):=rfl
end
def SD:=And.intro @xx (And.intro @vH (And.intro @yR (And.intro @yS (And.intro @gm.eq_def (And.intro @r8.eq_def (And.intro @b0T.eq_def (And.intro @Array.size_empty.{0} (And.intro @xu (And.intro @vG (And.intro @xv (And.intro @yM (And.intro @yN (And.intro @yO (And.intro @yP (And.intro @xw (And.intro @qT @qU))))))))))))))))
theorem Fy {P:Program} {z:Value} {zs:List Value} (q1:z.cells.toList=zs) (n:Nat):(Builtin.zeroCells z.cells n).toList=eA n zs:=by
 have:=jH z.cells n;rw [q1] at this;simp only [madeCells] at this;simpa [Builtin.zeroCells] using this
theorem Gy {P : Program} {w : World} {base : Nat} {t tn ty E : TypeId} {sz by_ : Nat} {kn kq : IntKind} (hel : elT P t = some (E, sz, by_)) (htn : P.underlying tn = some (.int kn)) {zs : List Value} (hz : zrT P E = some zs) (hzs : zs.length = sz) (hsz : 0 < sz) {v : Value} {n : Nat} {xs : List Value} (ho : w.ownsRow base E sz v n xs)
    {m : Nat} (hm : 0 < m) (h63 : n + m ≤ maxLen) (hb : (n + m) * by_ ≤ 140737488355328) (hbase : base ≤ w.heap.size) :
    ∃ v' w', (Builtin.append_ #[t, tn] ty #[v, .int kq (m : Int)]).run P w = .ok v' w' ∧ v'.oneCell' = true ∧ w'.ownsRow base E sz v' (n + m) (xs ++ eA m zs) ∧ w.grownBy w' v.ownBlock ∧ (v'.ownBlock = v.ownBlock ∨ v'.ownBlock = some w.heap.size) := by
  obtain ⟨z, q1, q2, q3⟩ := jm hz
  obtain ⟨g1, i, g2, g3, g4⟩ := dZ hel
  have hzc := fun k => Fy (P := P) q1 k
  have hzsz : z.cells.size = sz := by rw [← hzs, ← q1]; simp
  have hzi : i.zero = some z := by
    have := q3 w
    cases hiz : i.zero with
    | none => simp [zeroValue, typeInfo, g2, hiz] at this
    | some z' => simp [zeroValue, typeInfo, g2, hiz] at this; rw [this]
  have hsm : n + m ≤ 9223372036854775807 := by simp only [maxLen] at h63; omega
  have hrl : (eA m zs).length = m * sz := by rw [dh, hzs]
  have hlen : (xs ++ eA m zs).length = (n + m) * sz := by rw [List.length_append, ho.1, hrl, Nat.add_mul]
  have hmb : m * by_ ≤ 140737488355328 := Nat.le_trans (Nat.mul_le_mul_right _ (by omega)) hb
  have grown : ∀ (old : Nat), old < n + m → ∀ (row : Option Nat),
      (w.drew.alloc (.cells (xs.toArray ++ Builtin.zeroCells z.cells m ++ Builtin.zeroCells z.cells (grownCap w (n + m) old E - (n + m))) E)).ownsRow base E sz
        (.slice (some ⟨w.heap.size, 0, none⟩) (n + m) (grownCap w (n + m) old E)) (n + m) (xs ++ eA m zs) ∧
      w.grownBy (w.drew.alloc (.cells (xs.toArray ++ Builtin.zeroCells z.cells m ++ Builtin.zeroCells z.cells (grownCap w (n + m) old E - (n + m))) E)) row := by
    intro old ho2 row
    have hge := grownCap_ge w (n + m) old E
    have hcm : grownCap w (n + m) old E ≤ maxLen := grownCap_le_maxLen w (n + m) old E h63
    refine ⟨⟨hlen, .inr ⟨w.heap.size, _, _, rfl, hbase, heap_alloc_new w.drew _, hge, hcm, ?_, ?_⟩⟩, ⟨rfl, rfl, rfl, by simp, fun k hk _ => Below.heap_alloc _ _ _ hk⟩⟩
    · simp only [Array.size_append, List.size_toArray, size_zeroCells, hzsz, ho.1, ← Nat.add_mul]
      congr 1
      omega
    simp only [Array.toList_append, hzc]
    rw [← hlen]
    exact List.take_left
  rcases ho.2 with ⟨rfl, rfl⟩ | ⟨g, cap, cur, rfl, hbg, hg, hnc, hcm, hcs, htake⟩
  · have hx : xs = [] := List.eq_nil_of_length_eq_zero (by simpa using ho.1)
    subst hx
    have hfit : Builtin.nextslicecap (0 + m) 0 * i.bytes ≤ 281474976710656 := by
      have : Builtin.nextslicecap (0 + m) 0 = m := by simp [Builtin.nextslicecap, hm]
      rw [this, g4]; omega
    have hr := Lib.run_append_grow_zeros (P := P) w t tn ty E i z kq kn g1 htn g2 hzi none 0 0 [] (by simp [Builtin.firstCells]) m hm (by rw [g3]; omega) (by omega) (by omega) (by rw [g4]; omega) hfit
    have hgr := grown 0 (by omega) (Value.ownBlock (.slice none 0 0))
    exact ⟨_, _, hr, rfl, hgr.1, hgr.2, .inr rfl⟩
  by_cases hroom : n + m ≤ cap
  · have hneg : ¬ ((m : Int) < 0) := by omega
    have hw : IntKind.i64.wrap (m : Int) = m := by rw [IntKind.wrap_i64]; omega
    have h48i : ¬ (281474976710656 < (m : Int) * (i.bytes : Int)) := by
      rw [← Int.natCast_mul, g4]; omega
    have hns : ¬ (m * sz = 0) := Nat.mul_ne_zero (by omega) (by omega)
    have hm0 : ¬ (m = 0) := by omega
    have hs0 : ¬ (sz = 0) := by omega
    have hfit : n * sz + (eA m zs).length ≤ cur.size := by rw [hrl, hcs, ← Nat.add_mul]; exact Nat.mul_le_mul_right _ hroom
    have h1 : ∀ u ∈ eA m zs, u.oneCell' = true := fun u hu => by
      simp only [eA, List.mem_flatten, List.mem_replicate] at hu
      obtain ⟨l, ⟨_, rfl⟩, h⟩ := hu
      exact List.all_eq_true.1 q2 u h
    have hst := run_storeCells_at P g (n * sz) E (eA m zs) 0 cur w hg (by simpa using hfit) h1
    simp only [Nat.add_zero] at hst
    have hrun : (Builtin.append_ #[t, tn] ty #[.slice (some ⟨g, 0, none⟩) n cap, .int kq (m : Int)]).run P w =
        .ok (.slice (some ⟨g, 0, none⟩) (n + m) cap) (w.setRow g (cur.toList.take (n * sz) ++ eA m zs ++ cur.toList.drop (n * sz + (eA m zs).length)).toArray) := by
      simp [Builtin.append_, run_underlying g1, run_underlying htn, sizeOf, typeInfo, zeroValue, g2, hzi, asInt, asIntOf, hw, hneg, hns, h48i, hroom, Addr.add_lit, g3, hzc, hst]
      try omega
    refine ⟨_, _, hrun, rfl, ⟨hlen, .inr ⟨g, cap, _, rfl, hbg, setRow_heap w g cur _ E _ hg, hroom, hcm, ?_, ?_⟩⟩, ⟨rfl, rfl, rfl, by simp, fun k _ hk => setRow_other w g k _ (fun e => hk (by simp [Value.ownBlock, e]))⟩, .inl rfl⟩
    · simp only [List.size_toArray, List.length_append, List.length_take, List.length_drop, Array.length_toList]
      omega
    rw [htake, ← hlen]
    exact List.take_left
  have holds : (Builtin.firstCells i.size n (.slice (some ⟨g, 0, none⟩) n cap)).run P w.drew = .ok xs.toArray w.drew := by
    refine run_firstCells_some (P := P) w.drew i.size n ⟨g, 0, none⟩ n cap xs (by rw [g3]; exact ho.1) fun j u hu => ?_
    exact ho.cells (g := g) rfl j u hu
  have hr := Lib.run_append_grow_zeros (P := P) w t tn ty E i z kq kn g1 htn g2 hzi (some ⟨g, 0, none⟩) n cap xs holds m hm (by rw [g3]; omega) (by omega) (by omega) (by rw [g4]; omega) (growslice_fits (by omega) (by rw [g4]; exact hb))
  have hgr := grown cap (by omega) (Value.ownBlock (.slice (some ⟨g, 0, none⟩) n cap))
  exact ⟨_, _, hr, rfl, hgr.1, hgr.2, .inr rfl⟩
def GU (P : Program) (st : St) (d : Nat) (s x : Operand) (t t' : TypeId) : Option (Prop × St) := match ev st s, ev st x, elT P t, P.underlying t' with
  | .val (.one (.own nm s' n sz'')), .val (.one (.lit (.int _ m))), some (E, sz, by_), some (.int _) => match st.H nm, zrT P E with
    | some B, some zs => some (0 < m ∧ B.st = s' ∧ sz'' = sz ∧ B.E = E ∧ zs.length = sz ∧ 0 < sz ∧ ((n + m.toNat) * by_ ≤ 140737488355328 ∧ n + m.toNat ≤ 4611686018427387904),
        ⟨up st.tm d (.val (.one (.own (st.nb + d) st.nx (n + m.toNat) sz))), up (up st.H nm none) (st.nb + d) (some ⟨st.nx, E, sz, n + m.toNat, B.cs ++ eA m.toNat (zs.map .lit)⟩), st.nx + 1, st.nb⟩)
    | _, _ => none
  | _, _, _, _ => none
def z2T:Op->Option (Operand×Operand×TypeId×TypeId)
 | .call {callee:= .builtin .append,args,argTypes}=>match args.toList,argTypes.toList with
  |[s,x],[t,t']=>match x with
   | .const (.int _ _)=>some (s,x,t,t')
   |_=>none
  |_,_=>none
 |_=>none
def FU (P:Program) (N:Nat) (I:List Nat) (st:St) (o:Oper) (K:St->Prop):Prop:=match z2T o.op,o.dst with
 |some (s,x,t,t'),some d=>gP (GU P st d s x t t') d N K
 |_,_=>gm P N I st o K
section
variable {P : Program} {e : En} {k0 : Kx} {N : Nat} {I : List Nat} {st st' : St} {a : Act} {w : World} {o : Oper} {p : Prop} {d : Nat} {K : Act → World → Prop} {Q : Exit → Act → World → Prop}
theorem IX (hr:Rel e k0 N st a w) (hdst:o.dst=some d) (hdN:d<N) {s x:Operand} {t t':TypeId} (hop:o.op= .call {callee:= .builtin .append,args:= #[s,x],argTypes:= #[t,t']}) (h:GU P st d s x t t'=some (p,st')) (hp:p)
  (hK:∀a' w',Rel e k0 N st' a' w'->K a' w'):o.wp P a w K Q:=by
 obtain ⟨σ,h1,h2,h3⟩:=hr.ex;unfold GU at h;have hs:=bc h2 s;have hy:=bc h2 x;split at h<;>try (cases h;done)
 rename_i nm s' n sz'' kq m E sz by_ kn hes hey hel hu;rw [hes] at hs;rw [hey] at hy;split at h<;>try (cases h;done)
 rename_i B zs hB hz;simp only [Option.some.injEq,Prod.mk.injEq] at h;obtain ⟨rfl,rfl⟩:=h;obtain ⟨hm0,hst,rfl,hBE,hzs,hsz,hb,hl⟩:=hp;obtain ⟨m,rfl⟩:∃k:Nat,m=(k:Int):=⟨m.toNat,by omega⟩;simp only [Int.toNat_natCast] at hb hl hK;simp only [aG,bb,den] at hs hy;obtain ⟨f1,f2,f3⟩:=hs.2.2 B hB hst;have f1':a.eval s=σ nm:=f1;obtain ⟨z,q1,q2,q3⟩:=jm hz;obtain ⟨g1,g2,xs,g3,g4⟩:=h1.rowOf hB (.inl (by omega));have g3':w.ownsRow e.w0.heap.size E sz'' (σ nm) n xs:=by rw [←hBE,←f2,←f3];exact g3
 have hml:maxLen=4611686018427387904∨4611686018427387904<=maxLen:=by unfold maxLen;omega
 obtain ⟨v',w',r1,r2,r3,r4,r5⟩:=Gy (kq:=kq) (ty:=o.type) hel hu hz hzs hsz g3' (m:=m) (by omega) (by omega) hb h1.size;obtain ⟨k1,k2⟩:=RW.new (nm0:=nm) (d:=st.nb+d) h1 r4 (B':=⟨st.nx,E,sz'',n+m,B.cs++eA m (zs.map .lit)⟩) rfl (by show sz''≠0;omega) (by simp only [List.length_append,dh,List.length_map];rw [g2,f2,f3,hzs,Nat.add_mul]) (fun r hr=>⟨iV hr,B,hB⟩) (fun r hr=>by
  rw [kp r3] at hr;rcases r5 with h5|h5
  ·exact .inr ⟨iV (h5▸hr),B,hB⟩
  rw [h5] at hr;cases hr;exact .inl (Nat.le_refl _)) r3 (g4.append (gw (dN _ _ q2) _))
 refine fv (v:=v') (w':=w') ?_ ?_
 ·have r1':=r1;simp only [execOp,hop,resolve,Sem.run_bind,Sem.run_pure,Result.andThen_ok,invoke,builtin,List.map_toArray,List.map_cons,List.map_nil,f1',hy.1];rw [r1'];rfl
 rw [hdst];refine hK _ _ (hr.put k1 h2 h3 k2 ?_ d hdN);exact cb (st.nb+d) σ w' r2
theorem Gz {S:St->Prop} (hr:Rel e k0 N st a w) (h:FU P N I st o S) (hK:∀st' a' w',S st'->Rel e k0 N st' a' w'->K a' w'):o.wp P a w K Q:=by
 unfold FU at h;split at h
 ·rename_i s x t t' d hb hdst;have hop:o.op= .call {callee:= .builtin .append,args:= #[s,x],argTypes:= #[t,t']}:=by
   unfold z2T at hb;split at hb<;>try (cases hb;done)
   rename_i args argTypes hop;split at hb<;>try (cases hb;done)
   rename_i s' x' t1 t2 ha hty;split at hb<;>try (cases hb;done)
   simp only [Option.some.injEq,Prod.mk.injEq] at hb;obtain ⟨rfl,rfl,rfl,rfl⟩:=hb;rw [hop,show args= #[s',_] from Array.toList_inj.1 ha,show argTypes= #[t1,t2] from Array.toList_inj.1 hty]
  unfold gP at h;split at h<;>try (exact h.elim;done)
  rename_i p st' he;obtain ⟨hd,hp,hS⟩:=h;exact IX (st':=st') hr hdst hd hop he hp fun a' w' h1=>hK _ a' w' hS h1
 exact lH hr h fun st' a' w' h1 h2 _=>hK st' a' w' h1 h2
end
def AL4 (P:Program) (N:Nat) (I:List Nat) (Q:St->Prop):List Oper->List (Option (Nat×Bool))->St->Prop
 |o::os,g::gs,st=>match gd g st with
  |some true=>FU P N I st o (AL4 P N I Q os gs)
  |some false=>AL4 P N I Q os gs (putO st o.dst (.tup []))
  |none=>False
 |[],_,st=>Q st
 |_,_,_=>False
def IJ (P:Program) (N:Nat) (I:List Nat) (Q:St->Prop) (g:Option Bool) (o:Oper) (os:List Oper) (gs:List (Option (Nat×Bool))) (st:St):Prop:=
 match g with
 |some true=>FU P N I st o (AL4 P N I Q os gs)
 |some false=>AL4 P N I Q os gs (putO st o.dst (.tup []))
 |none=>False
section
variable {P : Program} {e : En} {k0 : Kx} {N : Nat} {I : List Nat} {st : St} {Q : Exit → St → Prop} {ops : Array Oper}
end
section
variable {P : Program} {N : Nat} {I : List Nat} {Q : St → Prop} {st : St} {o : Oper} {os : List Oper} {g : Option (Nat × Bool)} {gs : List (Option (Nat × Bool))}
theorem Ii:AL4 P N I Q [] gs st=Q st:=by cases gs<;>rfl
theorem Hv:AL4 P N I Q (o::os) (g::gs) st=IJ P N I Q (gd g st) o os gs st:=rfl
theorem IK:IJ P N I Q (some true) o os gs st=FU P N I st o (AL4 P N I Q os gs):=rfl
theorem IL:IJ P N I Q (some false) o os gs st=AL4 P N I Q os gs (putO st o.dst (.tup [])):=rfl
end
def SE:=And.intro @Ii (And.intro @Hv (And.intro @IK (And.intro @IL (And.intro @FU.eq_def (And.intro @GU.eq_def (And.intro @z2T.eq_def SD))))))
section
variable {P : Program} {e : En} {k0 : Kx} {N : Nat} {st : St} {a : Act} {w : World} {Q : Exit → St → Prop} {c : Code}
theorem nZ {nm nm' nm2 off s n sz:Nat} {B B2:Blk} (hB:st.H nm=some B) (hB2:st.H nm2=some B2) (hne:nm2≠nm) (hne':nm2≠nm') (hsz:B.sz≠0) (hsz2:B2.sz≠0) (hs:B.st=s) (hc:B2.cs[off]? =some (.own nm s n sz)) (hr:Rel e k0 N st a w):
  Rel e k0 N ⟨st.tm,up (up (up st.H nm none) nm' (some ⟨st.nx,B.E,B.sz,B.n,B.cs⟩)) nm2 (some {B2 with cs:=B2.cs.set off (.own nm' st.nx n sz)}),st.nx+1,st.nb⟩ a w:=by
 obtain ⟨σ,h1,h2,h3⟩:=hr.ex;obtain ⟨b1,b2,ys,b3,b4⟩:=h1.rowOf hB (.inl hsz);obtain ⟨k1,k2⟩:=RW.new (nm0:=nm) (d:=nm') (row:=none) h1 (w':=w) ⟨rfl,rfl,rfl,Nat.le_refl _,fun _ _ _=>rfl⟩ (B':=⟨st.nx,B.E,B.sz,B.n,B.cs⟩) (v':=σ nm) (xs:=ys) rfl hsz b2 (by simp) (fun r hr=> .inr ⟨hr,B,hB⟩) b3 b4;have hB':up (up st.H nm none) nm' (some ⟨st.nx,B.E,B.sz,B.n,B.cs⟩) nm2=some B2:=by rw [ck _ _ hne',ck _ _ hne];exact hB2
 obtain ⟨g1,g2,xs,g3,g4⟩:=h1.rowOf hB2 (.inl hsz2);obtain ⟨u,q1,q2⟩:=g4.get off hc;simp only [den] at q2;obtain ⟨r1,r2,r3⟩:=q2.2.2 B hB hs;have hlt:off<xs.length:=(List.getElem?_eq_some_iff.1 q1).1;have hxu:xs[off]=σ nm:=by
  have:=(List.getElem?_eq_some_iff.1 q1).2;rw [this];exact r1
 have hset:xs.set off (σ nm)=xs:=by rw [←hxu];exact List.set_getElem_self hlt
 have hone:(σ nm).oneCell'=true:=by have h:=q2.1;rw [r1] at h;exact h
 have hown:=cb (e:=e) (H:=up st.H nm none) (nx:=st.nx) (E:=B.E) (sz:=B.sz) (n:=B.n) (cs:=B.cs) nm' (v:=σ nm) σ w hone;rw [r2,r3] at hown;have hd:=(dQ k2 g4).set off (v:=σ nm) (c:= .own nm' st.nx n sz) (by have h:=hown;rw [←r2,←r3] at h ⊢;exact h);rw [hset] at hd;obtain ⟨m1,m2⟩:=k1.upd (w':=w) hB' ⟨rfl,rfl,rfl,Nat.le_refl _,fun _ _ _=>rfl⟩ (cs:=B2.cs.set off (.own nm' st.nx n sz)) hsz2 (by simpa using g2) (by rw [ck _ _ hne'];exact g3) hd;exact ⟨⟨_,m1,fun t'=>dz (k2.trans m2) (h2 t'),h3.trans (k2.trans m2)⟩,hr.df,hr.sz⟩
theorem eO (nm nm' nm2 off:Nat) {s n sz:Nat} {B B2:Blk} (hB:st.H nm=some B) (hB2:st.H nm2=some B2) (hc:B2.cs[off]? =some (.own nm s n sz)) (hne:nm2≠nm) (hne':nm2≠nm') (hsz:B.sz≠0) (hsz2:B2.sz≠0) (hs:B.st=s)
  (h:Awp P e k0 N c Q ⟨st.tm,up (up (up st.H nm none) nm' (some ⟨st.nx,B.E,B.sz,B.n,B.cs⟩)) nm2 (some {B2 with cs:=B2.cs.set off (.own nm' st.nx n sz)}),st.nx+1,st.nb⟩):Awp P e k0 N c Q st:=be (fun _ _ hr=>nZ hB hB2 hne hne' hsz hsz2 hs hc hr) h
end
def LZ:Op->Option (TypeId×Operand)
 | .binOp .eql t x (.const (.slice none 0 0)) _=>some (t,x)
 |_=>none
def Kb (P:Program) (N:Nat) (I:List Nat) (st:St) (o:Oper) (K:St->Prop):Prop:=match LZ o.op,o.dst with
 |some (t,x),some d=>match ev st x with
  | .val (.one (.sh _ n _))=>d<N/\(elT P t).isSome=true/\∀b:Bool,(b=true->n=0)->K ⟨up st.tm d (.val (.one (.lit (.bool b)))),st.H,st.nx,st.nb⟩
  |_=>False
 |_,_=>FU P N I st o K
section
variable {P : Program} {e : En} {k0 : Kx} {N : Nat} {I : List Nat} {st st' : St} {a : Act} {w : World} {o : Oper} {p : Prop} {d : Nat} {K : Act → World → Prop} {Q : Exit → Act → World → Prop}
theorem Lk {S:St->Prop} (hr:Rel e k0 N st a w) (h:Kb P N I st o S) (hK:∀st' a' w',S st'->Rel e k0 N st' a' w'->K a' w'):o.wp P a w K Q:=by
 unfold Kb at h;split at h
 ·rename_i t x d hb hdst;split at h<;>try (exact h.elim;done)
  rename_i sz n cs hx;obtain ⟨hd,hel,hS⟩:=h;obtain ⟨σ,h1,h2,h3⟩:=hr.ex;have hv:=bc h2 x;rw [hx] at hv;simp only [aG,bb,den] at hv;obtain ⟨aa,cap,hv1,hv2,hv3,hv4,_⟩:=hv;obtain ⟨⟨E,sz',by_⟩,hel'⟩:=Option.isSome_iff_exists.1 hel;have hu:=(dZ hel').1;have hop:∃ps,o.op= .binOp .eql t x (.const (.slice none 0 0)) ps:=by
   unfold LZ at hb;split at hb
   ·rename_i t' x' ps hop;simp only [Option.some.injEq,Prod.mk.injEq] at hb;obtain ⟨rfl,rfl⟩:=hb;exact ⟨ps,hop⟩
   cases hb
  obtain ⟨ps,hop⟩:=hop;have hone:(Value.bool aa.isNone).oneCell'=true:=rfl;refine fv (v:= .bool aa.isNone) (w':=w) ?_ ?_
  ·have he:=run_equal_slice_nil (P:=P) w t E aa n cap hu;simp only [execOp,hop];have e1:a.eval (.const (.slice none 0 0))= .slice none 0 0:=rfl;rw [hv1,e1,eqGuard_at_slice];simp [binOp,he]
  rw [hdst];refine hK _ _ _ (hS aa.isNone fun hn=>?_) (hr.put h1 h2 h3 (Ext.refl _) (by exact ⟨rfl,hone⟩) d hd);have:aa=none:=by simpa using hn
  have:=hv4 this;omega
 exact Gz hr h hK
end
def AL5 (P:Program) (N:Nat) (I:List Nat) (Q:St->Prop):List Oper->List (Option (Nat×Bool))->St->Prop
 |o::os,g::gs,st=>match gd g st with
  |some true=>Kb P N I st o (AL5 P N I Q os gs)
  |some false=>AL5 P N I Q os gs (putO st o.dst (.tup []))
  |none=>False
 |[],_,st=>Q st
 |_,_,_=>False
def L0 (P:Program) (N:Nat) (I:List Nat) (Q:St->Prop) (g:Option Bool) (o:Oper) (os:List Oper) (gs:List (Option (Nat×Bool))) (st:St):Prop:=
 match g with
 |some true=>Kb P N I st o (AL5 P N I Q os gs)
 |some false=>AL5 P N I Q os gs (putO st o.dst (.tup []))
 |none=>False
section
variable {P : Program} {e : En} {k0 : Kx} {N : Nat} {I : List Nat} {st : St} {Q : Exit → St → Prop} {ops : Array Oper}
theorem KG (hN:N<1000000):∀(l:List Oper) (gs:List (Option (Nat×Bool))) (st:St) (a:Act) (w:World),(gs=l.map fun o=>match o.guard with
  |none=>none
  |some (j,want)=>some (((ops[j]?).bind (·.dst)).getD 1000000,want))->AL5 P N I (Q .normal) l gs st->Rel e k0 N st a w->wpList P ops (rz e k0 N Q) l a w
 |[],_,st,a,w,_,h,hr=>by
  simp only [AL5] at h;exact ⟨fun c=>by simp,st,h,hr⟩
 |o::os,[],_,_,_,hg,_,_=>by simp at hg
 |o::os,g::gs,st,a,w,hgs,h,hr=>by
  simp only [List.map_cons,List.cons.injEq] at hgs;simp only [AL5] at h;split at h<;>try (exact h.elim;done)
  ·rename_i hg;refine wpList_step fun K hK=>?_
   rw [if_pos (fJ hr hN hgs.1 hg)];exact Lk hr h fun st' a' w' hS hr'=>hK _ _ (KG hN os gs st' a' w' hgs.2 hS hr')
  rename_i hg;refine wpList_step fun K hK=>?_
  rw [if_neg (by rw [fJ hr hN hgs.1 hg];simp)];exact hK _ _ (KG hN os gs _ _ _ hgs.2 h (hr.dead o.dst))
theorem Kr (I:List Nat) {id:Nat} {l:List Oper} {gs:List (Option (Nat×Bool))} (hl:ops.toList=l) (hg:cX ops=gs) (hN:decide (N<1000000)=true) (h:AL5 P N I (Q .normal) l gs st):Awp P e k0 N (.region id ops false) Q st:=fun a w hr=>by
 subst hl;exact wp_region_list (KG (of_decide_eq_true hN) _ gs _ _ _ hg.symm h hr)
end
section
variable {P : Program} {N : Nat} {I : List Nat} {Q : St → Prop} {st : St} {o : Oper} {os : List Oper} {g : Option (Nat × Bool)} {gs : List (Option (Nat × Bool))}
theorem LG:AL5 P N I Q [] gs st=Q st:=by cases gs<;>rfl
theorem Ll:AL5 P N I Q (o::os) (g::gs) st=L0 P N I Q (gd g st) o os gs st:=rfl
theorem L3:L0 P N I Q (some true) o os gs st=Kb P N I st o (AL5 P N I Q os gs):=rfl
theorem L4:L0 P N I Q (some false) o os gs st=AL5 P N I Q os gs (putO st o.dst (.tup [])):=rfl
end
def SF:=And.intro @LG (And.intro @Ll (And.intro @L3 (And.intro @L4 (And.intro @Kb.eq_def (And.intro @LZ.eq_def SE)))))
def orT (q:Nat) (E:TypeId) (ps:List (GEst×Nat)) (H:Hp):Hp:=fun x=>match tbl q E ps x with
 |some B=>some B
 |none=>H x
theorem KL (q:Nat) (E:TypeId) (H:Hp):orT q E [] H=H:=by
 funext x;unfold orT tbl;split<;>rename_i h
 ·split at h
  ·simp at h
  cases h
 rfl
theorem vT {q:Nat} {E:TypeId} {ps:List (GEst×Nat)} {H:Hp} {x:Nat} {B:Blk} (h:orT q E ps H x=some B):(∃i p,x=1000*(i+1)+q/\ps[i]? =some p/\B=⟨p.2,E,5,p.1.claims.length,ar aA p.1.claims⟩)∨H x=some B:=by
 unfold orT at h;split at h
 ·rename_i B' hB;obtain rfl:=Option.some.inj h;exact .inl (bD hB)
 exact .inr h
theorem yZ {q:Nat} {E:TypeId} {ps:List (GEst×Nat)} {H:Hp} {i:Nat} {p:GEst×Nat} (hq:q<1000) (h:ps[i]? =some p):orT q E ps H (1000*(i+1)+q)=some ⟨p.2,E,5,p.1.claims.length,ar aA p.1.claims⟩:=by
 unfold orT;rw [bk hq h]
theorem xF {q:Nat} {E:TypeId} {ps:List (GEst×Nat)} {H:Hp} {x:Nat} (h:x<1000):orT q E ps H x=H x:=by
 unfold orT;rw [xn h]
end Go.Proofs.YtcgpghifhehlhaaGreatDoor
