/- The abstract machine: a call that only reads what the caller owns; estates with agreements whose claims are rows of the call's own. No program in sight. -/
import Derived.Test.YtcgpghifhehlhaaGreatDoorGu1M
import Derived.Test.YtcgpghifhehlhaaGreatDoorAbTM
set_option linter.unusedVariables false
set_option linter.unusedSimpArgs false
set_option linter.defProp false
set_option linter.unusedSectionVars false
namespace Go.Proofs.YtcgpghifhehlhaaGreatDoor
open Go Go.RowKit
section
variable {P : Program} {e : En} {H : Hp} {nx : Nat} {σ : Nat → Value} {w : World}
theorem fX {f:FuncId} {args args':List A1} {res:AV} {H:Hp} {nx:Nat} (h:ch P f args res) (hf:bu j9 res=true)
  (hs:∀(e:En) (σ:Nat->Value) (w:World) (vs:List Value),RW e H nx σ w->cz (kx e H nx σ w) vs args'->cz (eP w) vs args):
  dk P f args' H nx (fun r H' nx'=>r=res/\H'=H/\nx'=nx):=by
 refine ⟨h.1,fun e σ w vs hW hv=>?_⟩;refine (h.2 w (fun b=>b<w.heap.size) vs (fun _ h=>h) (hs e σ w vs hW hv)).mono fun ex w' ⟨v,he,hb,hd⟩=>?_
 obtain ⟨q1,q2⟩:=hW.keep (iK hb);exact ⟨v,res,H,nx,σ,he,q1,q2,mt hf hd,rfl,rfl,rfl⟩
theorem vF (hW:RW e H nx σ w) {v:Value} {nm s n sz:Nat} {B:Blk} (hB:H nm=some B) (hsz:B.sz≠0) (hs:B.st=s) (hd:den (kx e H nx σ w) v (.own nm s n sz)) {cs':List C}
  (hc:∀xs,denVs (kx e H nx σ w) xs B.cs->denVs (eP w) xs cs'):den (eP w) v (.sh sz n cs'):=by
 obtain ⟨h1,h2,xs,h3,h4⟩:=hW.rowOf hB (.inl hsz);have hc':=hc xs h4;have hlen:cs'.length=B.n*B.sz:=by rw [←hc'.length,h4.length];exact h2
 simp only [den] at hd ⊢;obtain ⟨e1,e2,e3⟩:=hd.2.2 B hB hs;subst e2;subst e3;have e1':v=σ nm:=e1;rw [e1'];rcases h3.2 with ⟨hn,h5⟩|⟨g,cap,cur,hn,hb,hg,hc,hm,hs,ht⟩
 ·refine ⟨none,0,?_,by omega,by unfold maxLen;omega,fun _=>rfl,hlen,.inl h5⟩;rw [h5];exact hn
 refine ⟨some ⟨g,0,none⟩,cap,hn,hc,hm,by simp,hlen,.inr ⟨g,0,rfl,?_,?_⟩⟩
 ·exact kO (hW.lt hB (by rw [hn];rfl)).2
 refine denM.of_vals hc' fun j u hu=>?_
 have hadd:(⟨g,0,none⟩:Addr).add j=⟨g,0+j,none⟩:=by unfold Addr.add;split<;>simp_all
 have:=h3.cells (g:=g) (by rw [hn];rfl) j u hu;rw [hadd] at this;exact this
end
def eRw (f:Nat->GEst×Nat->C):List (GEst×Nat)->Nat->List C
 |[],_=>[]
 |p::l,i=>[.lit (.bool p.1.cash.neg),.lit (.string p.1.cash.num),.lit (.string p.1.cash.den),f i p,.sh 1 p.1.agrs.length (ar aU p.1.agrs)]++eRw f l (i+1)
theorem kz (f:Nat->GEst×Nat->C):∀(l:List (GEst×Nat)) (i:Nat),(eRw f l i).length=l.length*5
 |[],_=>rfl
 |p::l,i=>by simp only [eRw,List.length_append,List.length_cons,List.length_nil,kz f l];omega
theorem lF (f:Nat->GEst×Nat->C):∀(l m:List (GEst×Nat)) (i:Nat),eRw f (l++m) i=eRw f l i++eRw f m (i+l.length)
 |[],m,i=>by simp [eRw]
 |p::l,m,i=>by
  simp only [List.cons_append,eRw,lF f l m (i+1),List.length_cons,List.append_assoc];rw [Nat.add_assoc,Nat.add_comm 1]
theorem gl {f g:Nat->GEst×Nat->C}:∀(l:List (GEst×Nat)) (i:Nat),(∀j p,l[j]? =some p->f (i+j) p=g (i+j) p)->eRw f l i=eRw g l i
 |[],_,_=>rfl
 |p::l,i,h=>by
  have h0:=h 0 p rfl;have h1:=gl (f:=f) (g:=g) l (i+1) fun j p hj=>by
   have:=h (j+1) p (by simpa using hj);rwa [Nat.add_assoc,Nat.add_comm 1]
  simp only [Nat.add_zero] at h0;simp only [eRw,h0,h1]
theorem jZ (f:Nat->GEst×Nat->C) (l:List (GEst×Nat)) (j:Nat) (p:GEst×Nat) (h:l[j]? =some p):
  eRw f l 0=eRw f (l.take j) 0++([.lit (.bool p.1.cash.neg),.lit (.string p.1.cash.num),.lit (.string p.1.cash.den),f j p,.sh 1 p.1.agrs.length (ar aU p.1.agrs)]++eRw f (l.drop (j+1)) (j+1)):=by
 have hlt:j<l.length:=(List.getElem?_eq_some_iff.1 h).1;have hp:l[j]=p:=(List.getElem?_eq_some_iff.1 h).2;conv=>lhs;rw [←List.take_append_drop j l,lF]
 rw [List.drop_eq_getElem_cons hlt,hp];have:(l.take j).length=j:=by rw [List.length_take];omega
 rw [this,Nat.zero_add];rfl
theorem mR (f:Nat->GEst×Nat->C) (l:List (GEst×Nat)) (j:Nat) (h:j<l.length):(eRw f (l.take j) 0).length=j*5:=by
 rw [kz,List.length_take];congr 1;omega
theorem yK (f:Nat->GEst×Nat->C) (l:List (GEst×Nat)) (j:Nat) (p:GEst×Nat) (h:l[j]? =some p):
  (eRw f l 0).drop (j*5)=[.lit (.bool p.1.cash.neg),.lit (.string p.1.cash.num),.lit (.string p.1.cash.den),f j p,.sh 1 p.1.agrs.length (ar aU p.1.agrs)]++eRw f (l.drop (j+1)) (j+1):=by
 have hlt:j<l.length:=(List.getElem?_eq_some_iff.1 h).1;rw [jZ f l j p h,←mR f l j hlt,List.drop_left]
theorem xq (f:Nat->GEst×Nat->C) (l:List (GEst×Nat)) (j:Nat) (p:GEst×Nat) (h:l[j]? =some p):
  (eRw f l 0).drop (j*5+3)=f j p:: .sh 1 p.1.agrs.length (ar aU p.1.agrs)::eRw f (l.drop (j+1)) (j+1):=by
 rw [←List.drop_drop,yK f l j p h];rfl
theorem pz (f:Nat->GEst×Nat->C) (l:List (GEst×Nat)) (j:Nat) (p:GEst×Nat) (h:l[j]? =some p):(eRw f l 0)[j*5+3]? =some (f j p):=by
 rw [←List.head?_drop,xq f l j p h];rfl
theorem pA (f g:Nat->GEst×Nat->C) (l:List (GEst×Nat)) (j:Nat) (p p':GEst×Nat) (h:l[j]? =some p) (hc:p'.1.cash=p.1.cash) (ha:p'.1.agrs=p.1.agrs) (hg:∀i q,i≠j->l[i]? =some q->f i q=g i q):
  (eRw f l 0).set (j*5+3) (g j p')=eRw g (l.set j p') 0:=by
 have hlt:j<l.length:=(List.getElem?_eq_some_iff.1 h).1;have h':(l.set j p')[j]? =some p':=by simp [hlt]
 have e1:(l.set j p').take j=l.take j:=by rw [List.take_set];exact List.set_eq_of_length_le (by rw [List.length_take];omega)
 have e2:(l.set j p').drop (j+1)=l.drop (j+1):=by rw [List.drop_set];simp
 rw [jZ f l j p h,jZ g (l.set j p') j p' h',e1,e2,hc,ha];have t:=mR f l j hlt;rw [List.set_append_right _ _ (by omega),t];have:j*5+3-j*5=3:=by omega
 rw [this];congr 1
 ·refine gl _ _ fun i q hq=>?_
  have hi:i<j:=by
   have:=(List.getElem?_eq_some_iff.1 hq).1;rw [List.length_take] at this;omega
  rw [List.getElem?_take_of_lt hi] at hq;have:=hg i q (by omega) hq;simpa using this
 simp only [List.cons_append,List.nil_append,List.set_cons_succ,List.set_cons_zero];congr 5;refine gl _ _ fun i q hq=>?_
 rw [List.getElem?_drop] at hq;exact hg _ q (by omega) hq
section
variable {P : Program} {e : En} {k0 : Kx} {N : Nat} {tm : Nat → AV} {nb s : Nat} {Q : Exit → St → Prop} {c : Code}
theorem tH (q : Nat) (E E2 : TypeId) (hq : q < 1000) (nm2 : Nat) (m : List (Nat × Blk)) (hm : ∀ p ∈ m, p.1 < 1000) (hnm2 : nm2 < 1000) (n nx j : Nat) (ps : List (GEst × Nat)) (p : GEst × Nat) (hp : ps[j]? = some p) :
    Wk e k0 N ⟨tm, bW (ia (fun i => decide (j ≤ i)) q E ps) ((nm2, ⟨s, E2, 5, n, eRw (dw j fSh (aR q)) ps 0⟩) :: m), nx, nb⟩
      ⟨tm, bW (ia (fun i => decide (j + 1 ≤ i)) q E ps) ((nm2, ⟨s, E2, 5, n, eRw (dw (j + 1) fSh (aR q)) ps 0⟩) :: m), nx, nb⟩ := by
  intro a w hr
  have hlt : j < ps.length := (List.getElem?_eq_some_iff.1 hp).1
  have hpj : ps[j] = p := (List.getElem?_eq_some_iff.1 hp).2
  have e0 : (1000 * (j + 1) + q) / 1000 - 1 = j := by omega
  have h1 := gF (nm := 1000 * (j + 1) + q) (nm2 := nm2) (off := j * 5 + 3) (s := p.2) (n := p.1.claims.length) (sz := 5) (B := ⟨p.2, E, 5, p.1.claims.length, ar aA p.1.claims⟩) (B2 := ⟨s, E2, 5, n, eRw (dw j fSh (aR q)) ps 0⟩)
    (by show bW _ _ _ = _
        rw [bW.eq_2, ck _ _ (by omega), fq (by omega) hm]
        unfold ia
        rw [e0, if_pos (by simp)]; exact bk hq hp)
    (by show bW _ _ _ = _
        rw [bW.eq_2, bB]) (by omega) (by show (5 : Nat) ≠ 0; decide) (by show (5 : Nat) ≠ 0; decide) rfl
    (by rw [pz _ _ _ _ hp]; simp [dw, aR]) hr
  have hset : (eRw (dw j fSh (aR q)) ps 0).set (j * 5 + 3) (.sh 5 p.1.claims.length (ar aA p.1.claims)) = eRw (dw (j + 1) fSh (aR q)) ps 0 := by
    have h2 := pA (dw j fSh (aR q)) (dw (j + 1) fSh (aR q)) ps j p p hp rfl rfl (fun i x hi _ => by
      unfold dw
      by_cases h : i < j
      · rw [if_pos h, if_pos (by omega)]
      rw [if_neg h, if_neg (by omega)])
    have h3 : dw (j + 1) fSh (aR q) j p = .sh 5 p.1.claims.length (ar aA p.1.claims) := by simp [dw, fSh]
    rw [h3] at h2
    rw [h2]
    congr 1
    exact List.set_getElem_self hlt |> fun h => by rw [← hpj]; exact h
  simp only [] at h1
  rw [hset] at h1
  refine gT _ _ (fun t => .inl rfl) (fun nm B hB => ?_) h1
  show up (up _ _ _) nm2 _ nm = some B
  rw [bW.eq_2, aj] at hB
  rw [aj]
  split
  · rename_i h; rw [if_pos h] at hB; exact hB
  rename_i h
  rw [if_neg h] at hB
  rw [aj]
  split
  · rename_i h4
    subst h4
    rw [fq (by omega) hm] at hB
    unfold ia at hB
    rw [e0, if_neg (by simp)] at hB
    cases hB
  rename_i h4
  show bW _ _ _ = _
  rw [bW.eq_2, ck _ _ h]
  rw [← hB]
  refine jB ?_
  unfold ia
  cases hx : tbl q E ps nm with
  | none => split <;> split <;> rfl
  | some B' =>
    obtain ⟨i, p', rfl, h2, _⟩ := bD hx
    have e1 : (1000 * (i + 1) + q) / 1000 - 1 = i := by omega
    rw [e1]
    have hij : i ≠ j := fun e => h4 (by rw [e])
    by_cases hi : j ≤ i
    · have : j + 1 ≤ i := by omega
      simp [hi, this]
    have : ¬ j + 1 ≤ i := by omega
    simp [hi, this]
theorem bZ (q : Nat) (E E2 : TypeId) (hq : q < 1000) (nm2 : Nat) (m : List (Nat × Blk)) (hm : ∀ p ∈ m, p.1 < 1000) (hnm2 : nm2 < 1000) (n nx : Nat) (ps : List (GEst × Nat)) :
    Wk e k0 N ⟨tm, bW (tbl q E ps) ((nm2, ⟨s, E2, 5, n, eRw (aR q) ps 0⟩) :: m), nx, nb⟩ ⟨tm, bW (fun _ => none) ((nm2, ⟨s, E2, 5, n, eRw fSh ps 0⟩) :: m), nx, nb⟩ := by
  have key : ∀ j, j ≤ ps.length → Wk e k0 N ⟨tm, bW (ia (fun i => decide (0 ≤ i)) q E ps) ((nm2, ⟨s, E2, 5, n, eRw (dw 0 fSh (aR q)) ps 0⟩) :: m), nx, nb⟩
      ⟨tm, bW (ia (fun i => decide (j ≤ i)) q E ps) ((nm2, ⟨s, E2, 5, n, eRw (dw j fSh (aR q)) ps 0⟩) :: m), nx, nb⟩ := by
    intro j
    induction j with
    | zero => intro _; exact Wk.refl _
    | succ j ih =>
      intro hj
      exact Wk.trans (ih (by omega)) (tH q E E2 hq nm2 m hm hnm2 n nx j ps _ (List.getElem?_eq_getElem (by omega)))
  have h1 := key ps.length (Nat.le_refl _)
  rw [pu q E ps (fun i => decide (0 ≤ i)) (fun i _ => by simp), mQ q E ps (fun i => decide (ps.length ≤ i)) (fun i hi => by simp; omega),
    gl (f := dw 0 fSh (aR q)) (g := aR q) ps 0 (fun i p _ => by simp [dw]),
    gl (f := dw ps.length fSh (aR q)) (g := fSh) ps 0 (fun i p hi => by have := (List.getElem?_eq_some_iff.1 hi).1; simp [dw, this])] at h1
  exact h1
end
theorem bP:∀(ps:List (GEst×Nat)) (i:Nat),eRw fSh ps i=ar bh (ps.map (·.1))
 |[],_=>rfl
 |p::ps,i=>by
  rw [List.map_cons,aY,eRw,bP ps (i+1)];rfl
def ib (I:List Nat) (o:Oper):List Nat:=match o.dst with
 |some d=>if fI I d=true then [d] else []
 |none=>[]
def lG (ops:Array Oper) (I:List Nat) (i:Nat):Bool:=match ops[i]? with
 |some o=> !(fS o.op)&&(ib I o).isEmpty
 |none=>true
def r8 (P:Program) (st:St) (d:Nat) (t:TypeId):Option (Prop×St):=match elT P t with
 |some (E,sz,_)=>some (sz≠0,⟨up st.tm d (.val (.one (.own (st.nb+d) st.nx 0 sz))),up st.H (st.nb+d) (some ⟨st.nx,E,sz,0,[]⟩),st.nx+1,st.nb⟩)
 |none=>none
def b0T:Op->Option TypeId
 | .buildSlice t len parts=>if len=0/\parts.size=0 then some t else none
 |_=>none
def gm (P:Program) (N:Nat) (I:List Nat) (st:St) (o:Oper) (K:St->Prop):Prop:=match b0T o.op,o.dst with
 |some t,some d=>gP (r8 P st d t) d N K
 |_,_=>fb P N I st o K
section
variable {P : Program} {e : En} {k0 : Kx} {N : Nat} {I : List Nat} {st st' : St} {a : Act} {w : World} {o : Oper} {p : Prop} {d : Nat} {K : Act → World → Prop} {Q : Exit → Act → World → Prop}
theorem zM (hr:Rel e k0 N st a w) (hdst:o.dst=some d) (hdN:d<N) {t:TypeId} (hop:o.op= .buildSlice t 0 #[]) (h:r8 P st d t=some (p,st')) (hp:p) (hK:∀a' w',Rel e k0 N st' a' w'->FL w w'->K a' w'):o.wp P a w K Q:=by
 unfold r8 at h;split at h<;>try (cases h;done)
 rename_i E sz by_ hel;simp only [Option.some.injEq,Prod.mk.injEq] at h;obtain ⟨rfl,rfl⟩:=h;obtain ⟨g1,i,g2,g3,g4⟩:=dZ hel;refine kH (v:= .slice (some ⟨w.heap.size,0,none⟩) 0 0) (us:=[]) (cs:=[]) hr hdst hdN ?_ (fun σ _ k2=>trivial) hp (by simp) (by unfold maxLen;omega) (fun σ w'=>cb (st.nb+d) σ w' rfl) hK;simp only [execOp,hop,Instr.buildSlice,Sem.run_bind,run_underlying g1,Result.andThen_ok,sizeOf,typeInfo,run_program,g2,g3,Sem.run_pure];have hz:Array.range 0= #[]:=by apply Array.eq_empty_of_size_eq_zero;simp
 simp [Instr.fill,newRow,hz]
theorem lH {S:St->Prop} (hr:Rel e k0 N st a w) (h:gm P N I st o S) (hK:∀st' a' w',S st'->Rel e k0 N st' a' w'->(I=[]->fS o.op=false->FL w w')->K a' w'):o.wp P a w K Q:=by
 unfold gm at h;split at h
 ·rename_i t d hb hdst;have hop:o.op= .buildSlice t 0 #[]:=by
   unfold b0T at hb;split at hb<;>try (cases hb;done)
   rename_i t' len parts hop;split at hb<;>try (cases hb;done)
   rename_i h0;obtain rfl:=Option.some.inj hb;rw [hop,h0.1,Array.eq_empty_of_size_eq_zero h0.2]
  unfold gP at h;split at h<;>try (exact h.elim;done)
  rename_i p st' he;obtain ⟨hd,hp,hS⟩:=h;exact zM (st':=st') hr hdst hd hop he hp fun a' w' h1 h2=>hK _ a' w' hS h1 fun _ _=>h2
 exact gQ hr h hK
end
def AT2 (P:Program) (N:Nat) (I:List Nat) (Q:St->Prop):SchO->St->Prop
 | .nil,st=>Q st
 | .take o g r,st=>match gd g st with
  |some true=>match o.dst,d8 P st o.op with
   |some d,some (p,x)=>d<N/\p/\AT2 P N I Q r ⟨up st.tm d x,st.H,st.nx,st.nb⟩
   |_,_=>False
  |some false=>AT2 P N I Q r (putO st o.dst (.tup []))
  |none=>False
 | .eff o g r,st=>match gd g st with
  |some true=>gm P N (ib I o) st o (AT2 P N I Q r)
  |some false=>AT2 P N I Q r (putO st o.dst (.tup []))
  |none=>False
 | .two oi oj r s,st=>gm P N (ib I oi) st oi (AT2 P N I Q r)/\gm P N (ib I oj) st oj (AT2 P N I Q s)
section
variable {P : Program} {e : En} {k0 : Kx} {N : Nat} {I : List Nat} {st st' : St} {Q : Exit → St → Prop} {ops : Array Oper}
theorem dU {i:Nat} {o:Oper} (ho:ops[i]? =some o) (hk:lG ops I i=true):ib I o=[]/\fS o.op=false:=by
 simp only [lG,ho,Bool.and_eq_true,Bool.not_eq_true',List.isEmpty_iff] at hk;exact ⟨hk.2,hk.1⟩
theorem ja (hN:N<1000000):∀(s:Sch) (r:SchO) (st:St) (a:Act) (w:World),SchO.fits ops (cX ops) r s->AT2 P N I (Q .normal) r st->Rel e k0 N st a w->wpP P ops (rz e k0 N Q) (lG ops I) s a w
 | .nil,r,st,a,w,hf,h,hr=>by
  cases r<;>simp only [SchO.fits] at hf;exact ⟨fun c=>by simp,st,h,hr⟩
 | .cons i true s,r,st,a,w,hf,h,hr=>by
  cases r<;>simp only [SchO.fits] at hf;rename_i o g r;obtain ⟨ho,hgi,hf⟩:=hf;have hgo:=cJ ho hgi;simp only [AT2] at h;obtain ⟨σ,h1,h2,h3⟩:=hr.ex;split at h<;>try (exact h.elim;done)
  ·rename_i hg;split at h<;>try (exact h.elim;done)
   rename_i d p x hdst hs;obtain ⟨hd,hp,hS⟩:=h;obtain ⟨v,k1,k2⟩:=jK h1 h2 hs hp;refine ⟨o,v,ho,.inl ⟨fJ hr hN hgo hg,k1⟩,ja hN s r _ _ _ hf hS ?_⟩;rw [hdst];exact hr.put h1 h2 h3 (Ext.refl _) k2 d hd
  rename_i hg;exact ⟨o,undef,ho,.inr ⟨fJ hr hN hgo hg,rfl⟩,ja hN s r _ _ _ hf h (hr.dead o.dst)⟩
 | .cons i false s,r,st,a,w,hf,h,hr=>by
  cases r<;>simp only [SchO.fits] at hf;rename_i o g r;obtain ⟨ho,hgi,hf⟩:=hf;have hgo:=cJ ho hgi;simp only [AT2] at h;show wpOp P ops _ i _ a w;unfold wpOp;simp only [ho];split at h<;>try (exact h.elim;done)
  ·rename_i hg;rw [if_pos (fJ hr hN hgo hg)];exact .inl (lH hr h fun st' a' w' hS hr' hF=>⟨fun hk=>hF (dU ho hk).1 (dU ho hk).2,ja hN s r _ _ _ hf hS hr'⟩)
  rename_i hg;rw [if_neg (by rw [fJ hr hN hgo hg];simp)];exact ⟨fun _=>FL.refl w,ja hN s r _ _ _ hf h (hr.dead o.dst)⟩
 | .two i j s s',r,st,a,w,hf,h,hr=>by
  cases r<;>simp only [SchO.fits] at hf;rename_i oi oj r r';obtain ⟨hi,hgi,hj,hgj,hf1,hf2⟩:=hf;have g1:Region.wanted oi (yielded ops a.tmps)=true:=fJ hr hN (cJ hi hgi) rfl;have g2:Region.wanted oj (yielded ops a.tmps)=true:=fJ hr hN (cJ hj hgj) rfl;simp only [AT2] at h;obtain ⟨s1,s2⟩:=h;refine ⟨?_,?_⟩
  ·show wpOp P ops _ i _ a w;unfold wpOp;simp only [hi];rw [if_pos g1];exact .inl (lH hr s1 fun st' a' w' hS hr' hF=>⟨fun hk=>hF (dU hi hk).1 (dU hi hk).2,ja hN s r _ _ _ hf1 hS hr'⟩)
  show wpOp P ops _ j _ a w;unfold wpOp;simp only [hj];rw [if_pos g2];exact .inl (lH hr s2 fun st' a' w' hS hr' hF=>⟨fun hk=>hF (dU hj hk).1 (dU hj hk).2,ja hN s' r' _ _ _ hf2 hS hr'⟩)
theorem lI (I:List Nat) {id:Nat} (hm:P.follows .mixedOrders=true) (s:Sch) (hB:(Region.noSelect ops&&decide (s.len=ops.size)&&eC .any ops (lG ops I) s (Array.replicate ops.size false))=true)
  {gs:List (Option (Nat×Bool))} (hg:cX ops=gs) {r:SchO} (hr:SchO.mk ops gs s=some r) (hN:decide (N<1000000)=true) (h:AT2 P N I (Q .normal) r st):Awp P e k0 N (.region id ops true) Q st:=fun a w hr'=>by
 subst hg;exact gM hm s (lG ops I) hB (fun c a d v w hq=>(hq.1 c rfl).elim) (ja (of_decide_eq_true hN) s r st a _ (SchO.mk_fits hr) h hr'.drew)
end
section
variable {P : Program} {e : En} {k0 : Kx} {N : Nat} {I : List Nat} {st : St} {Q : Exit → St → Prop} {ops : Array Oper}
end
def xr (P:Program) (N:Nat) (I:List Nat) (Q:St->Prop) (g:Option Bool) (o:Oper) (r:SchO) (st:St):Prop:=
 match g with
 |some true=>match o.dst with
  |some d=>ki (d8 P st o.op) d N (AT2 P N I Q r) st
  |none=>False
 |some false=>AT2 P N I Q r (putO st o.dst (.tup []))
 |none=>False
def yL (P:Program) (N:Nat) (I:List Nat) (Q:St->Prop) (g:Option Bool) (o:Oper) (r:SchO) (st:St):Prop:=
 match g with
 |some true=>gm P N (ib I o) st o (AT2 P N I Q r)
 |some false=>AT2 P N I Q r (putO st o.dst (.tup []))
 |none=>False
section
variable {P : Program} {N : Nat} {I : List Nat} {Q : St → Prop} {st : St} {o oi oj : Oper} {g : Option (Nat × Bool)} {r s : SchO}
theorem xu:AT2 P N I Q .nil st=Q st:=rfl
theorem vG:AT2 P N I Q (.take o g r) st=xr P N I Q (gd g st) o r st:=by
 simp only [AT2,xr];cases gd g st with
 |none=>rfl
 |some b=>
  cases b with
  |false=>rfl
  |true=>
   cases o.dst with
   |none=>rfl
   |some d=>
    simp only [ki];cases d8 P st o.op with
    |none=>rfl
    |some q=>rfl
theorem xv:AT2 P N I Q (.eff o g r) st=yL P N I Q (gd g st) o r st:=rfl
theorem yM {d:Nat} {op:Op} {t:TypeId} {ps:String} {af:Array Edge} {gg:Option (Nat×Bool)}:xr P N I Q (some true) ⟨some d,op,t,ps,af,gg⟩ r st=ki (d8 P st op) d N (AT2 P N I Q r) st:=rfl
theorem yN:xr P N I Q (some false) o r st=AT2 P N I Q r (putO st o.dst (.tup [])):=rfl
theorem yO:yL P N I Q (some true) o r st=gm P N (ib I o) st o (AT2 P N I Q r):=rfl
theorem yP:yL P N I Q (some false) o r st=AT2 P N I Q r (putO st o.dst (.tup [])):=rfl
theorem xw:AT2 P N I Q (.two oi oj r s) st=(gm P N (ib I oi) st oi (AT2 P N I Q r)/\gm P N (ib I oj) st oj (AT2 P N I Q s)):=rfl
theorem qT {d:Nat} {op:Op} {t:TypeId} {ps:String} {af:Array Edge} {gg:Option (Nat×Bool)}:ib I ⟨some d,op,t,ps,af,gg⟩=if fI I d=true then [d] else []:=rfl
theorem qU {op:Op} {t:TypeId} {ps:String} {af:Array Edge} {gg:Option (Nat×Bool)}:ib I ⟨none,op,t,ps,af,gg⟩=[]:=rfl
end
def AL3 (P:Program) (N:Nat) (I:List Nat) (Q:St->Prop):List Oper->List (Option (Nat×Bool))->St->Prop
 |o::os,g::gs,st=>match gd g st with
  |some true=>gm P N I st o (AL3 P N I Q os gs)
  |some false=>AL3 P N I Q os gs (putO st o.dst (.tup []))
  |none=>False
 |[],_,st=>Q st
 |_,_,_=>False
def yQ (P:Program) (N:Nat) (I:List Nat) (Q:St->Prop) (g:Option Bool) (o:Oper) (os:List Oper) (gs:List (Option (Nat×Bool))) (st:St):Prop:=
 match g with
 |some true=>gm P N I st o (AL3 P N I Q os gs)
 |some false=>AL3 P N I Q os gs (putO st o.dst (.tup []))
 |none=>False
section
variable {P : Program} {e : En} {k0 : Kx} {N : Nat} {I : List Nat} {st : St} {Q : Exit → St → Prop} {ops : Array Oper}
end
section
variable {P : Program} {N : Nat} {I : List Nat} {Q : St → Prop} {st : St} {o : Oper} {os : List Oper} {g : Option (Nat × Bool)} {gs : List (Option (Nat × Bool))}
theorem xx:AL3 P N I Q [] gs st=Q st:=by cases gs<;>rfl
theorem vH:AL3 P N I Q (o::os) (g::gs) st=yQ P N I Q (gd g st) o os gs st:=rfl
theorem yR:yQ P N I Q (some true) o os gs st=gm P N I st o (AL3 P N I Q os gs):=rfl
theorem yS:yQ P N I Q (some false) o os gs st=AL3 P N I Q os gs (putO st o.dst (.tup [])):=rfl
end
def SD:=And.intro @xx (And.intro @vH (And.intro @yR (And.intro @yS (And.intro @gm.eq_def (And.intro @r8.eq_def (And.intro @b0T.eq_def (And.intro @Array.size_empty.{0} (And.intro @xu (And.intro @vG (And.intro @xv (And.intro @yM (And.intro @yN (And.intro @yO (And.intro @yP (And.intro @xw (And.intro @qT @qU))))))))))))))))
end Go.Proofs.YtcgpghifhehlhaaGreatDoor
