/- The abstract machine: a part of an own row, and what is cleared there. No program in sight. -/
import Derived.Test.YtcgpghifhehlhaaGreatDoorAbZM
import Derived.Test.YtcgpghifhehlhaaGreatDoorCb4M
set_option linter.unusedVariables false
set_option linter.unusedSimpArgs false
set_option linter.defProp false
set_option linter.unusedSectionVars false
namespace Go.Proofs.YtcgpghifhehlhaaGreatDoor
open Go Go.RowKit
section
variable {P : Program} {e : En} {k0 : Kx} {N : Nat} {I : List Nat} {st st' : St} {a : Act} {w : World} {o : Oper} {p : Prop} {d : Nat} {K : Act → World → Prop} {Q : Exit → Act → World → Prop}
theorem H4 {α:Type} (cs:List α) (off:Nat):spl cs off []=cs:=by simp [spl]
theorem Io (H:Hp) (nm:Nat) (B:Blk) (h:H nm=some B):up H nm (some B)=H:=by
 funext n;rw [aj];split
 ·rename_i h1;rw [h1,h]
 rfl
theorem H5 (hr:Rel e k0 N st a w) (hdst:o.dst=none) {t E:TypeId} {x:Operand} {nm s off n sz by_:Nat} {zs:List Value} {B:Blk} (hop:o.op= .call {callee:= .builtin .clear,args:= #[x],argTypes:= #[t]})
  (hx:ev st x= .val (.one (.vw nm s off n sz))) (hB:st.H nm=some B) (hs:B.st=s) (hsz:sz≠0) (hel:elT P t=some (E,sz,by_)) (hz:zrT P E=some zs) (hzs:zs.length=sz)
  (hK:∀a' w',Rel e k0 N ⟨st.tm,up st.H nm (some {B with cs:=spl B.cs (off*sz) (eA n (zs.map .lit))}),st.nx,st.nb⟩ a' w'->K a' w'):o.wp P a w K Q:=by
 obtain ⟨σ,h1,h2,h3⟩:=hr.ex;have hv:=bc h2 x;rw [hx] at hv;obtain ⟨ad,cap,xs,v1,v2,v3,v4,v5,v6,v7,v8,v9,v10,v11⟩:=r6 h1 hv rfl hB hs hsz;obtain ⟨z,q1,q2,q3⟩:=jm hz;obtain ⟨g1,j,g2,g3,_⟩:=dZ hel;have v1':a.eval x= .slice ad n cap:=v1;by_cases hn:n=0
 ·subst hn;have e1:({B with cs:=spl B.cs (off*sz) (eA 0 (zs.map .lit))}:Blk)=B:=by
   rw [tt,H4]
  refine fv (v:= .tuple #[]) (w':=w) ?_ ?_
  ·simp only [execOp,hop,resolve,Sem.run_bind,Sem.run_pure,Result.andThen_ok,invoke,builtin,List.map_toArray,List.map_cons,List.map_nil,v1'];cases ad<;>simp [Builtin.clear_,run_underlying g1]
  rw [hdst];refine hK _ _ ?_;rw [e1,Io _ _ _ hB];exact hr.skip h1 h2 h3 (Ext.refl _) _
 obtain ⟨b,w1,w2⟩:=v7.resolve_left hn;rcases v9.2 with ⟨f1,f2⟩|⟨g,cap',cur,f1,f2,f3,f4,f5,f6,f7⟩
 ·rw [f1] at w1;cases w1
 have hgb:g=b:=by rw [f1] at w1;simpa [Value.ownBlock] using w1
 subst hgb;have hxl:xs.length=B.n*B.sz:=v9.1;have hBs:B.sz=sz:=v4;have hzc:(Builtin.zeroCells z.cells n).toList=eA n zs:=by
  have:=Fy (P:=P) q1 n;first|exact this|(rw [this])|(rw [this];simp)
 have hrl:(eA n zs).length=n*sz:=by rw [dh,hzs]
 have hle:off*sz+n*sz<=B.n*sz:=by rw [←Nat.add_mul];exact Nat.mul_le_mul_right _ v5
 have hcs:cur.size=cap'*B.sz:=f6;have hcc:B.n*B.sz<=cap'*B.sz:=Nat.mul_le_mul_right _ f4;have hone:∀v∈eA n zs,v.oneCell'=true:=by
  have hd:=gw (dN (kx e st.H st.nx σ w) zs q2) n;exact hd.one
 have hcur:off*sz+0+(eA n zs).length<=cur.size:=by rw [hrl,hcs];rw [hBs] at hcc ⊢;omega
 have hrun:=run_storeCells_at (P:=P) g (off*sz) B.E (eA n zs) 0 cur w f3 hcur hone;have hd:=gw (dN (kx e st.H st.nx σ w) zs q2) n;have hBl:B.cs.length=B.n*B.sz:=v8;obtain ⟨k1,k2⟩:=h1.upd (w':=w.setRow g (cur.toList.take (off*sz+0)++eA n zs++cur.toList.drop (off*sz+0+(eA n zs).length)).toArray) hB (by rw [w1];exact kG w g _)
  (xs:=spl xs (off*sz) (eA n zs)) (cs:=spl B.cs (off*sz) (eA n (zs.map .lit))) (by rw [hBs];exact hsz) (by rw [iW _ _ _ (by rw [dh,List.length_map,hzs,hBl,hBs];exact hle)];exact hBl) (by
   refine ⟨by rw [iW _ _ _ (by rw [hrl,hxl,hBs];exact hle)];exact hxl,.inr ⟨g,cap',_,f1,f2,setRow_heap w g cur _ B.E (0,0) f3,f4,f5,by simp only [List.size_toArray,List.length_append,List.length_take,List.length_drop,Array.length_toList];omega,?_⟩⟩;have hlx:off*sz+(eA n zs).length<=B.n*B.sz:=by rw [hrl,hBs];exact hle
   rw [←f7];apply List.ext_getElem?;intro j;simp only [spl,Nat.add_zero,List.toList_toArray];rw [List.getElem?_take];split
   ·rename_i hj;simp only [List.append_assoc];rcases Nat.lt_or_ge j (off*sz) with h5|h5
    ·rw [List.getElem?_append_left (by simp;omega),List.getElem?_append_left (by simp;omega),List.getElem?_take,List.getElem?_take,List.getElem?_take];simp [h5,hj]
    have e1:(List.take (off*sz) cur.toList).length=off*sz:=by simp;omega
    have e2:(List.take (off*sz) (List.take (B.n*B.sz) cur.toList)).length=off*sz:=by simp;omega
    rw [List.getElem?_append_right (l₁:=List.take (off*sz) cur.toList) (by omega),List.getElem?_append_right (l₁:=List.take (off*sz) (List.take (B.n*B.sz) cur.toList)) (by omega),e1,e2];rcases Nat.lt_or_ge (j-off*sz) (eA n zs).length with h6|h6
    ·rw [List.getElem?_append_left h6,List.getElem?_append_left h6]
    rw [List.getElem?_append_right h6,List.getElem?_append_right h6,List.getElem?_drop,List.getElem?_drop,List.getElem?_take,if_pos (by omega)]
   rename_i hj;rw [List.getElem?_eq_none];have:=iW (List.take (B.n*B.sz) cur.toList) (off*sz) (eA n zs) (by simp;omega);simp only [spl] at this;rw [this];simp;omega) (mo v10 hd (off*sz))
 refine fv (v:= .tuple #[]) (w':=w.setRow g (cur.toList.take (off*sz+0)++eA n zs++cur.toList.drop (off*sz+0+(eA n zs).length)).toArray) ?_ ?_
 ·obtain ⟨m,rfl⟩:∃m,n=m+1:=⟨n-1,by omega⟩;simp only [execOp,hop,resolve,Sem.run_bind,Sem.run_pure,Result.andThen_ok,invoke,builtin,List.map_toArray,List.map_cons,List.map_nil,v1',w2];simp [Builtin.clear_,run_underlying g1,q3,hzc,hrun]
 rw [hdst];exact hK _ _ (hr.skip k1 h2 h3 k2 _)
end
def IR:Op->Option (TypeId×Operand)
 | .call {callee:= .builtin .clear,args,argTypes}=>match args.toList,argTypes.toList with
  |[x],[t]=>some (t,x)
  |_,_=>none
 |_=>none
def slT:Op->Option (TypeId×Operand×Option Operand×Option Operand)
 | .slice t x lo hi none=>some (t,x,lo,hi)
 |_=>none
def Gi (P:Program) (N:Nat) (I:List Nat) (st:St) (o:Oper) (K:St->Prop):Prop:=match IR o.op,o.dst with
 |some (t,x),none=>match ev st x,elT P t with
  | .val (.one (.vw nm s off n sz)),some (E,sz',_)=>match st.H nm,zrT P E with
   |some B,some zs=>B.st=s/\sz≠0/\sz'=sz/\zs.length=sz/\K ⟨st.tm,up st.H nm (some {B with cs:=spl B.cs (off*sz) (eA n (zs.map .lit))}),st.nx,st.nb⟩
   |_,_=>False
  |_,_=>False
 |_,_=>match slT o.op,o.dst with
  |some (t,x,lo,hi),some d=>match ev st x with
   | .val (.one (.own nm s n sz))=>match elT P t,bnd st lo 0,bnd st hi n,st.H nm with
    |some (_,sz',_),some (p1,l),some (p2,h),some B=>d<N/\sz=sz'/\sz≠0/\p1/\p2/\l<=h/\h<=n/\B.st=s/\K ⟨up st.tm d (.val (.one (.vw nm s l (h-l) sz))),st.H,st.nx,st.nb⟩
    |_,_,_,_=>False
   |_=>FU P N I st o K
  |_,_=>FU P N I st o K
theorem GD {st:St} {x:Option Operand} {d n:Nat} {p:Prop} (h:bnd st x d=some (p,n)) (hp:p):l6 st x=true:=by
 unfold bnd at h;unfold l6;split at h<;>try (cases h;done)
 ·rfl
 split at h<;>try (cases h;done)
 rename_i hx;simp only [Option.some.injEq,Prod.mk.injEq] at h;obtain ⟨rfl,rfl⟩:=h;simp [hx,hp]
section
variable {P : Program} {e : En} {k0 : Kx} {N : Nat} {I : List Nat} {st st' : St} {a : Act} {w : World} {o : Oper} {p : Prop} {d : Nat} {K : Act → World → Prop} {Q : Exit → Act → World → Prop}
theorem H6 {S:St->Prop} (hr:Rel e k0 N st a w) (h:Gi P N I st o S) (hK:∀st' a' w',S st'->Rel e k0 N st' a' w'->K a' w'):o.wp P a w K Q:=by
 unfold Gi at h;split at h
 ·rename_i t x hb hdst;have hop:o.op= .call {callee:= .builtin .clear,args:= #[x],argTypes:= #[t]}:=by
   unfold IR at hb;split at hb<;>try (cases hb;done)
   rename_i args argTypes hop;split at hb<;>try (cases hb;done)
   rename_i x' t' ha hty;simp only [Option.some.injEq,Prod.mk.injEq] at hb;obtain ⟨rfl,rfl⟩:=hb;rw [hop,show args= #[x'] from Array.toList_inj.1 ha,show argTypes= #[t'] from Array.toList_inj.1 hty]
  split at h<;>try (exact h.elim;done)
  rename_i nm s off n sz E sz' by_ hx hel;split at h<;>try (exact h.elim;done)
  rename_i B zs hB hz;obtain ⟨h1,h2,rfl,h4,h5⟩:=h;exact H5 hr hdst hop hx hB h1 h2 hel hz h4 fun a' w' hq=>hK _ a' w' h5 hq
 split at h
 ·rename_i t x lo hi d hb hdst;split at h
  ·rename_i nm s n sz hx;split at h<;>try (exact h.elim;done)
   rename_i E sz' by_ p1 l p2 hh B hel hb1 hb2 hB;obtain ⟨hd,rfl,hsz,hp1,hp2,hlh,hhn,hst,hS⟩:=h;have hop:o.op= .slice t x lo hi none:=by
    unfold slT at hb;split at hb<;>try (cases hb;done)
    rename_i hop;simp only [Option.some.injEq,Prod.mk.injEq] at hb;obtain ⟨rfl,rfl,rfl,rfl⟩:=hb;exact hop
   obtain ⟨σ,h1,h2,h3⟩:=hr.ex;have hY:BP P st o.op=some (.val (.one (.vw nm s (0+l) (hh-l) sz))):=by
    rw [hop];simp only [BP,hx,AX,hel,hb1,hb2];rw [if_pos];simp [hsz,GD hb1 hp1,GD hb2 hp2,hlh,hhn,AH,hB,hst,Bt]
   rw [Nat.zero_add] at hY;obtain ⟨v,k1,k2⟩:=CD h1 h2 hY;refine fv (v:=v) (w':=w) (k1 w (.inl (FL.refl w))) ?_;rw [hdst];exact hK _ _ _ hS (hr.put h1 h2 h3 (Ext.refl _) k2 d hd)
  exact Gz hr h hK
 exact Gz hr h hK
end
def FY (P:Program) (N:Nat) (I:List Nat) (Q:St->Prop):List Oper->List (Option (Nat×Bool))->St->Prop
 |o::os,g::gs,st=>match gd g st with
  |some true=>Gi P N I st o (FY P N I Q os gs)
  |some false=>FY P N I Q os gs (putO st o.dst (.tup []))
  |none=>False
 |[],_,st=>Q st
 |_,_,_=>False
def H7 (P:Program) (N:Nat) (I:List Nat) (Q:St->Prop) (g:Option Bool) (o:Oper) (os:List Oper) (gs:List (Option (Nat×Bool))) (st:St):Prop:=
 match g with
 |some true=>Gi P N I st o (FY P N I Q os gs)
 |some false=>FY P N I Q os gs (putO st o.dst (.tup []))
 |none=>False
section
variable {P : Program} {e : En} {k0 : Kx} {N : Nat} {I : List Nat} {st : St} {Q : Exit → St → Prop} {ops : Array Oper}
theorem Gs (hN:N<1000000):∀(l:List Oper) (gs:List (Option (Nat×Bool))) (st:St) (a:Act) (w:World),(gs=l.map fun o=>match o.guard with
  |none=>none
  |some (j,want)=>some (((ops[j]?).bind (·.dst)).getD 1000000,want))->FY P N I (Q .normal) l gs st->Rel e k0 N st a w->wpList P ops (rz e k0 N Q) l a w
 |[],_,st,a,w,_,h,hr=>by
  simp only [FY] at h;exact ⟨fun c=>by simp,st,h,hr⟩
 |o::os,[],_,_,_,hg,_,_=>by simp at hg
 |o::os,g::gs,st,a,w,hgs,h,hr=>by
  simp only [List.map_cons,List.cons.injEq] at hgs;simp only [FY] at h;split at h<;>try (exact h.elim;done)
  ·rename_i hg;refine wpList_step fun K hK=>?_
   rw [if_pos (fJ hr hN hgs.1 hg)];exact H6 hr h fun st' a' w' hS hr'=>hK _ _ (Gs hN os gs st' a' w' hgs.2 hS hr')
  rename_i hg;refine wpList_step fun K hK=>?_
  rw [if_neg (by rw [fJ hr hN hgs.1 hg];simp)];exact hK _ _ (Gs hN os gs _ _ _ hgs.2 h (hr.dead o.dst))
theorem GE (I:List Nat) {id:Nat} {l:List Oper} {gs:List (Option (Nat×Bool))} (hl:ops.toList=l) (hg:cX ops=gs) (hN:decide (N<1000000)=true) (h:FY P N I (Q .normal) l gs st):Awp P e k0 N (.region id ops false) Q st:=fun a w hr=>by
 subst hl;exact wp_region_list (Gs (of_decide_eq_true hN) _ gs _ _ _ hg.symm h hr)
end
section
variable {P : Program} {N : Nat} {I : List Nat} {Q : St → Prop} {st : St} {o : Oper} {os : List Oper} {g : Option (Nat × Bool)} {gs : List (Option (Nat × Bool))}
theorem H8:FY P N I Q [] gs st=Q st:=by cases gs<;>rfl
theorem Hf:FY P N I Q (o::os) (g::gs) st=H7 P N I Q (gd g st) o os gs st:=rfl
theorem Ip:H7 P N I Q (some true) o os gs st=Gi P N I st o (FY P N I Q os gs):=rfl
theorem Iq:H7 P N I Q (some false) o os gs st=FY P N I Q os gs (putO st o.dst (.tup [])):=rfl
end
def SKc:=And.intro @H8 (And.intro @Hf (And.intro @Ip (And.intro @Iq (And.intro @Gi.eq_def (And.intro @IR.eq_def (And.intro @slT.eq_def SE))))))
end Go.Proofs.YtcgpghifhehlhaaGreatDoor
