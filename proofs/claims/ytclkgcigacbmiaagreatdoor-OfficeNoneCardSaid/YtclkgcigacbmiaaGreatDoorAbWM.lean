/- The abstract machine: a region that draws its order where any number of operations may come up. No program in sight. -/
import Derived.Test.YtclkgcigacbmiaaGreatDoorAbZM
import Derived.Test.YtclkgcigacbmiaaGreatDoorDrawWM
set_option linter.unusedVariables false
set_option linter.unusedSimpArgs false
set_option linter.defProp false
set_option linter.unusedSectionVars false
namespace Go.Proofs.YtclkgcigacbmiaaGreatDoor
open Go Go.RowKit
inductive SwO where
 |nil:SwO
 |take:Oper->Option (Nat×Bool)->SwO->SwO
 |alt:Oper->Option (Nat×Bool)->SwO->SwO->SwO
 |none:SwO
def SwO.fits (ops:Array Oper) (gs:List (Option (Nat×Bool))):SwO->Sw->Prop
 | .nil,.nil=>True
 | .take o g r,.take i s=>ops[i]? =some o/\gs[i]? =some g/\SwO.fits ops gs r s
 | .alt o g r m,.alt i s n=>ops[i]? =some o/\gs[i]? =some g/\SwO.fits ops gs r s/\SwO.fits ops gs m n
 | .none,.none=>True
 |_,_=>False
def SwO.mk (ops:Array Oper) (gs:List (Option (Nat×Bool))):Sw->Option SwO
 | .nil=>some .nil
 | .take i s=>match ops[i]?,gs[i]?,SwO.mk ops gs s with
  |some o,some g,some r=>some (.take o g r)
  |_,_,_=>Option.none
 | .alt i s n=>match ops[i]?,gs[i]?,SwO.mk ops gs s,SwO.mk ops gs n with
  |some o,some g,some r,some m=>some (.alt o g r m)
  |_,_,_,_=>Option.none
 | .none=>some .none
theorem SwO.mk_fits {ops:Array Oper} {gs:List (Option (Nat×Bool))}:∀{s:Sw} {r:SwO},SwO.mk ops gs s=some r->SwO.fits ops gs r s
 | .nil,r,h=>by
  simp only [SwO.mk,Option.some.injEq] at h;subst h;trivial
 | .none,r,h=>by
  simp only [SwO.mk,Option.some.injEq] at h;subst h;trivial
 | .take i s,r,h=>by
  simp only [SwO.mk] at h;split at h<;>try (cases h;done)
  rename_i o g r' h1 h2 h3;simp only [Option.some.injEq] at h;subst h;exact ⟨h1,h2,SwO.mk_fits h3⟩
 | .alt i s n,r,h=>by
  simp only [SwO.mk] at h;split at h<;>try (cases h;done)
  rename_i o g r' m' h1 h2 h3 h4;simp only [Option.some.injEq] at h;subst h;exact ⟨h1,h2,SwO.mk_fits h3,SwO.mk_fits h4⟩
def AW (P:Program) (N:Nat) (I:List Nat) (Q:St->Prop):SwO->St->Prop
 | .nil,st=>Q st
 | .take o g r,st=>match gd g st with
  |some true=>match o.dst,bB P st o.op with
   |some d,some (p,x)=>d<N/\p/\AW P N I Q r ⟨up st.tm d x,st.H,st.nx,st.nb⟩
   |_,_=>False
  |some false=>AW P N I Q r (putO st o.dst (.tup []))
  |none=>False
 | .alt o g r m,st=>(match gd g st with
  |some true=>cQ P N (dz I o) st o (AW P N I Q r)
  |some false=>AW P N I Q r (putO st o.dst (.tup []))
  |none=>False)/\AW P N I Q m st
 | .none,_=>True
section
variable {P : Program} {e : En} {k0 : Kx} {N : Nat} {I : List Nat} {st st' : St} {Q : Exit → St → Prop} {ops : Array Oper}
theorem ku (hN:N<1000000):∀(s:Sw) (r:SwO) (st:St) (a:Act) (w:World),SwO.fits ops (ba ops) r s->AW P N I (Q .normal) r st->Rel e k0 N st a w->wpW P ops (ig e k0 N Q) (jH ops I) s a w
 | .nil,r,st,a,w,hf,h,hr=>by
  cases r<;>simp only [SwO.fits] at hf;exact ⟨fun c=>by simp,st,h,hr⟩
 | .none,r,st,a,w,hf,h,hr=>trivial
 | .take i s,r,st,a,w,hf,h,hr=>by
  cases r<;>simp only [SwO.fits] at hf;rename_i o g r;obtain ⟨ho,hgi,hf⟩:=hf;have hgo:=bA ho hgi;simp only [AW] at h;obtain ⟨σ,h1,h2,h3⟩:=hr.ex;split at h<;>try (exact h.elim;done)
  ·rename_i hg;split at h<;>try (exact h.elim;done)
   rename_i d p x hdst hs;obtain ⟨hd,hp,hS⟩:=h;obtain ⟨v,k1,k2⟩:=fd h1 h2 hs hp;refine ⟨o,v,ho,.inl ⟨cg hr hN hgo hg,k1⟩,ku hN s r _ _ _ hf hS ?_⟩;rw [hdst];exact hr.put h1 h2 h3 (Ext.refl _) k2 d hd
  rename_i hg;exact ⟨o,undef,ho,.inr ⟨cg hr hN hgo hg,rfl⟩,ku hN s r _ _ _ hf h (hr.dead o.dst)⟩
 | .alt i s n,r,st,a,w,hf,h,hr=>by
  cases r<;>simp only [SwO.fits] at hf;rename_i o g r m;obtain ⟨ho,hgi,hf,hfm⟩:=hf;have hgo:=bA ho hgi;simp only [AW] at h;obtain ⟨h,hm⟩:=h;refine ⟨?_,ku hN n m _ _ _ hfm hm hr⟩;show wpOp P ops _ i _ a w;unfold wpOp;simp only [ho];split at h<;>try (exact h.elim;done)
  ·rename_i hg;rw [if_pos (cg hr hN hgo hg)];exact .inl (si hr h fun st' a' w' hS hr' hF=>⟨fun hk=>hF (iA ho hk).1 (iA ho hk).2,ku hN s r _ _ _ hf hS hr'⟩)
  rename_i hg;rw [if_neg (by rw [cg hr hN hgo hg];simp)];exact ⟨fun _=>FL.refl w,ku hN s r _ _ _ hf h (hr.dead o.dst)⟩
theorem jL (I:List Nat) {id:Nat} (hm:P.follows .mixedOrders=true) (s:Sw) (hB:(Region.noSelect ops&&decide (s.len=ops.size)&&eA .any ops (jH ops I) s true (Array.replicate ops.size false))=true)
  {gs:List (Option (Nat×Bool))} (hg:ba ops=gs) {r:SwO} (hr:SwO.mk ops gs s=some r) (hN:decide (N<1000000)=true) (h:AW P N I (Q .normal) r st):Awp P e k0 N (.region id ops true) Q st:=fun a w hr'=>by
 subst hg;exact eM hm s (jH ops I) hB (fun c a d v w hq=>(hq.1 c rfl).elim) (ku (of_decide_eq_true hN) s r st a _ (SwO.mk_fits hr) h hr'.drew)
end
def AWt (P:Program) (N:Nat) (I:List Nat) (Q:St->Prop) (g:Option Bool) (o:Oper) (r:SwO) (st:St):Prop:=
 match g with
 |some true=>match o.dst with
  |some d=>fN (bB P st o.op) d N (AW P N I Q r) st
  |none=>False
 |some false=>AW P N I Q r (putO st o.dst (.tup []))
 |none=>False
def AWe (P:Program) (N:Nat) (I:List Nat) (Q:St->Prop) (g:Option Bool) (o:Oper) (r:SwO) (st:St):Prop:=
 match g with
 |some true=>cQ P N (dz I o) st o (AW P N I Q r)
 |some false=>AW P N I Q r (putO st o.dst (.tup []))
 |none=>False
section
variable {P : Program} {N : Nat} {I : List Nat} {Q : St → Prop} {st : St} {o : Oper} {g : Option (Nat × Bool)} {r m : SwO}
theorem xm:AW P N I Q .nil st=Q st:=rfl
theorem ui:AW P N I Q .none st=True:=rfl
theorem uj:AW P N I Q (.take o g r) st=AWt P N I Q (gd g st) o r st:=by
 simp only [AW,AWt];cases gd g st with
 |none=>rfl
 |some b=>
  cases b with
  |false=>rfl
  |true=>
   cases o.dst with
   |none=>rfl
   |some d=>
    simp only [fN];cases bB P st o.op with
    |none=>rfl
    |some q=>rfl
theorem xn:AW P N I Q (.alt o g r m) st=(AWe P N I Q (gd g st) o r st/\AW P N I Q m st):=rfl
theorem yT {d:Nat} {op:Op} {t:TypeId} {ps:String} {af:Array Edge} {gg:Option (Nat×Bool)}:AWt P N I Q (some true) ⟨some d,op,t,ps,af,gg⟩ r st=fN (bB P st op) d N (AW P N I Q r) st:=rfl
theorem yU:AWt P N I Q (some false) o r st=AW P N I Q r (putO st o.dst (.tup [])):=rfl
theorem yV:AWe P N I Q (some true) o r st=cQ P N (dz I o) st o (AW P N I Q r):=rfl
theorem yW:AWe P N I Q (some false) o r st=AW P N I Q r (putO st o.dst (.tup [])):=rfl
end
def SW:=And.intro @xm (And.intro @ui (And.intro @uj (And.intro @xn (And.intro @yT (And.intro @yU (And.intro @yV (And.intro @yW (And.intro @SwO.mk.eq_def SD))))))))
end Go.Proofs.YtclkgcigacbmiaaGreatDoor
