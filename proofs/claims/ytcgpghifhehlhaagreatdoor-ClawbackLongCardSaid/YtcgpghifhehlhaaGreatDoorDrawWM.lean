/- Regions that draw their order where any number of operations may come up. No program in sight. -/
import Derived.Test.YtcgpghifhehlhaaGreatDoorDrawM
import Derived.Test.YtcgpghifhehlhaaGreatDoorAbGM
set_option linter.unusedVariables false
set_option linter.unusedSimpArgs false
set_option linter.defProp false
set_option linter.unusedSectionVars false
namespace Go.Proofs.YtcgpghifhehlhaaGreatDoor
open Go Go.RowKit
inductive Sw where
 |nil:Sw
 |take:Nat->Sw->Sw
 |alt:Nat->Sw->Sw->Sw
 |none:Sw
def Sw.len:Sw->Nat
 | .nil=>0
 | .take _ r=>r.len+1
 | .alt _ r _=>r.len+1
 | .none=>0
def Sw.ids:Sw->List Nat
 | .alt i _ m=>i::m.ids
 |_=>[]
def Sw.same (n:Nat):Sw->Bool
 | .alt _ r m=>decide (r.len=n)&&m.same n
 | .none=>true
 |_=>false
section
variable {P : Program} {ops : Array Oper} {Q : Exit → Act → World → Prop} {md : Region.Mode} {F : Nat → Bool}
def gR (md:Region.Mode) (ops:Array Oper) (F:Nat->Bool):Sw->Bool->Array Bool->Bool
 | .nil,t,listed=>t&&(Region.ready md ops listed).isEmpty
 | .take i r,t,listed=>t&&(Region.ready md ops listed).contains i&&Region.free md ops listed i&&(xP ops i||x7 md ops F listed i)&&gR md ops F r true (listed.setIfInBounds i true)
 | .alt i r m,t,listed=>(!t||(decide (Region.ready md ops listed=i::m.ids)&&m.same r.len))&&gR md ops F r true (listed.setIfInBounds i true)&&gR md ops F m false listed
 | .none,t,_=> !t
def wpW (P:Program) (ops:Array Oper) (Q:Exit->Act->World->Prop) (F:Nat->Bool):Sw->Act->World->Prop
 | .nil,a,w=>Q .normal a w
 | .take i r,a,w=>∃o v,ops[i]? =some o/\YieldsIf P ops (fun w'=>FL w w'∨reads o.op=false) o v a/\wpW P ops Q F r (a.put o.dst v) w
 | .alt i r m,a,w=>wpOp P ops Q i (fun a' w'=>(F i=true->FL w w')/\wpW P ops Q F r a' w') a w/\wpW P ops Q F m a w
 | .none,_,_=>True
theorem DP {a:Act} {w:World} {listed:Array Bool} {n:Nat}:∀{s:Sw} {j:Nat},j∈s.ids->gR md ops F s false listed=true->s.same n=true->wpW P ops Q F s a w->
  ∃r,wpOp P ops Q j (fun a' w'=>(F j=true->FL w w')/\wpW P ops Q F r a' w') a w/\gR md ops F r true (listed.setIfInBounds j true)=true/\r.len=n
 | .alt i r m,j,hj,hc,hs,hw=>by
  simp only [gR,Bool.not_false,Bool.true_or,Bool.true_and,Bool.and_eq_true] at hc;simp only [Sw.same,Bool.and_eq_true,decide_eq_true_eq] at hs;rcases List.mem_cons.1 hj with rfl|hj
  ·exact ⟨r,hw.1,hc.1,hs.1⟩
  exact DP hj hc.2 hs.2 hw.2
 | .nil,_,hj,_,_,_=>by cases hj
 | .take _ _,_,hj,_,_,_=>by cases hj
 | .none,_,hj,_,_,_=>by cases hj
theorem C8 (hs:Region.noSelect ops=true) (hQ:∀c a d v w,Q (.panic c) (Act.put a d v) w->Q (.panic c) a w):∀(n:Nat) (s:Sw) (listed:Array Bool) (a:Act) (w:World),s.len=n->Closed md ops listed->gR md ops F s true listed=true->
  wpW P ops Q F s a w->wpD P md ops Q F s.len listed a w:=by
 intro n;induction n with
 |zero=>
  intro s listed a w hn hc hB h;cases s with
  |nil=>
   simp only [gR,Bool.true_and] at hB;exact ⟨by simpa using hB,h⟩
  |take i r=>simp [Sw.len] at hn
  |alt i r m=>simp [Sw.len] at hn
  |none=>simp [gR] at hB
 |succ n ih=>
  intro s listed a w hn hc hB h;cases s with
  |nil=>simp [Sw.len] at hn
  |none=>simp [gR] at hB
  |take i r=>
   simp only [Sw.len,Nat.add_right_cancel_iff] at hn;simp only [gR,Bool.true_and,Bool.and_eq_true] at hB;obtain ⟨⟨⟨h1,h2⟩,h3⟩,h4⟩:=hB;obtain ⟨o,v,ho,hy,hr⟩:=h;have hrd:i∈Region.ready md ops listed:=by simpa using h1
   have hnext:=ih r _ _ _ hn (hc.set hrd) h4 hr;rcases Bool.or_eq_true_iff.1 h3 with h3|h3
   ·have hp:reads o.op=false:=by simpa [xP,ho] using h3
    exact p8 ho (Region.noSelect_spec hs) (fun c a w=>hQ c a o.dst v w) r.len listed a w hc (Region.free_spec ho h2) hrd (eL (fun w' _=> .inr hp) hy) hnext
   refine sF (N:=ops.size) ho (Region.noSelect_spec hs) (fun c a w=>hQ c a o.dst v w) r.len listed a w hc (Region.free_spec ho h2) (fun j oj hj hne hun=>?_) hrd (eL (fun w' hF=> .inl hF) hy) hnext;have hlt:j<ops.size:=(Array.getElem?_eq_some_iff.1 hj).1;have:=List.all_eq_true.1 h3 j (List.mem_range.2 hlt);simpa [hne,hun] using this
  |alt i r m=>
   simp only [Sw.len,Nat.add_right_cancel_iff] at hn;have hB0:=hB;simp only [gR,Bool.not_true,Bool.false_or,Bool.and_eq_true,decide_eq_true_eq] at hB;obtain ⟨⟨⟨h1,h2⟩,h3⟩,h4⟩:=hB;refine ⟨fun h0=>(by rw [h1] at h0;cases h0),fun j hj=>?_⟩;have hj':=hj;rw [h1] at hj;have hcf:gR md ops F (.alt i r m) false listed=true:=by
    simp only [gR,Bool.not_false,Bool.true_or,Bool.true_and,Bool.and_eq_true];exact ⟨h3,h4⟩
   obtain ⟨r',k1,k2,k3⟩:=DP (s:= .alt i r m) (n:=r.len) hj hcf (by simp [Sw.same,h2]) h;refine wpOp_mono (fun a' w' h'=>⟨h'.1,?_⟩) k1;rw [←k3];exact ih r' _ a' w' (k3.trans hn) (hc.set hj') k2 h'.2
theorem JB {id:Nat} {a:Act} {w:World} (hm:P.follows .mixedOrders=true) (s:Sw) (F:Nat->Bool)
  (hB:(Region.noSelect ops&&decide (s.len=ops.size)&&gR .any ops F s true (Array.replicate ops.size false))=true)
  (hQ:∀c a d v w,Q (.panic c) (Act.put a d v) w->Q (.panic c) a w) (h:wpW P ops Q F s a w.drew):(Code.region id ops true).wp P Q a w:=by
 simp only [Bool.and_eq_true,decide_eq_true_eq] at hB;obtain ⟨⟨h1,h2⟩,h3⟩:=hB;refine wp_region_any hm (kB (F:=F) _ _ _ _ ?_);rw [←h2];have:=C8 (P:=P) (md:= .any) h1 hQ s.len s (Array.replicate ops.size false) a w.drew rfl Closed.start h3 h;rw [←h2] at this;exact this
end
inductive SwO where
 |nil:SwO
 |take:Oper->Option (Nat×Bool)->SwO->SwO
 |alt:Oper->Option (Nat×Bool)->SwO->SwO->SwO
 |none:SwO
def SwO.fits (ops:Array Oper) (gs:List (Option (Nat×Bool))):SwO->Sw->Prop
 | .nil,.nil=>True
 | .take o g r,.take i s=>ops[i]? =some o/\gs[i]? =some g/\SwO.fits ops gs r s
 | .alt o g r m,.alt i s n=>ops[i]? =some o/\gs[i]? =some g/\SwO.fits ops gs r s/\SwO.fits ops gs m n
 | .none,.none=>True
 |_,_=>False
def SwO.mk (ops:Array Oper) (gs:List (Option (Nat×Bool))):Sw->Option SwO
 | .nil=>some .nil
 | .take i s=>match ops[i]?,gs[i]?,SwO.mk ops gs s with
  |some o,some g,some r=>some (.take o g r)
  |_,_,_=>Option.none
 | .alt i s n=>match ops[i]?,gs[i]?,SwO.mk ops gs s,SwO.mk ops gs n with
  |some o,some g,some r,some m=>some (.alt o g r m)
  |_,_,_,_=>Option.none
 | .none=>some .none
theorem SwO.mk_fits {ops:Array Oper} {gs:List (Option (Nat×Bool))}:∀{s:Sw} {r:SwO},SwO.mk ops gs s=some r->SwO.fits ops gs r s
 | .nil,r,h=>by
  simp only [SwO.mk,Option.some.injEq] at h;subst h;trivial
 | .none,r,h=>by
  simp only [SwO.mk,Option.some.injEq] at h;subst h;trivial
 | .take i s,r,h=>by
  simp only [SwO.mk] at h;split at h<;>try (cases h;done)
  rename_i o g r' h1 h2 h3;simp only [Option.some.injEq] at h;subst h;exact ⟨h1,h2,SwO.mk_fits h3⟩
 | .alt i s n,r,h=>by
  simp only [SwO.mk] at h;split at h<;>try (cases h;done)
  rename_i o g r' m' h1 h2 h3 h4;simp only [Option.some.injEq] at h;subst h;exact ⟨h1,h2,SwO.mk_fits h3,SwO.mk_fits h4⟩
def AW (P:Program) (N:Nat) (I:List Nat) (Q:St->Prop):SwO->St->Prop
 | .nil,st=>Q st
 | .take o g r,st=>match gd g st with
  |some true=>match o.dst,d8 P st o.op with
   |some d,some (p,x)=>d<N/\p/\AW P N I Q r ⟨up st.tm d x,st.H,st.nx,st.nb⟩
   |_,_=>False
  |some false=>AW P N I Q r (putO st o.dst (.tup []))
  |none=>False
 | .alt o g r m,st=>(match gd g st with
  |some true=>gm P N (ib I o) st o (AW P N I Q r)
  |some false=>AW P N I Q r (putO st o.dst (.tup []))
  |none=>False)/\AW P N I Q m st
 | .none,_=>True
section
variable {P : Program} {e : En} {k0 : Kx} {N : Nat} {I : List Nat} {st st' : St} {Q : Exit → St → Prop} {ops : Array Oper}
theorem Ke (hN:N<1000000):∀(s:Sw) (r:SwO) (st:St) (a:Act) (w:World),SwO.fits ops (cX ops) r s->AW P N I (Q .normal) r st->Rel e k0 N st a w->wpW P ops (rz e k0 N Q) (lG ops I) s a w
 | .nil,r,st,a,w,hf,h,hr=>by
  cases r<;>simp only [SwO.fits] at hf;exact ⟨fun c=>by simp,st,h,hr⟩
 | .none,r,st,a,w,hf,h,hr=>trivial
 | .take i s,r,st,a,w,hf,h,hr=>by
  cases r<;>simp only [SwO.fits] at hf;rename_i o g r;obtain ⟨ho,hgi,hf⟩:=hf;have hgo:=cJ ho hgi;simp only [AW] at h;obtain ⟨σ,h1,h2,h3⟩:=hr.ex;split at h<;>try (exact h.elim;done)
  ·rename_i hg;split at h<;>try (exact h.elim;done)
   rename_i d p x hdst hs;obtain ⟨hd,hp,hS⟩:=h;obtain ⟨v,k1,k2⟩:=jK h1 h2 hs hp;refine ⟨o,v,ho,.inl ⟨fJ hr hN hgo hg,k1⟩,Ke hN s r _ _ _ hf hS ?_⟩;rw [hdst];exact hr.put h1 h2 h3 (Ext.refl _) k2 d hd
  rename_i hg;exact ⟨o,undef,ho,.inr ⟨fJ hr hN hgo hg,rfl⟩,Ke hN s r _ _ _ hf h (hr.dead o.dst)⟩
 | .alt i s n,r,st,a,w,hf,h,hr=>by
  cases r<;>simp only [SwO.fits] at hf;rename_i o g r m;obtain ⟨ho,hgi,hf,hfm⟩:=hf;have hgo:=cJ ho hgi;simp only [AW] at h;obtain ⟨h,hm⟩:=h;refine ⟨?_,Ke hN n m _ _ _ hfm hm hr⟩;show wpOp P ops _ i _ a w;unfold wpOp;simp only [ho];split at h<;>try (exact h.elim;done)
  ·rename_i hg;rw [if_pos (fJ hr hN hgo hg)];exact .inl (lH hr h fun st' a' w' hS hr' hF=>⟨fun hk=>hF (dU ho hk).1 (dU ho hk).2,Ke hN s r _ _ _ hf hS hr'⟩)
  rename_i hg;rw [if_neg (by rw [fJ hr hN hgo hg];simp)];exact ⟨fun _=>FL.refl w,Ke hN s r _ _ _ hf h (hr.dead o.dst)⟩
theorem KH (I:List Nat) {id:Nat} (hm:P.follows .mixedOrders=true) (s:Sw) (hB:(Region.noSelect ops&&decide (s.len=ops.size)&&gR .any ops (lG ops I) s true (Array.replicate ops.size false))=true)
  {gs:List (Option (Nat×Bool))} (hg:cX ops=gs) {r:SwO} (hr:SwO.mk ops gs s=some r) (hN:decide (N<1000000)=true) (h:AW P N I (Q .normal) r st):Awp P e k0 N (.region id ops true) Q st:=fun a w hr'=>by
 subst hg;exact JB hm s (lG ops I) hB (fun c a d v w hq=>(hq.1 c rfl).elim) (Ke (of_decide_eq_true hN) s r st a _ (SwO.mk_fits hr) h hr'.drew)
end
def AWt (P:Program) (N:Nat) (I:List Nat) (Q:St->Prop) (g:Option Bool) (o:Oper) (r:SwO) (st:St):Prop:=
 match g with
 |some true=>match o.dst with
  |some d=>ki (d8 P st o.op) d N (AW P N I Q r) st
  |none=>False
 |some false=>AW P N I Q r (putO st o.dst (.tup []))
 |none=>False
def AWe (P:Program) (N:Nat) (I:List Nat) (Q:St->Prop) (g:Option Bool) (o:Oper) (r:SwO) (st:St):Prop:=
 match g with
 |some true=>gm P N (ib I o) st o (AW P N I Q r)
 |some false=>AW P N I Q r (putO st o.dst (.tup []))
 |none=>False
section
variable {P : Program} {N : Nat} {I : List Nat} {Q : St → Prop} {st : St} {o : Oper} {g : Option (Nat × Bool)} {r m : SwO}
theorem L5:AW P N I Q .nil st=Q st:=rfl
theorem LJ:AW P N I Q .none st=True:=rfl
theorem LK:AW P N I Q (.take o g r) st=AWt P N I Q (gd g st) o r st:=by
 simp only [AW,AWt];cases gd g st with
 |none=>rfl
 |some b=>
  cases b with
  |false=>rfl
  |true=>
   cases o.dst with
   |none=>rfl
   |some d=>
    simp only [ki];cases d8 P st o.op with
    |none=>rfl
    |some q=>rfl
theorem L6:AW P N I Q (.alt o g r m) st=(AWe P N I Q (gd g st) o r st/\AW P N I Q m st):=rfl
theorem Mp {d:Nat} {op:Op} {t:TypeId} {ps:String} {af:Array Edge} {gg:Option (Nat×Bool)}:AWt P N I Q (some true) ⟨some d,op,t,ps,af,gg⟩ r st=ki (d8 P st op) d N (AW P N I Q r) st:=rfl
theorem Mq:AWt P N I Q (some false) o r st=AW P N I Q r (putO st o.dst (.tup [])):=rfl
theorem Mr:AWe P N I Q (some true) o r st=gm P N (ib I o) st o (AW P N I Q r):=rfl
theorem Ms:AWe P N I Q (some false) o r st=AW P N I Q r (putO st o.dst (.tup [])):=rfl
end
def SW:=And.intro @L5 (And.intro @LJ (And.intro @LK (And.intro @L6 (And.intro @Mp (And.intro @Mq (And.intro @Mr (And.intro @Ms (And.intro @SwO.mk.eq_def SD))))))))
end Go.Proofs.YtcgpghifhehlhaaGreatDoor
