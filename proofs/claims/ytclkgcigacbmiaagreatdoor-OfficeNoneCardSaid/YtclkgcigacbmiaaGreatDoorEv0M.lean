/- A machine that reckons by itself: what stands at numbers, as tries; its states, and how they stand for the abstract machine's. No program in sight. -/
import Derived.Test.YtclkgcigacbmiaaGreatDoorAb7M
import Derived.Laws.Cover3
set_option linter.unusedVariables false
set_option linter.unusedSimpArgs false
set_option linter.unusedSectionVars false
namespace Go.Proofs.YtclkgcigacbmiaaGreatDoor
open Go Go.RowKit
inductive Tr (α:Type) where
 |leaf:Tr α
 |node (x:Option α) (l r:Tr α):Tr α
def Tr.seq {α β:Type} (t:Tr α) (k:Tr α->β):β:=match t with
 | .leaf=>k .leaf
 | .node x l r=>k (.node x l r)
theorem Tr.seq_eq {α β:Type} (t:Tr α) (k:Tr α->β):t.seq k=k t:=by cases t<;>rfl
def Tr.get {α:Type}:Tr α->Nat->Option α
 | .leaf,_=>none
 | .node x l r,n=>bif Nat.beq n 0 then x else bif Nat.beq (Nat.mod n 2) 1 then l.get (Nat.div n 2) else r.get (Nat.pred (Nat.div n 2))
def Tr.putF {α:Type} (y:Option α):Nat->Tr α->Nat->Tr α
 |0,t,_=>t
 |f+1,t,n=>match t with
  | .leaf=>bif Nat.beq n 0 then .node y .leaf .leaf else bif Nat.beq (Nat.mod n 2) 1 then (Tr.putF y f .leaf (Nat.div n 2)).seq fun l=> .node none l .leaf else (Tr.putF y f .leaf (Nat.pred (Nat.div n 2))).seq fun r=> .node none .leaf r
  | .node x l r=>bif Nat.beq n 0 then .node y l r else bif Nat.beq (Nat.mod n 2) 1 then (Tr.putF y f l (Nat.div n 2)).seq fun l'=> .node x l' r else (Tr.putF y f r (Nat.pred (Nat.div n 2))).seq fun r'=> .node x l r'
def Tr.put {α:Type} (t:Tr α) (n:Nat) (y:Option α):Tr α:=Tr.putF y (n+1) t n
theorem ws (n m:Nat):Nat.mod n m=n%m:=rfl
theorem wt (n m:Nat):Nat.div n m=n/m:=rfl
theorem qI (n:Nat):Nat.pred n=n-1:=by cases n<;>rfl
theorem kO (n m:Nat):Nat.beq n m=decide (n=m):=by
 rw [Bool.eq_iff_iff,decide_eq_true_eq,Nat.beq_eq]
theorem Tr.get_leaf {α:Type} (m:Nat):(Tr.leaf:Tr α).get m=none:=rfl
theorem Tr.get_node {α:Type} (x:Option α) (l r:Tr α) (n:Nat):(Tr.node x l r).get n=if n=0 then x else if n%2=1 then l.get (n/2) else r.get (n/2-1):=by
 simp only [Tr.get,ws,wt,qI,kO,cond_eq_ite,decide_eq_true_eq]
theorem Tr.get_putF {α:Type} (y:Option α):∀(f:Nat) (t:Tr α) (n m:Nat),n<f->(Tr.putF y f t n).get m=if m=n then y else t.get m
 |0,_,_,_,h=>by omega
 |f+1,.leaf,n,m,h=>by
  simp only [Tr.putF,ws,wt,qI,kO,cond_eq_ite,decide_eq_true_eq,Tr.seq_eq];split
  ·rename_i h0;subst h0;rw [Tr.get_node,Tr.get_leaf,Tr.get_leaf,Tr.get_leaf];simp
  split
  ·rw [Tr.get_node,Tr.get_putF y f .leaf _ _ (by omega)];simp only [Tr.get_leaf];by_cases hm:m=n
   ·subst hm;rw [if_pos rfl,if_neg (by omega),if_pos (by omega),if_pos rfl]
   rw [if_neg hm];split<;>try rfl
   split<;>try rfl
   rw [if_neg (by omega)]
  rw [Tr.get_node,Tr.get_putF y f .leaf _ _ (by omega)];simp only [Tr.get_leaf];by_cases hm:m=n
  ·subst hm;rw [if_pos rfl,if_neg (by omega),if_neg (by omega),if_pos rfl]
  rw [if_neg hm];split<;>try rfl
  split<;>try rfl
  rw [if_neg (by omega)]
 |f+1,.node x l r,n,m,h=>by
  simp only [Tr.putF,ws,wt,qI,kO,cond_eq_ite,decide_eq_true_eq,Tr.seq_eq];split
  ·rename_i h0;subst h0;rw [Tr.get_node,Tr.get_node];split<;>rfl
  split
  ·rw [Tr.get_node,Tr.get_node,Tr.get_putF y f l _ _ (by omega)];by_cases hm:m=n
   ·subst hm;rw [if_pos rfl,if_neg (by omega),if_pos (by omega),if_pos rfl]
   rw [if_neg hm];split<;>try rfl
   split<;>try rfl
   rw [if_neg (by omega)]
  rw [Tr.get_node,Tr.get_node,Tr.get_putF y f r _ _ (by omega)];by_cases hm:m=n
  ·subst hm;rw [if_pos rfl,if_neg (by omega),if_neg (by omega),if_pos rfl]
  rw [if_neg hm];split<;>try rfl
  split<;>try rfl
  rw [if_neg (by omega)]
theorem Tr.get_put {α:Type} (t:Tr α) (n:Nat) (y:Option α) (m:Nat):(t.put n y).get m=if m=n then y else t.get m:=Tr.get_putF y (n+1) t n m (by omega)
structure ES where
 tm:Tr AV
 H:Tr Blk
 nx:Nat
def ES.tmF (s:ES):Nat->AV:=fun t=>(s.tm.get t).getD .dead
def ES.hF (s:ES):Hp:=fun nm=>s.H.get nm
def ES.st (nb:Nat) (s:ES):St:=⟨s.tmF,s.hF,s.nx,nb⟩
def ES.putT (s:ES) (d:Nat) (x:AV):ES:=⟨s.tm.put d (some x),s.H,s.nx⟩
def ES.putH (s:ES) (nm:Nat) (B:Blk):ES:=⟨s.tm,s.H.put nm (some B),s.nx⟩
theorem ES.tmF_put (s:ES) (d:Nat) (x:AV):(s.putT d x).tmF=up s.tmF d x:=by
 funext t;simp only [ES.tmF,ES.putT,Tr.get_put,aj];split<;>rfl
theorem gc (H:Tr Blk) (nm:Nat) (B:Option Blk):(fun n=>(H.put nm B).get n)=up (fun n=>H.get n) nm B:=by
 funext n;simp only [Tr.get_put,aj]
theorem ES.hF_put (s:ES) (nm:Nat) (B:Blk):(s.putH nm B).hF=up s.hF nm (some B):=gc s.H nm (some B)
theorem Rel.nb {e:En} {k0:Kx} {N:Nat} {tm:Nat->AV} {H:Hp} {nx nb:Nat} {a:Act} {w:World} (hr:Rel e k0 N ⟨tm,H,nx,nb⟩ a w) (nb':Nat):Rel e k0 N ⟨tm,H,nx,nb'⟩ a w:=⟨hr.ex,hr.df,hr.sz⟩
theorem RW.later {e:En} {H:Hp} {nx nx':Nat} {σ:Nat->Value} {w:World} (h:RW e H nx σ w) (hn:nx<=nx'):RW e H nx' σ w/\Ext (kx e H nx σ w) (kx e H nx' σ w):=by
 have hext:Ext (kx e H nx σ w) (kx e H nx' σ w):=⟨hn,fun b hb=>⟨⟨hb.1,hb.2.1,hb.2.2⟩,rfl⟩,fun nm B hB=> .inr ⟨B,hB,rfl,rfl,rfl,rfl⟩⟩;exact ⟨⟨h.bel,h.hT,fun nm B hB=>⟨Nat.lt_of_lt_of_le (h.blk nm B hB).1 hn,(h.blk nm B hB).2.kept (row:=none) ⟨rfl,rfl,rfl,Nat.le_refl _,fun _ _ _=>rfl⟩ (Classical.em _) rfl rfl hext⟩,h.inj⟩,hext⟩
theorem Rel.later {e:En} {k0:Kx} {N:Nat} {tm:Nat->AV} {H:Hp} {nx nx' nb:Nat} {a:Act} {w:World} (hr:Rel e k0 N ⟨tm,H,nx,nb⟩ a w) (hn:nx<=nx'):Rel e k0 N ⟨tm,H,nx',nb⟩ a w:=by
 obtain ⟨σ,h1,h2,h3⟩:=hr.ex;obtain ⟨k1,k2⟩:=h1.later hn;exact ⟨⟨σ,k1,fun t=>dg k2 (h2 t),h3.trans k2⟩,hr.df,hr.sz⟩
def ge (st:St) (nm s:Nat):Bool:=match st.H nm with
 |some B=>Nat.beq B.st s
 |none=>false
theorem ch {st:St} {nm s:Nat} (h:ge st nm s=true):∃B,st.H nm=some B/\B.st=s:=by
 unfold ge at h;split at h
 ·rename_i B hB;exact ⟨B,hB,Nat.eq_of_beq_eq_true h⟩
 cases h
def inB (n:Int):Bool:=decide (-9223372036854775808<=n)&&decide (n<=9223372036854775807)
theorem qJ {n:Int} (h:inB n=true):inK .i64 n:=by
 have h1:IntKind.i64.min= -9223372036854775808:=by decide
 have h2:IntKind.i64.max=9223372036854775807:=by decide
 unfold inB at h;simp only [Bool.and_eq_true,decide_eq_true_eq] at h;unfold inK;rw [h1,h2];exact h
def ii:IntKind->Bool
 | .i64=>true
 |_=>false
def gN (P:Program) (st:St):Op->Bool
 | .fieldAddr _ x _=>match ev st x with
  | .val (.one (.ptr nm s' _))=>ge st nm s'
  |_=>true
 | .indexAddr t x ix=>match ev st x,ev st ix,elT P t,arT P t with
  | .val (.one (.own nm s' n sz)),.val (.one (.lit (.int _ i))),some (_,sz',_),_=>Nat.beq sz sz'&&(decide (0<=i)&&(decide (i<n)&&ge st nm s'))
  | .val (.one (.sh sz n _)),.val (.one (.lit (.int _ i))),some (_,sz',_),_=>Nat.beq sz sz'&&(decide (0<=i)&&decide (i<n))
  | .val (.one (.ptr nm s' _)),.val (.one (.lit (.int _ i))),_,some (n,_,_)=>decide (0<=i)&&(decide (i<n)&&ge st nm s')
  | .val (.one (.sp _)),.val (.one (.lit (.int _ i))),_,some (n,_,_)=>decide (0<=i)&&decide (i<n)
  |_,_,_,_=>false
 | .load t x=>match ev st x,ldT P t with
  | .val (.one (.ptr nm s' off)),some (ag,sz)=>match st.H nm with
   |some B=>Nat.beq B.st s'&&(decide (off+sz<=B.cs.length)&&(ag||Nat.beq sz 1))
   |none=>false
  | .val (.one (.sp cs)),some (ag,sz)=>decide (sz<=cs.length)&&(ag||Nat.beq sz 1)
  |_,_=>false
 | .nilCheck x=>match ev st x with
  | .val (.one (.ptr nm s' _))=>ge st nm s'
  |_=>true
 |_=>false
section
variable {P : Program} {st : St} {p : Prop} {x : AV}
theorem qK {ag:Bool} {sz:Nat} (h:(ag||Nat.beq sz 1)=true):ag=true∨sz=1:=by
 rcases Bool.or_eq_true_iff.1 h with h|h
 ·exact .inl h
 exact .inr (Nat.eq_of_beq_eq_true h)
theorem pD {op:Op} (hc:gN P st op=true) (h:cW P st op=some (p,x)):p:=by
 cases op<;>simp only [gN,cW,reduceCtorEq] at hc h;case fieldAddr s y f=>
  split at h<;>try (cases h;done)
  ·rename_i nm s' off o' ft he hf;rw [he] at hc;simp only [Option.some.injEq,Prod.mk.injEq] at h;rw [←h.1];exact ch hc
  simp only [Option.some.injEq,Prod.mk.injEq] at h;rw [←h.1];trivial
 case indexAddr t y ix=>
  split at h<;>try (cases h;done)
  all_goals
   rename_i h1 h2 h3;simp only [Option.some.injEq,Prod.mk.injEq] at h;obtain ⟨rfl,_⟩:=h
  ·rw [h1,h2,h3] at hc;simp only [Bool.and_eq_true,decide_eq_true_eq] at hc;exact ⟨Nat.eq_of_beq_eq_true hc.1,hc.2.1,hc.2.2.1,ch hc.2.2.2⟩
  ·rw [h1,h2,h3] at hc;simp only [Bool.and_eq_true,decide_eq_true_eq] at hc;exact ⟨Nat.eq_of_beq_eq_true hc.1,hc.2.1,hc.2.2⟩
  ·rw [h1,h2,h3] at hc;simp only [Bool.and_eq_true,decide_eq_true_eq] at hc;exact ⟨hc.1,hc.2.1,ch hc.2.2⟩
  rw [h1,h2,h3] at hc;simp only [Bool.and_eq_true,decide_eq_true_eq] at hc;exact hc
 case load t y=>
  split at h<;>try (cases h;done)
  ·rename_i h1 h2;rw [h1,h2] at hc;split at h<;>try (cases h;done)
   rename_i B hB;simp only [hB,Bool.and_eq_true,decide_eq_true_eq] at hc;simp only [Option.some.injEq,Prod.mk.injEq] at h;obtain ⟨rfl,_⟩:=h;exact ⟨Nat.eq_of_beq_eq_true hc.1,hc.2.1,qK hc.2.2⟩
  rename_i h1 h2;rw [h1,h2] at hc;simp only [Bool.and_eq_true,decide_eq_true_eq] at hc;simp only [Option.some.injEq,Prod.mk.injEq] at h;obtain ⟨rfl,_⟩:=h;exact ⟨hc.1,qK hc.2⟩
 case nilCheck y=>
  split at h<;>try (cases h;done)
  ·rename_i h1;rw [h1] at hc;simp only [Option.some.injEq,Prod.mk.injEq] at h;rw [←h.1];exact ch hc
  simp only [Option.some.injEq,Prod.mk.injEq] at h;rw [←h.1];trivial
end
def kP (P:Program) (t:TypeId):Bool:=match P.underlying t with
 |some .bool=>true
 |_=>false
theorem nl {P:Program} {t:TypeId} (h:kP P t=true):P.underlying t=some .bool:=by
 unfold kP at h;split at h
 ·assumption
 cases h
def eK (P:Program) (t:TypeId):Bool:=match P.underlying t with
 |some .string=>true
 |_=>false
theorem cY {P:Program} {t:TypeId} (h:eK P t=true):P.underlying t=some .string:=by
 unfold eK at h;split at h
 ·assumption
 cases h
def oB (P:Program) (op:BinOp) (t:TypeId):Value->Value->Bool
 | .int k a,.int _ b=>match op with
  | .shl=>decide (0<=b)
  | .shr=>decide (0<=b)
  | .add=> !(ii k)||inB (a+b)
  | .sub=> !(ii k)||inB (a-b)
  | .mul=> !(ii k)||inB (a*b)
  | .quo=> !(decide (b=0))
  | .rem=> !(decide (b=0))
  |_=>true
 | .bool _,.bool _=>kP P t
 |_,_=>true
section
variable {P : Program} {st : St} {p : Prop} {x : AV}
theorem oC {k:IntKind} {n:Int} {β:Type} {v v' x':β} {q:Prop} (hc:(!(ii k)||inB n)=true) (h:(if k= .i64 then some (inK k n,v) else some (True,v'))=some (q,x')):q:=by
 split at h
 ·rename_i hk;subst hk;simp only [Option.some.injEq,Prod.mk.injEq] at h;rw [←h.1];exact qJ (by simpa [ii] using hc)
 simp only [Option.some.injEq,Prod.mk.injEq] at h;rw [←h.1];trivial
theorem qL {op:BinOp} {t:TypeId} {u v r:Value} (hc:oB P op t u v=true) (h:dU P op t u v=some (p,r)):p:=by
 cases u<;>try (simp only [dU] at h;cases h;done)
 ·cases v<;>try (simp only [dU] at h;cases h;done)
  simp only [oB] at hc;cases op<;>simp only [dU] at h<;>try (cases h;done)
  all_goals
   simp only [Option.some.injEq,Prod.mk.injEq] at h;rw [←h.1];exact nl hc
 ·cases v<;>try (simp only [dU] at h;cases h;done)
  cases op<;>simp only [dU,oB,decide_eq_true_eq,Bool.not_eq_true',decide_eq_false_iff_not] at h hc;all_goals try (simp only [Option.some.injEq,Prod.mk.injEq] at h;rw [←h.1];first|exact hc|trivial)
  all_goals (split at h;· cases h)
  all_goals first
   |exact oC hc h
   |(simp only [Option.some.injEq,Prod.mk.injEq] at h;rw [←h.1];first|exact hc|trivial)
   |cases h
 cases v<;>try (simp only [dU] at h;cases h;done)
 cases op<;>simp only [dU] at h<;>try (cases h;done)
 all_goals (simp only [Option.some.injEq,Prod.mk.injEq] at h;rw [←h.1];trivial)
end
def fw (st:St):Option Operand->Bool
 |none=>true
 |some x=>match ev st x with
  | .val (.one (.lit (.int _ i)))=>decide (0<=i)
  |_=>false
theorem cF {st:St} {x:Option Operand} {d n:Nat} {p:Prop} (hc:fw st x=true) (h:bnd st x d=some (p,n)):p:=by
 unfold bnd at h;split at h
 ·simp only [Option.some.injEq,Prod.mk.injEq] at h;rw [←h.1];trivial
 rename_i y;simp only [fw] at hc;split at h<;>try (cases h;done)
 rename_i he;rw [he] at hc;simp only [Option.some.injEq,Prod.mk.injEq] at h;rw [←h.1];exact of_decide_eq_true hc
def gO (place:Nat->Option (Nat×Nat)):List C->List (Nat×AV)->Bool
 |_,[]=>true
 |cs,(i,x)::rest=>match place i,cellsOf x with
  |some (off,size),some ds=>Nat.beq ds.length size&&(decide (off+size<=cs.length)&&gO place (spl cs off ds) rest)
  |_,_=>false
theorem fe {place:Nat->Option (Nat×Nat)}:∀{parts:List (Nat×AV)} {cs r:List C} {p:Prop},gO place cs parts=true->cE place cs parts=some (p,r)->p
 |[],cs,r,p,_,h=>by
  simp only [cE,Option.some.injEq,Prod.mk.injEq] at h;rw [←h.1];trivial
 |(i,x)::rest,cs,r,p,hc,h=>by
  simp only [cE] at h;simp only [gO] at hc;split at h<;>try (cases h;done)
  rename_i off size ds h1 h2;rw [h1,h2] at hc;simp only [Bool.and_eq_true,decide_eq_true_eq] at hc;split at h<;>try (cases h;done)
  rename_i q r' h3;simp only [Option.some.injEq,Prod.mk.injEq] at h;rw [←h.1];exact ⟨⟨Nat.eq_of_beq_eq_true hc.1,hc.2.1⟩,fe hc.2.2 h3⟩
def oD (P:Program) (eqT:TypeId->List Value->List Value->Bool) (st:St):Op->Bool
 | .move _=>true
 | .assign _=>true
 | .pick .. =>true
 | .field xt x f=>match ev st x,foT P xt f with
  | .val (.agg cs),some (o,ft)=>match ldT P ft with
   |some (ag,sz)=>decide (o+sz<=cs.length)&&(ag||Nat.beq sz 1)
   |none=>false
  |_,_=>false
 | .extract .. =>true
 | .binOp op t x y _=>match ev st x,ev st y with
  | .val (.one (.lit u)),.val (.one (.lit v))=>oB P op t u v
  | .val (.agg xs),.val (.agg ys)=>match bX xs,bX ys with
   |some us,some vs=>eqT t us vs
   |_,_=>false
  |_,_=>false
 | .unOp .not _ _=>true
 | .unOp .neg _ x=>match ev st x with
  | .val (.one (.lit (.int k n)))=> !(ii k)||inB (0-n)
  |_=>false
 | .convert s d x=>match ev st x,P.underlying d with
  | .val (.one (.lit (.int _ n))),some (.int k)=>(!(ii k)||inB n)&&(P.underlying s).isSome
  |_,_=>false
 | .index t x ix=>match ev st x,ev st ix with
  | .val (.one (.lit (.string s))),.val (.one (.lit (.int _ i)))=>eK P t&&(decide (0<=i)&&decide (i<s.size))
  | .val (.agg cs),.val (.one (.lit (.int _ i)))=>match arT P t with
   |some (n,e,sz)=>match ldT P e with
    |some (ag,sz')=>decide (0<=i)&&(decide (i<n)&&(Nat.beq sz' sz&&(decide (i.toNat*sz+sz<=cs.length)&&(ag||Nat.beq sz 1))))
    |none=>false
   |none=>false
  |_,_=>false
 | .slice t x lo hi none=>match ev st x with
  | .val (.one (.sh sz n _))=>match elT P t,bnd st lo 0,bnd st hi n with
   |some (_,sz',_),some (_,l),some (_,h)=>Nat.beq sz sz'&&(fw st lo&&(fw st hi&&(decide (l<=h)&&decide (h<=n))))
   |_,_,_=>false
  | .val (.one (.lit (.string s)))=>match bnd st lo 0,bnd st hi s.size with
   |some (_,l),some (_,h)=>eK P t&&(fw st lo&&(fw st hi&&(decide (l<=h)&&decide (h<=s.size))))
   |_,_=>false
  |_=>false
 |_=>false
section
variable {P : Program} {eqT : TypeId → List Value → List Value → Bool} {st : St} {p : Prop} {x : AV}
theorem mh (heq:∀t us vs,eqT t us vs=true->iT P t us vs) {op:Op} (hc:oD P eqT st op=true) (h:ce P st op=some (p,x)):p:=by
 cases op<;>simp only [oD,ce,reduceCtorEq] at hc h;case move=>simp only [Option.some.injEq,Prod.mk.injEq] at h;rw [←h.1];trivial
 case assign=>simp only [Option.some.injEq,Prod.mk.injEq] at h;rw [←h.1];trivial
 case pick=>
  split at h<;>try (cases h;done)
  simp only [Option.some.injEq,Prod.mk.injEq] at h;rw [←h.1];trivial
 case field xt y f=>
  split at h<;>try (cases h;done)
  rename_i h1 h2;rw [h1,h2] at hc;split at h<;>try (cases h;done)
  rename_i h3;simp only [h3,Bool.and_eq_true,decide_eq_true_eq] at hc;simp only [Option.some.injEq,Prod.mk.injEq] at h;rw [←h.1];exact ⟨hc.1,qK hc.2⟩
 case extract=>
  split at h<;>try (cases h;done)
  split at h<;>try (cases h;done)
  simp only [Option.some.injEq,Prod.mk.injEq] at h;rw [←h.1];trivial
 case binOp op t y z yt=>
  split at h<;>try (cases h;done)
  ·rename_i u v h1 h2;rw [h1,h2] at hc;split at h<;>try (cases h;done)
   rename_i q r h3;simp only [Option.some.injEq,Prod.mk.injEq] at h;rw [←h.1];exact qL hc h3
  rename_i xs ys h1 h2;rw [h1,h2] at hc;split at h<;>try (cases h;done)
  rename_i us vs h3 h4;simp only [h3,h4] at hc;split at h<;>try (cases h;done)
  ·simp only [Option.some.injEq,Prod.mk.injEq] at h;rw [←h.1];exact heq _ _ _ hc
  simp only [Option.some.injEq,Prod.mk.injEq] at h;rw [←h.1];exact heq _ _ _ hc
 case unOp op t y=>
  cases op<;>simp only [reduceCtorEq] at hc h
  ·split at h<;>try (cases h;done)
   rename_i h1;rw [h1] at hc;exact oC hc h
  split at h<;>try (cases h;done)
  simp only [Option.some.injEq,Prod.mk.injEq] at h;rw [←h.1];trivial
 case convert s d y=>
  split at h<;>try (cases h;done)
  rename_i k0 n k h1 h2;rw [h1,h2] at hc;simp only [Bool.and_eq_true] at hc;split at h
  ·rename_i hk;subst hk;simp only [Option.some.injEq,Prod.mk.injEq] at h;rw [←h.1];exact ⟨qJ (by simpa [ii] using hc.1),hc.2⟩
  simp only [Option.some.injEq,Prod.mk.injEq] at h;rw [←h.1];exact hc.2
 case index t y ix=>
  split at h<;>try (cases h;done)
  ·rename_i h1 h2;rw [h1,h2] at hc;simp only [Bool.and_eq_true,decide_eq_true_eq] at hc;simp only [Option.some.injEq,Prod.mk.injEq] at h;rw [←h.1];exact ⟨cY hc.1,hc.2.1,hc.2.2⟩
  rename_i h1 h2;rw [h1,h2] at hc;split at h<;>try (cases h;done)
  rename_i h3;split at h<;>try (cases h;done)
  rename_i h4;simp only [h3,h4,Bool.and_eq_true,decide_eq_true_eq] at hc;simp only [Option.some.injEq,Prod.mk.injEq] at h;rw [←h.1];exact ⟨hc.1,hc.2.1,Nat.eq_of_beq_eq_true hc.2.2.1,hc.2.2.2.1,qK hc.2.2.2.2⟩
 case slice t y lo hi mx=>
  cases mx<;>simp only [reduceCtorEq] at hc h;split at h<;>try (cases h;done)
  ·rename_i h1;rw [h1] at hc;split at h<;>try (cases h;done)
   rename_i h2 h3 h4;simp only [h2,h3,h4,Bool.and_eq_true,decide_eq_true_eq] at hc;simp only [Option.some.injEq,Prod.mk.injEq] at h;rw [←h.1];exact ⟨Nat.eq_of_beq_eq_true hc.1,cF hc.2.1 h3,cF hc.2.2.1 h4,hc.2.2.2.1,hc.2.2.2.2⟩
  rename_i h1;rw [h1] at hc;split at h<;>try (cases h;done)
  rename_i h3 h4;simp only [h3,h4,Bool.and_eq_true,decide_eq_true_eq] at hc;simp only [Option.some.injEq,Prod.mk.injEq] at h;rw [←h.1];exact ⟨cY hc.1,cF hc.2.1 h3,cF hc.2.2.1 h4,hc.2.2.2.1,hc.2.2.2.2⟩
end
def qM (P:Program) (st:St) (c:Call):Bool:=match c.args.toList,c.argTypes.toList with
 |[x],[t]=>match ev st x with
  | .val (.one (.lit (.string _)))=>eK P t
  | .val (.one (.own nm s' _ sz))=> !(Nat.beq sz 0)&&ge st nm s'
  |_=>true
 |_,_=>false
def ckB (P:Program) (eqT:TypeId->List Value->List Value->Bool) (st:St) (op:Op):Bool:=match op with
 | .build t parts=>match zrT P t,plT P t with
  |some zs,some ps=>gO (fun i=>ps[i]?) (zs.map .lit) (parts.toList.map fun q=>(q.1,ev st q.2))
  |_,_=>false
 | .lookup .. =>false
 | .slice t x lo hi none=>(match ev st x with
  | .val (.one (.lit (.slice none 0 0)))=>match bnd st lo 0,bnd st hi 0 with
   |some (_,l),some (_,h)=>fw st lo&&(fw st hi&&(Nat.beq l 0&&Nat.beq h 0))
   |_,_=>false
  |_=>oD P eqT st (.slice t x lo hi none))
 | .call {callee:= .builtin .cap,..}=>true
 | .call {callee:= .builtin .min,..}=>true
 | .call {callee:= .builtin .max,..}=>true
 | .call {callee:= .builtin .len,args,argTypes}=>qM P st {callee:= .builtin .len,args,argTypes}
 | .fieldAddr s x f=>gN P st (.fieldAddr s x f)
 | .indexAddr t x i=>gN P st (.indexAddr t x i)
 | .load t x=>gN P st (.load t x)
 | .nilCheck x=>gN P st (.nilCheck x)
 |op=>oD P eqT st op
section
variable {P : Program} {eqT : TypeId → List Value → List Value → Bool} {st : St} {p : Prop} {x : AV}
theorem qN {args:Array Operand} {argTypes:Array TypeId} (hc:qM P st {callee:= .builtin .len,args,argTypes}=true) (h:cu P st {callee:= .builtin .len,args,argTypes}=some (p,x)):p:=by
 simp only [cu] at h;simp only [qM] at hc;split at h<;>try (cases h;done)
 rename_i y t h1 h2;simp only [h1,h2] at hc;split at h
 ·rename_i h3;rw [h3] at hc;simp only [Option.some.injEq,Prod.mk.injEq] at h;rw [←h.1];exact cY hc
 split at h<;>try (cases h;done)
 simp only [Option.some.injEq,Prod.mk.injEq] at h;rw [←h.1];split
 ·rename_i h3;rw [h3] at hc;simp only [Bool.and_eq_true,Bool.not_eq_true'] at hc;refine ⟨fun h0=>?_,ch hc.2⟩;subst h0;exact absurd hc.1 (by decide)
 trivial
theorem wu (heq:∀t us vs,eqT t us vs=true->iT P t us vs) {op:Op} (hc:ckB P eqT st op=true) (h:bB P st op=some (p,x)):p:=by
 unfold bB at h;split at h
 ·unfold dh at h;simp only [ckB] at hc;split at h<;>try (cases h;done)
  rename_i h1 h2;simp only [h1,h2] at hc;split at h<;>try (cases h;done)
  rename_i h3;simp only [Option.some.injEq,Prod.mk.injEq] at h;rw [←h.1];exact fe hc h3
 ·simp [ckB] at hc
 ·rename_i t y lo hi;simp only [ckB] at hc;unfold orS at h;split at h
  ·rename_i r hn;obtain rfl:=Option.some.inj h;unfold eG at hn;split at hn<;>try (cases hn;done)
   rename_i h1 h2 h3 h4;simp only [h1,h3,h4,Bool.and_eq_true] at hc;simp only [Option.some.injEq,Prod.mk.injEq] at hn;rw [←hn.1];exact ⟨cF hc.1 h3,cF hc.2.1 h4,Nat.eq_of_beq_eq_true hc.2.2.1,Nat.eq_of_beq_eq_true hc.2.2.2⟩
  have h':ce P st (.slice t y lo hi none)=some (p,x):=h;split at hc
  ·rename_i he;simp only [ce,he] at h';cases h'
  exact mh heq hc h'
 ·unfold eF at h;split at h<;>try (cases h;done)
  split at h<;>try (cases h;done)
  simp only [Option.some.injEq,Prod.mk.injEq] at h;rw [←h.1];trivial
 ·unfold dX at h;split at h<;>try (cases h;done)
  split at h<;>try (cases h;done)
  simp only [Option.some.injEq,Prod.mk.injEq] at h;rw [←h.1];trivial
 ·unfold dX at h;split at h<;>try (cases h;done)
  split at h<;>try (cases h;done)
  simp only [Option.some.injEq,Prod.mk.injEq] at h;rw [←h.1];trivial
 rename_i h1 h2 h3 h4 h5 h6;cases op with
 |call c=>
  obtain ⟨callee,args,argTypes⟩:=c;have h0:=h;simp only [ib,cu] at h0;split at h0<;>try (cases h0;done)
  exact qN hc h
 |build t ps=>exact (h1 t ps rfl).elim
 |lookup t m k ok=>exact (h2 t m k ok rfl).elim
 |slice t y lo hi mx=>
  cases mx with
  |none=>exact (h3 t y lo hi rfl).elim
  |some mx=>
   simp only [ib,ce,reduceCtorEq] at h
 |_=>
  simp only [ckB] at hc;simp only [ib] at h;first
   |exact pD hc h
   |exact mh heq hc h
end
def jf:AV->Option (Nat×Nat×Nat×Nat×Nat)
 | .val (.one (.own nm s n sz))=>some (nm,s,0,n,sz)
 | .val (.one (.vw nm s off n sz))=>some (nm,s,off,n,sz)
 |_=>none
section
variable {P : Program} {e : En} {k0 : Kx} {N : Nat} {st : St} {a : Act} {w : World} {σ : Nat → Value} {o : Oper} {x : AV}
theorem fQ (hW:RW e st.H st.nx σ w) {v:Value} {y:AV} {nm s off n sz:Nat} (hv:ak (kx e st.H st.nx σ w) v y) (hy:jf y=some (nm,s,off,n,sz)) {B:Blk} (hB:st.H nm=some B) (hs:B.st=s) (hsz:sz≠0):
  ∃ad cap xs,v= .slice ad n cap/\n<=cap/\cap<=maxLen/\B.sz=sz/\off+n<=B.n/\(off=0->σ nm= .slice ad B.n cap)/\(n=0∨∃b,(σ nm).ownBlock=some b/\ad=some ⟨b,off*sz,none⟩)/\
   B.cs.length=B.n*B.sz/\w.ownsRow e.w0.heap.size B.E B.sz (σ nm) B.n xs/\denVs (kx e st.H st.nx σ w) xs B.cs/\(ad=none->cap=0):=by
 have row:B.sz=sz->∃ad cap xs,σ nm= .slice ad B.n cap/\B.n<=cap/\cap<=maxLen/\(B.n=0∨∃b,(σ nm).ownBlock=some b/\ad=some ⟨b,0,none⟩)/\B.cs.length=B.n*B.sz/\w.ownsRow e.w0.heap.size B.E B.sz (σ nm) B.n xs/\denVs (kx e st.H st.nx σ w) xs B.cs/\(ad=none->cap=0):=fun hz=>by
  obtain ⟨_,h2,xs,h3,h4⟩:=hW.rowOf hB (.inl (by rw [hz];exact hsz));rcases h3.2 with ⟨q1,q2⟩|⟨g,cap,cur,q1,q2,q3,q4,q5,q6,q7⟩
  ·exact ⟨none,0,xs,by rw [q2];exact q1,by omega,by unfold maxLen;omega,.inl q2,h2,h3,h4,fun _=>rfl⟩
  exact ⟨_,cap,xs,q1,q4,q5,.inr ⟨g,by rw [q1];rfl,rfl⟩,h2,h3,h4,fun h=>by cases h⟩
 unfold jf at hy;split at hy<;>try (cases hy;done)
 ·simp only [Option.some.injEq,Prod.mk.injEq] at hy;obtain ⟨rfl,rfl,rfl,rfl,rfl⟩:=hy;simp only [ak,ar,den] at hv;obtain ⟨h1,h2,h3⟩:=hv.2.2 B hB hs;obtain ⟨ad,cap,xs,r1,r2,r3,r4,r5⟩:=row h3;subst h2;exact ⟨ad,cap,xs,h1.trans r1,r2,r3,h3,by omega,fun _=>r1,by simpa using r4,r5⟩
 simp only [Option.some.injEq,Prod.mk.injEq] at hy;obtain ⟨rfl,rfl,rfl,rfl,rfl⟩:=hy;simp only [ak,ar,den] at hv;obtain ⟨ad,cap,h1,h2,h3,h6,h4,h5⟩:=hv;obtain ⟨k1,k2,k3⟩:=h5 B hB hs;obtain ⟨ad',cap',xs,r1,r2,r3,r4,r5⟩:=row k1;rcases k3 with ⟨k3,k4⟩|⟨k3,k4⟩
 ·subst k3;have k4':σ _= .slice ad B.n cap:=k4;rw [r1] at k4';simp only [Value.slice.injEq,true_and] at k4';obtain ⟨rfl,rfl⟩:=k4';refine ⟨_,_,xs,h1,h2,h3,k1,k2,fun _=>r1,?_,r5⟩;rcases r4 with r4|⟨b,q1,q2⟩
  ·exact .inl (by omega)
  exact .inr ⟨b,q1,by simpa using q2⟩
 exact ⟨ad,cap,xs,h1,h2,h3,k1,k2,fun h=>(k3 h).elim,k4,r5.1,r5.2.1,r5.2.2.1,h6⟩
end
def shs:List A1->List (Option Nat)
 |[]=>[]
 | .one _::l=>none::shs l
 | .agg cs::l=>some cs.length::shs l
def css:List A1->List C
 |[]=>[]
 | .one c::l=>c::css l
 | .agg cs::l=>cs++css l
def pE:List (Option Nat)->List C->List A1
 |none::s,c::cs=> .one c::pE s cs
 |some k::s,cs=> .agg (cs.take k)::pE s (cs.drop k)
 |_,_=>[]
theorem np {κ:Kx}:∀{l:List A1} {vs:List Value},aP κ vs l->∃us,shp (shs l) vs us/\denVs κ us (css l)
 |[],[],_=>⟨[],rfl,trivial⟩
 |[],_::_,h=>h.elim
 |_::_,[],h=>h.elim
 | .one c::l,v::vs,h=>by
  obtain ⟨us,h1,h2⟩:=np h.2;exact ⟨v::us,⟨us,rfl,h1⟩,h.1,h2⟩
 | .agg cs::l,v::vs,h=>by
  obtain ⟨us,h1,h2⟩:=np h.2;obtain ⟨xs,h3,h4⟩:=h.1;exact ⟨xs++us,⟨xs,us,h3,h4.length,rfl,h1⟩,h4.append h2⟩
theorem kQ {κ:Kx}:∀{sh:List (Option Nat)} {vs us:List Value} {cs:List C},shp sh vs us->denVs κ us cs->aP κ vs (pE sh cs)
 |[],[],us,cs,_,_=>by simp [pE,aP]
 |[],_::_,_,_,h,_=>h.elim
 |none::_,[],_,_,h,_=>h.elim
 |some _::_,[],_,_,h,_=>h.elim
 |none::s,v::vs,us,cs,h,hd=>by
  obtain ⟨us',rfl,h1⟩:=h;cases cs with
  |nil=>exact hd.elim
  |cons c cs=>exact ⟨hd.1,kQ h1 hd.2⟩
 |some k::s,v::vs,us,cs,h,hd=>by
  obtain ⟨l,us',h1,h2,rfl,h3⟩:=h;have e1:(l++us').take k=l:=List.take_left' h2;have e2:(l++us').drop k=us':=List.drop_left' h2;have d1:=hd.take k;have d2:=hd.drop k;rw [e1] at d1;rw [e2] at d2;simp only [pE];exact ⟨⟨l,h1,d1⟩,kQ h3 d2⟩
def te (st:St) (x:Operand):Option Bool:=match ev st x with
 | .val (.one (.lit (.slice none 0 0)))=>some true
 | .val (.one (.sh _ n _))=>if Nat.beq n 0 then none else some false
 | .val (.one (.own nm s n sz))=>if Nat.beq n 0||Nat.beq sz 0|| !(ge st nm s) then none else some false
 | .val (.one (.vw nm s _ n sz))=>if Nat.beq n 0||Nat.beq sz 0|| !(ge st nm s) then none else some false
 |_=>none
theorem oE {e:En} {st:St} {a:Act} {w:World} {σ:Nat->Value} (hW:RW e st.H st.nx σ w) (ht:∀t,ak (kx e st.H st.nx σ w) (a.tmps.getD t undef) (st.tm t)) {x:Operand} {b:Bool} (h:te st x=some b):
  ∃ad n c,a.eval x= .slice ad n c/\ad.isNone=b:=by
 have hx:=ao ht x;unfold te at h;split at h<;>try (cases h;done)
 ·rename_i he;rw [he] at hx;simp only [ak,ar,den] at hx;obtain rfl:=Option.some.inj h;exact ⟨none,0,0,hx.1,rfl⟩
 ·rename_i sz n cs he;rw [he] at hx;split at h<;>try (cases h;done)
  rename_i hn;obtain rfl:=Option.some.inj h;simp only [ak,ar,den] at hx;obtain ⟨ad,cap,h1,h2,h3,h4,_⟩:=hx;refine ⟨ad,n,cap,h1,?_⟩;cases ad with
  |none=>
   have:=h4 rfl;have:n=0:=by omega
   subst this;exact absurd rfl hn
  |some _=>rfl
 all_goals
  rename_i he;rw [he] at hx;split at h<;>try (cases h;done)
  rename_i hn;obtain rfl:=Option.some.inj h;simp only [Bool.or_eq_true,Bool.not_eq_true',not_or,Bool.not_eq_true,Bool.not_eq_false] at hn;obtain ⟨⟨hn1,hn2⟩,hn3⟩:=hn;obtain ⟨B,hB,hs⟩:=ch hn3;have hsz:∀z:Nat,Nat.beq z 0=false->z≠0:=fun z hz h0=>by subst h0;cases hz
  obtain ⟨ad,cap,xs,h1,_,_,_,_,_,h7,_⟩:=fQ hW hx rfl hB hs (hsz _ hn2);refine ⟨ad,_,cap,h1,?_⟩;obtain ⟨b,_,h8⟩:=h7.resolve_left (hsz _ hn1);rw [h8];rfl
def nq (P:Program) (st:St):Op->Option AV
 | .indexAddr t x ix=>match ev st x,ev st ix,elT P t with
  | .val (.one (.vw nm s off n sz)),.val (.one (.lit (.int _ i))),some (_,sz',_)=>
   if Nat.beq sz sz'&&(!(Nat.beq sz 0)&&(decide (0<=i)&&(decide (i<n)&&ge st nm s))) then some (.val (.one (.ptr nm s ((off+i.toNat)*sz)))) else none
  |_,_,_=>none
 | .slice t x lo hi none=>match jf (ev st x),elT P t with
  |some (nm,s,off,n,sz),some (_,sz',_)=>match bnd st lo 0,bnd st hi n with
   |some (_,l),some (_,h)=>if Nat.beq sz sz'&&(!(Nat.beq sz 0)&&(fw st lo&&(fw st hi&&(decide (l<=h)&&(decide (h<=n)&&ge st nm s))))) then some (.val (.one (.vw nm s (off+l) (h-l) sz))) else none
   |_,_=>none
  |_,_=>none
 | .makeFunc (.func f) first captured=>match first.toList,gL (captured.toList.map (ev st)) with
  |[],some l=>some (.val (.one (.clo f (shs l) (css l))))
  |_,_=>none
 | .binOp .eql t x (.const (.slice none 0 0)) _=>match elT P t,te st x with
  |some _,some b=>some (one (.bool b))
  |_,_=>none
 | .binOp .neq t x (.const (.slice none 0 0)) _=>match elT P t,te st x with
  |some _,some b=>some (one (.bool (!b)))
  |_,_=>none
 | .call {callee:= .builtin .len,args,argTypes}=>match args.toList,argTypes.toList with
  |[x],[t]=>match ev st x,elT P t with
   | .val (.one (.vw _ _ _ n _)),some _=>some (one (.int .i64 n))
   |_,_=>none
  |_,_=>none
 |_=>none
section
variable {P : Program} {e : En} {k0 : Kx} {N : Nat} {st : St} {a : Act} {w : World} {σ : Nat → Value} {o : Oper} {x : AV}
theorem ka {t E:TypeId} {ad:Option Addr} {n c:Nat} (hu:P.underlying t=some (.slice E)) (w:World):(Op.equal t (.slice ad n c) (.slice none 0 0)).run P w= .ok ad.isNone w:=run_equal_slice_nil (P:=P) w t E ad n c hu
theorem eL {z:Nat} (h:Nat.beq z 0=false):z≠0:=fun h0=>by subst h0;cases h
theorem pF (hW:RW e st.H st.nx σ w) (ht:∀t,ak (kx e st.H st.nx σ w) (a.tmps.getD t undef) (st.tm t)) (h:nq P st o.op=some x):Yl P o a w (kx e st.H st.nx σ w) x:=by
 generalize hop:o.op=op at h;unfold nq at h;split at h<;>try (cases h;done)
 ·rename_i t y ix;have hy:=ao ht y;have hx:=ao ht ix;split at h<;>try (cases h;done)
  rename_i nm s off n sz k i E sz' by_ h1 h2 h3;split at h<;>try (cases h;done)
  rename_i hc;obtain rfl:=Option.some.inj h;simp only [Bool.and_eq_true,Bool.not_eq_true',decide_eq_true_eq] at hc;obtain ⟨c1,c2,c3,c4,c5⟩:=hc;have c1:=Nat.eq_of_beq_eq_true c1;subst c1;obtain ⟨B,hB,hs⟩:=ch c5;rw [h1] at hy;rw [h2] at hx;simp only [ak,ar,den] at hx;obtain ⟨ad,cap,xs,k1,k2,k3,k4,k5,k6,k7,_⟩:=fQ hW hy rfl hB hs (eL c2);obtain ⟨b,q1,q2⟩:=k7.resolve_left (by omega);subst q2;have hlt:s<st.nx:=hs▸(hW.blk nm B hB).1;refine ⟨.pointer (some ⟨b,off*sz+i.toNat*sz,none⟩),fun w' _=>?_,?_⟩
  ·simp only [execOp,hop,k1,hx.1,Sem.run_bind,eC h3 k i b (off*sz) n cap c3 c4 w',Result.andThen_ok,Sem.run_pure]
  simp only [ak,ar,den];refine ⟨rfl,hlt,fun B' hB' _=>⟨b,q1,?_⟩⟩;rw [Nat.add_mul]
 ·rename_i t y lo hi;have hy:=ao ht y;split at h<;>try (cases h;done)
  rename_i nm s off n sz E sz' by_ h1 h2;split at h<;>try (cases h;done)
  rename_i p1 l p2 hh hb1 hb2;split at h<;>try (cases h;done)
  rename_i hc;obtain rfl:=Option.some.inj h;simp only [Bool.and_eq_true,Bool.not_eq_true',decide_eq_true_eq] at hc;obtain ⟨c1,c2,c3,c4,c5,c6,c7⟩:=hc;have c1:=Nat.eq_of_beq_eq_true c1;subst c1;obtain ⟨B,hB,hs⟩:=ch c7;have hp1:=cF c3 hb1;have hp2:=cF c4 hb2;obtain ⟨ad,cap,xs,k1,k2,k3,k4,k5,k6,k7,_,_,_,k11⟩:=fQ hW hy h1 hB hs (eL c2);obtain ⟨g1,j,g2,g3,_⟩:=bi h2;have hlt:s<st.nx:=hs▸(hW.blk nm B hB).1;have e1:∀w',(Instr.sliceBounds true n cap (lo.map a.eval) (hi.map a.eval) none).run P w'= .ok (l,hh,cap) w':=fun w'=>by
   have f2:(0:Int)<=(hh:Int)/\(hh:Int)<=(cap:Int):=⟨by omega,by omega⟩;have f1:(0:Int)<=(l:Int)/\(l:Int)<=(hh:Int):=⟨by omega,by omega⟩;rcases eE ht hb1 hp1 with ⟨rfl,rfl⟩|⟨z1,k1,rfl,q1⟩<;>rcases eE ht hb2 hp2 with ⟨rfl,rfl⟩|⟨z2,k2,rfl,q2⟩
   ·simp [Instr.sliceBounds]
   ·simp only [Instr.sliceBounds,Option.map_some,Option.map_none,q2,Instr.sliceBound,asIntOf,Sem.run_bind,Sem.run_pure,Result.andThen_ok,Sem.run_ite,if_pos f2,Int.toNat_natCast]
   ·simp only [Instr.sliceBounds,Option.map_some,Option.map_none,q1,Instr.sliceBound,asIntOf,Sem.run_bind,Sem.run_pure,Result.andThen_ok,Sem.run_ite,if_pos f1,Int.toNat_natCast]
   simp only [Instr.sliceBounds,Option.map_some,q1,q2,Instr.sliceBound,asIntOf,Sem.run_bind,Sem.run_pure,Result.andThen_ok,Sem.run_ite,if_pos f1,if_pos f2,Int.toNat_natCast]
  refine ⟨.slice (if cap=l then ad else ad.map (·.add (l*sz))) (hh-l) (cap-l),fun w' _=>?_,?_⟩
  ·simp only [execOp,hop,k1,Sem.run_bind,Instr.sliceAt,run_underlying g1,Result.andThen_ok,Instr.slice,e1 w',sizeOf,typeInfo,run_program,g2,g3,Sem.run_pure,Option.map_none]
  simp only [ak,ar,den];refine ⟨_,_,rfl,by omega,by omega,fun hnone=>?_,hlt,fun B' hB' _=>?_⟩
  ·split at hnone
   ·omega
   cases ad with
   |none=>have:=k11 rfl;omega
   |some q=>simp at hnone
  have hBB:st.H nm=some B':=hB';rw [hB] at hBB;cases hBB;refine ⟨k4,by omega,?_⟩;by_cases h0:off+l=0
  ·have hl:l=0:=by omega
   have ho:off=0:=by omega
   subst hl;subst ho;refine .inl ⟨rfl,?_⟩;have e2:(if cap=0 then ad else ad.map (·.add (0*sz)))=ad:=by
    split
    ·rfl
    cases ad with
    |none=>rfl
    |some q=>simp [Addr.add]
   rw [e2,Nat.sub_zero];exact k6 rfl
  refine .inr ⟨h0,?_⟩;by_cases hz:hh-l=0
  ·exact .inl hz
  obtain ⟨b,q1,q2⟩:=k7.resolve_left (by omega);refine .inr ⟨b,q1,?_⟩;rw [if_neg (by omega),q2];simp [cz,Nat.add_mul]
 ·rename_i f first captured
  split at h<;>try (cases h;done)
  rename_i l h1 h2;obtain rfl:=Option.some.inj h;have hr:=iG (κ:=kx e st.H st.nx σ w) (vs:=captured.toList.map a.eval) (by
   refine ⟨by simp,fun i h h'=>?_⟩;simp only [List.getElem_map];exact ao ht _) h2
  obtain ⟨us,g1,g2⟩:=np hr;have hf:first= #[]:=Array.toList_inj.1 h1
  refine ⟨.func (.func f) #[] (captured.toList.map a.eval).toArray,fun w' _=>?_,?_⟩
  ·have e1:Array.map a.eval captured=(List.map a.eval captured.toList).toArray:=by rw [←Array.toList_map,Array.toArray_toList]
   simp [execOp,hop,Instr.makeFunc,hf];exact e1
  simp only [ak,ar,den];exact ⟨_,us,rfl,g1,fZ.2 g2⟩
 ·rename_i t y yt;split at h<;>try (cases h;done)
  rename_i el b h1 h2;obtain rfl:=Option.some.inj h;obtain ⟨ad,n,c,k1,rfl⟩:=oE hW ht h2;obtain ⟨E,sz,by_⟩:=el;refine ⟨.bool ad.isNone,fun w' _=>?_,by simp only [ak,ar,den];exact ⟨trivial,rfl⟩⟩;have he:=ka (P:=P) (ad:=ad) (n:=n) (c:=c) (bi h1).1 w';have e1:a.eval (.const (.slice none 0 0))= .slice none 0 0:=rfl;simp only [execOp,hop];rw [k1,e1,eqGuard_at_slice];simp [binOp,he]
 ·rename_i t y yt;split at h<;>try (cases h;done)
  rename_i el b h1 h2;obtain rfl:=Option.some.inj h;obtain ⟨ad,n,c,k1,rfl⟩:=oE hW ht h2;obtain ⟨E,sz,by_⟩:=el;refine ⟨.bool (!ad.isNone),fun w' _=>?_,by simp only [ak,ar,den];exact ⟨trivial,rfl⟩⟩;have he:=ka (P:=P) (ad:=ad) (n:=n) (c:=c) (bi h1).1 w';have e1:a.eval (.const (.slice none 0 0))= .slice none 0 0:=rfl;simp only [execOp,hop];rw [k1,e1,eqGuard_at_slice];simp [binOp,he]
 rename_i args argTypes;split at h<;>try (cases h;done)
 rename_i y t hargs htys;have ha:args= #[y]:=Array.toList_inj.1 hargs;have hty:argTypes= #[t]:=Array.toList_inj.1 htys;subst ha hty;have hy:=ao ht y;split at h<;>try (cases h;done)
 rename_i nm s off n sz el h1 h2;obtain rfl:=Option.some.inj h;rw [h1] at hy;simp only [ak,ar,den] at hy;obtain ⟨ad,cap,k1,_⟩:=hy;obtain ⟨E,sz',by_⟩:=el;refine ⟨.int .i64 n,fun w' _=>?_,by simp only [ak,ar,den];exact ⟨trivial,rfl⟩⟩;simp [execOp,hop,resolve,invoke,builtin,k1,Builtin.len_,run_underlying (bi h2).1,goInt]
def nr (P:Program) (eqT:TypeId->List Value->List Value->Bool) (st:St) (op:Op):Option AV:=match nq P st op with
 |some x=>some x
 |none=>bif ckB P eqT st op then (bB P st op).map (·.2) else none
theorem pG {eqT:TypeId->List Value->List Value->Bool} (heq:∀t us vs,eqT t us vs=true->iT P t us vs) (hW:RW e st.H st.nx σ w) (ht:∀t,ak (kx e st.H st.nx σ w) (a.tmps.getD t undef) (st.tm t)) (h:nr P eqT st o.op=some x):Yl P o a w (kx e st.H st.nx σ w) x:=by
 unfold nr at h;split at h
 ·rename_i y hy;obtain rfl:=Option.some.inj h;exact pF hW ht hy
 cases hc:ckB P eqT st o.op with
 |false=>rw [hc] at h;cases h
 |true=>
  rw [hc] at h;simp only [cond_true,Option.map_eq_some_iff] at h;obtain ⟨⟨p,y⟩,h1,rfl⟩:=h;exact fd hW ht h1 (wu heq hc h1)
end
def tf (st:St) (sz:Nat) (x:AV):Option (Nat×List C):=match x with
 | .val (.one (.lit (.slice none 0 0)))=>some (0,[])
 | .val (.one (.sh sz' n cs))=>if Nat.beq sz' sz then some (n,cs) else none
 |x=>match jf x with
  |some (nm,s,off,n,sz')=>match st.H nm with
   |some B=>if Nat.beq sz' sz&&(!(Nat.beq sz 0)&&Nat.beq B.st s) then some (n,(B.cs.drop (off*sz)).take (n*sz)) else none
   |none=>none
  |none=>none
def tg (st:St) (sz:Nat) (E:TypeId) (x:AV):Option (Option Nat×Nat×List C):=match x with
 | .val (.one (.lit (.slice none 0 0)))=>some (none,0,[])
 |x=>match jf x with
  |some (nm,s,off,n,sz')=>match st.H nm with
   |some B=>if Nat.beq off 0&&(Nat.beq sz' sz&&(!(Nat.beq sz 0)&&(Nat.beq B.st s&&Nat.beq B.E E))) then some (some nm,n,B.cs.take (n*sz)) else none
   |none=>none
  |none=>none
section
variable {P : Program} {e : En} {k0 : Kx} {N : Nat} {st : St} {a : Act} {w : World} {σ : Nat → Value} {o : Oper} {x : AV}
theorem oF (hW:RW e st.H st.nx σ w) {v:Value} {y:AV} (hy:ak (kx e st.H st.nx σ w) v y) {sz m:Nat} {ns:List C} (h:tf st sz y=some (m,ns)):
  ∃ad c news,v= .slice ad m c/\denVs (kx e st.H st.nx σ w) news ns/\ns.length=m*sz/\m<=maxLen/\(m=0∨∃b off,ad=some ⟨b,off,none⟩/\∀j u,news[j]? =some u->w.cell? ⟨b,off+j,none⟩=some u):=by
 unfold tf at h;split at h
 ·simp only [Option.some.injEq,Prod.mk.injEq] at h;obtain ⟨rfl,rfl⟩:=h;simp only [ak,ar,den] at hy;exact ⟨none,0,[],hy.1,trivial,by simp,by unfold maxLen;omega,.inl rfl⟩
 ·rename_i sz' n cs;split at h<;>try (cases h;done)
  rename_i hc;simp only [Option.some.injEq,Prod.mk.injEq] at h;obtain ⟨rfl,rfl⟩:=h;have hc:=Nat.eq_of_beq_eq_true hc;subst hc;exact kC (κ:=kx e st.H st.nx σ w) hW hy (by rfl) trivial
 split at h<;>try (cases h;done)
 rename_i nm s off n sz' hv;split at h<;>try (cases h;done)
 rename_i B hB;split at h<;>try (cases h;done)
 rename_i hc;simp only [Option.some.injEq,Prod.mk.injEq] at h;obtain ⟨rfl,rfl⟩:=h;simp only [Bool.and_eq_true,Bool.not_eq_true'] at hc;have hc1:=Nat.eq_of_beq_eq_true hc.1;subst hc1;obtain ⟨ad,cap,xs,k1,k2,k3,k4,k5,k6,k7,k8,k9,k10,k11⟩:=fQ hW hy hv hB (Nat.eq_of_beq_eq_true hc.2.2) (eL hc.2.1);have hle:off*sz'+n*sz'<=B.n*sz':=by rw [←Nat.add_mul];exact Nat.mul_le_mul_right _ k5
 have hd:=(k10.drop (off*sz')).take (n*sz');refine ⟨ad,cap,_,k1,hd,by rw [List.length_take,List.length_drop,k8,k4];omega,by omega,?_⟩;rcases k7 with k7|⟨b,q1,q2⟩
 ·exact .inl k7
 refine .inr ⟨b,off*sz',q2,fun j u hu=>?_⟩;rw [List.getElem?_take] at hu;split at hu<;>try (cases hu;done)
 rw [List.getElem?_drop] at hu;have:=k9.cells (g:=b) q1 (off*sz'+j) u hu;rw [cz] at this;simpa using this
theorem oG (hW:RW e st.H st.nx σ w) {v:Value} {y:AV} (hy:ak (kx e st.H st.nx σ w) v y) {sz n E:Nat} {cs:List C} {kill:Option Nat} (h:tg st sz E y=some (kill,n,cs)):
  ∃xs,w.ownsRow e.w0.heap.size E sz v n xs/\denVs (kx e st.H st.nx σ w) xs cs/\cs.length=n*sz/\(∀r,v.ownBlock=some r->∃nm B,kill=some nm/\obk (σ nm)=some r/\st.H nm=some B):=by
 unfold tg at h;split at h
 ·simp only [Option.some.injEq,Prod.mk.injEq] at h;obtain ⟨rfl,rfl,rfl⟩:=h;simp only [ak,ar,den] at hy;rw [hy.1];exact ⟨[],w.ownsRow_nil _ _ _,trivial,by simp,fun r hr=>by cases hr⟩
 split at h<;>try (cases h;done)
 rename_i nm s off n' sz' hv;split at h<;>try (cases h;done)
 rename_i B hB;split at h<;>try (cases h;done)
 rename_i hc;simp only [Option.some.injEq,Prod.mk.injEq] at h;obtain ⟨rfl,rfl,rfl⟩:=h;simp only [Bool.and_eq_true,Bool.not_eq_true'] at hc;obtain ⟨c1,c2,c3,c4,c5⟩:=hc;have c1:=Nat.eq_of_beq_eq_true c1;have c2:=Nat.eq_of_beq_eq_true c2;have c5:=Nat.eq_of_beq_eq_true c5;subst c1;subst c2;obtain ⟨ad,cap,xs,k1,k2,k3,k4,k5,k6,k7,k8,k9,k10,k11⟩:=fQ hW hy hv hB (Nat.eq_of_beq_eq_true c4) (eL c3);have k6:=k6 rfl;have hml:n'*sz'<=B.n*sz':=Nat.mul_le_mul_right _ (by omega);rw [k4] at k8 k9;rw [←c5];refine ⟨xs.take (n'*sz'),?_,k10.take _,by rw [List.length_take,k8];omega,fun r hr=>⟨nm,B,rfl,?_,hB⟩⟩
 ·have hl:=k9.1;refine ⟨by rw [List.length_take];omega,?_⟩;rcases k9.2 with ⟨q1,q2⟩|⟨g,cap',cur,q1,q2,q3,q4,q5,q6,q7⟩
  ·rw [k6] at q1;simp only [Value.slice.injEq] at q1;obtain ⟨rfl,_,rfl⟩:=q1;have h0:n'=0:=by omega
   subst h0;exact .inl ⟨k1,rfl⟩
  rw [k6] at q1;simp only [Value.slice.injEq] at q1;obtain ⟨rfl,_,rfl⟩:=q1;refine .inr ⟨g,cap,cur,k1,q2,q3,k2,q5,q6,?_⟩;rw [←q7,List.take_take];congr 1;omega
 rw [k6];rw [k1] at hr;cases ad with
 |none=>simp [Value.ownBlock] at hr
 |some q=>simpa [Value.ownBlock,obk] using hr
def ES.re (s:ES) (kill:Option Nat) (d:Nat) (x:AV) (B:Blk):ES:=⟨s.tm.put d (some x),(match kill with|some nm=>s.H.put nm none|none=>s.H).put s.nx (some B),s.nx+1⟩
theorem ES.re_st (s:ES) (kill:Option Nat) (d:Nat) (x:AV) (B:Blk) (nb:Nat):(s.re kill d x B).st nb=⟨up s.tmF d x,up (up s.hF (kill.getD s.nx) none) s.nx (some B),s.nx+1,nb⟩:=by
 have h1:(s.re kill d x B).tmF=up s.tmF d x:=ES.tmF_put s d x;have h2:(s.re kill d x B).hF=up (up s.hF (kill.getD s.nx) none) s.nx (some B):=by
  cases kill with
  |none=>
   rw [Option.getD_none,dL];exact gc s.H s.nx (some B)
  |some nm=>
   have h3:(fun n=>(s.H.put nm none).get n)=up s.hF nm none:=gc s.H nm none;rw [Option.getD_some,←h3];exact gc (s.H.put nm none) s.nx (some B)
 unfold ES.st;rw [h1,h2];rfl
def kR (P:Program) (s:ES) (d:Nat) (args:Array Operand) (argTypes:Array TypeId):Option ES:=match args.toList,argTypes.toList with
 |[x,y],[t,t']=>match elT P t with
  |some (E,sz,by_)=>match zrT P E with
   |some zs=>bif Nat.beq t t'&&(Nat.beq zs.length sz&& !(Nat.beq sz 0)) then match tg (s.st 0) sz E (ev (s.st 0) x),tf (s.st 0) sz (ev (s.st 0) y) with
    |some (kill,n,cs),some (m,ns)=>bif decide ((n+m)*by_<=140737488355328)&&decide (n+m<=4611686018427387904) then some (s.re kill d (.val (.one (.own s.nx s.nx (n+m) sz))) ⟨s.nx,E,sz,n+m,cs++ns⟩) else none
    |_,_=>none
    else none
   |none=>none
  |none=>none
 |_,_=>none
theorem am {b:Bool} {α:Type} {x:Option α} {y:α} (h:(bif b then x else none)=some y):b=true/\x=some y:=by
 cases b
 ·cases h
 exact ⟨rfl,h⟩
theorem nt {s s':ES} {d:Nat} {args:Array Operand} {argTypes:Array TypeId} {K:Act->World->Prop} {Q:Exit->Act->World->Prop} (hr:Rel e k0 N (s.st 0) a w) (hdst:o.dst=some d) (hdN:d<N) (hop:o.op= .call {callee:= .builtin .append,args,argTypes})
  (h:kR P s d args argTypes=some s') (hK:∀a' w',Rel e k0 N (s'.st 0) a' w'->K a' w'):o.wp P a w K Q:=by
 obtain ⟨σ,h1,h2,h3⟩:=hr.ex;unfold kR at h;split at h<;>try (cases h;done)
 rename_i x y t t' hargs htys;split at h<;>try (cases h;done)
 rename_i E sz by_ hel;split at h<;>try (cases h;done)
 rename_i zs hz;replace h:=am h;obtain ⟨hc,h⟩:=h;simp only [Bool.and_eq_true,Bool.not_eq_true'] at hc;obtain ⟨c1,c2,c3⟩:=hc;have c1:=Nat.eq_of_beq_eq_true c1;have c2:=Nat.eq_of_beq_eq_true c2;subst c1;split at h<;>try (cases h;done)
 rename_i kill n cs m ns hd hs;replace h:=am h;obtain ⟨hc,h⟩:=h;obtain rfl:=Option.some.inj h;simp only [Bool.and_eq_true,decide_eq_true_eq] at hc;have hx:=ao h2 x;have hy:=ao h2 y;obtain ⟨ad,c,news,e1,e2,e3,e4,e5⟩:=oF h1 hy hs;obtain ⟨xs,g1,g2,g3,g4⟩:=oG h1 hx hd;obtain ⟨v',w',r1,r2,r3,r4,r5⟩:=fG (ty:=o.type) hel (by rw [hz];rfl) (fun zs' hz'=>by rw [hz] at hz';cases hz';exact c2) (Nat.pos_of_ne_zero (eL c3)) g1 (by rw [e2.length];exact e3) e5 e2.one (by unfold maxLen;omega) hc.1 h1.size;have ha:args= #[x,y]:=Array.toList_inj.1 hargs;have hty:argTypes= #[t,t]:=Array.toList_inj.1 htys;obtain ⟨k1,k2⟩:=RW.new (nm0:=kill.getD s.nx) (d:=s.nx) h1 r4 (B':=⟨s.nx,E,sz,n+m,cs++ns⟩) rfl (eL c3) (by simp only [List.length_append,g3,e3,Nat.add_mul]) (fun r hr=>by
  obtain ⟨nm,B,f1,f2,f3⟩:=g4 r hr;subst f1;exact ⟨f2,B,f3⟩) (fun r hr=>by
  rw [eZ r3] at hr;rcases r5 with h5|h5
  ·obtain ⟨nm,B,f1,f2,f3⟩:=g4 r (h5▸hr);subst f1;exact .inr ⟨f2,B,f3⟩
  rw [h5] at hr;cases hr;exact .inl (Nat.le_refl _)) r3 (g2.append e2)
 refine bJ (v:=v') (w':=w') ?_ ?_
 ·have r1':=r1;simp only [execOp,hop,ha,hty,resolve,Sem.run_bind,Sem.run_pure,Result.andThen_ok,invoke,builtin,List.map_toArray,List.map_cons,List.map_nil,e1];rw [r1'];rfl
 rw [hdst];refine hK _ _ ?_;rw [ES.re_st];exact hr.put k1 h2 h3 k2 (aY s.nx σ w' r2) d hdN
def nu (P:Program) (s:ES) (d:Nat) (args:Array Operand) (argTypes:Array TypeId):Option ES:=match args.toList,argTypes.toList with
 |[x,y],[t,t']=>match ev (s.st 0) x,ev (s.st 0) y,elT P t,P.underlying t' with
  | .val (.one (.lit (.slice none 0 0))),.val (.one (.lit (.int _ n))),some (E,sz,by_),some (.int _)=>match zrT P E with
   |some zs=>bif Nat.beq zs.length sz&&(!(Nat.beq sz 0)&&(decide (0<n)&&(decide (n*by_<=140737488355328)&&decide (n<=4611686018427387904)))) then some (s.re none d (.val (.one (.own s.nx s.nx n.toNat sz))) ⟨s.nx,E,sz,n.toNat,b5 n.toNat (zs.map .lit)⟩) else none
   |none=>none
  |_,_,_,_=>none
 |_,_=>none
theorem pH {s s':ES} {d:Nat} {args:Array Operand} {argTypes:Array TypeId} {K:Act->World->Prop} {Q:Exit->Act->World->Prop} (hr:Rel e k0 N (s.st 0) a w) (hdst:o.dst=some d) (hdN:d<N) (hd:d<=s.nx) (hop:o.op= .call {callee:= .builtin .append,args,argTypes})
  (h:nu P s d args argTypes=some s') (hK:∀a' w',Rel e k0 N (s'.st 0) a' w'->K a' w'):o.wp P a w K Q:=by
 have hr':Rel e k0 N (s.st (s.nx-d)) a w:=hr.nb _;have hnm:(s.st (s.nx-d)).nb+d=s.nx:=by show s.nx-d+d=s.nx;omega
 unfold nu at h;split at h<;>try (cases h;done)
 rename_i x y t t' hargs htys;split at h<;>try (cases h;done)
 rename_i k n E sz by_ kn h1 h2 h3 h4;split at h<;>try (cases h;done)
 rename_i zs hz;replace h:=am h;obtain ⟨hc,h⟩:=h;obtain rfl:=Option.some.inj h;simp only [Bool.and_eq_true,Bool.not_eq_true',decide_eq_true_eq] at hc;have h1':ev (s.st (s.nx-d)) x= .val (.one (.lit (.slice none 0 0))):=by cases x<;>exact h1
 have h2':ev (s.st (s.nx-d)) y= .val (.one (.lit (.int k n))):=by cases y<;>exact h2
 refine lY (p:=zs.length=sz/\sz≠0/\0<n/\n*by_<=140737488355328/\n<=4611686018427387904) (st':=⟨up (s.st (s.nx-d)).tm d (.val (.one (.own s.nx s.nx n.toNat sz))),up (s.st (s.nx-d)).H s.nx (some ⟨s.nx,E,sz,n.toNat,b5 n.toNat (zs.map .lit)⟩),s.nx+1,s.nx-d⟩) hr' hdst hdN hop (by
  simp only [qx,hargs,htys,h1',h2',h3,h4,hz,hnm];rfl) ⟨Nat.eq_of_beq_eq_true hc.1,eL hc.2.1,hc.2.2.1,hc.2.2.2.1,hc.2.2.2.2⟩ fun a' w' hq=>hK a' w' ?_
 rw [ES.re_st,Option.getD_none,dL];exact hq.nb 0
def nv (P:Program) (s:ES) (d:Nat):Op->Option ES
 | .alloc t=>match zrT P t with
  |some zs=>bif !(Nat.beq zs.length 0) then some (s.re none d (.val (.one (.ptr s.nx s.nx 0))) ⟨s.nx,t,zs.length,1,zs.map .lit⟩) else none
  |none=>none
 | .box t x=>match cellsOf (ev (s.st 0) x) with
  |some cs=>bif !(Nat.beq cs.length 0) then some (s.re none d (.val (.one (.ptr s.nx s.nx 0))) ⟨s.nx,t,cs.length,1,cs⟩) else none
  |none=>none
 | .buildSlice t len parts=>match elT P t with
  |some (E,sz,_)=>bif Nat.beq len 0&&(Nat.beq parts.size 0&& !(Nat.beq sz 0)) then some (s.re none d (.val (.one (.own s.nx s.nx 0 sz))) ⟨s.nx,E,sz,0,[]⟩) else match zrT P E with
   |some zs=>bif gO (fun i=>some (i*sz,sz)) (b5 len (zs.map .lit)) (parts.toList.map fun q=>(q.1,ev (s.st 0) q.2)) then match cE (fun i=>some (i*sz,sz)) (b5 len (zs.map .lit)) (parts.toList.map fun q=>(q.1,ev (s.st 0) q.2)) with
    |some (_,r)=>bif Nat.beq zs.length sz&&(decide (0<len*sz)&&(decide (len*sz<=16777216)&&Nat.beq r.length (len*sz))) then some (s.re none d (.val (.one (.own s.nx s.nx len sz))) ⟨s.nx,E,sz,len,r⟩) else none
    |none=>none
    else none
   |none=>none
  |none=>none
 | .makeSlice t l c=>match ev (s.st 0) l,ev (s.st 0) c,elT P t with
  | .val (.one (.lit (.int _ n))),.val (.one (.lit (.int _ n'))),some (E,sz,by_)=>match zrT P E with
   |some zs=>bif decide (n=n')&&(!(Nat.beq sz 0)&&(Nat.beq zs.length sz&&(decide (0<=n)&&(decide ((by_:Int)*n<=281474976710656)&&decide (n<=4611686018427387904))))) then some (s.re none d (.val (.one (.own s.nx s.nx n.toNat sz))) ⟨s.nx,E,sz,n.toNat,b5 n.toNat (zs.map .lit)⟩) else none
   |none=>none
  |_,_,_=>none
 |_=>none
theorem qO (s:ES) (nb nb':Nat) (x:Operand):ev (s.st nb) x=ev (s.st nb') x:=by cases x<;>rfl
theorem qP {s s':ES} {d:Nat} {op:Op} (hd:d<=s.nx) (h:nv P s d op=some s'):(∃p st',eff P (s.st (s.nx-d)) d op=some (p,st')/\p/\s'.st (s.nx-d)=st'/\((∀c,op≠ .call c)/\∀t x y,op≠ .store t x y))∨(∃t,op= .buildSlice t 0 #[]/\∃E sz by_,elT P t=some (E,sz,by_)/\sz≠0/\s'=s.re none d (.val (.one (.own s.nx s.nx 0 sz))) ⟨s.nx,E,sz,0,[]⟩):=by
 have hnm:s.nx-d+d=s.nx:=by omega
 have hst:(s.st (s.nx-d)).nb+d=s.nx:=hnm;cases op<;>simp only [nv,reduceCtorEq] at h;case alloc t=>
  split at h<;>try (cases h;done)
  rename_i zs hz;replace h:=am h;obtain ⟨hc,h⟩:=h;obtain rfl:=Option.some.inj h;refine .inl ⟨_,_,by simp only [eff,hz];rfl,eL (by simpa using hc),?_,fun c hc=>(by cases hc),fun _ _ _ hc=>(by cases hc)⟩;rw [ES.re_st];simp only [ES.st,hnm,Option.getD_none,dL]
 case box t y=>
  split at h<;>try (cases h;done)
  rename_i cs hz;replace h:=am h;obtain ⟨hc,h⟩:=h;obtain rfl:=Option.some.inj h;rw [qO s 0 (s.nx-d)] at hz;refine .inl ⟨_,_,by simp only [eff,hz];rfl,eL (by simpa using hc),?_,fun c hc=>(by cases hc),fun _ _ _ hc=>(by cases hc)⟩;rw [ES.re_st];simp only [ES.st,hnm,Option.getD_none,dL]
 case buildSlice t len parts=>
  split at h<;>try (cases h;done)
  rename_i E sz by_ hel;cases hb:(Nat.beq len 0&&(Nat.beq parts.size 0&& !(Nat.beq sz 0))) with
  |true=>
   rw [hb] at h;simp only [cond_true] at h;obtain rfl:=Option.some.inj h;simp only [Bool.and_eq_true,Bool.not_eq_true'] at hb;have h0:=Nat.eq_of_beq_eq_true hb.1;have h1:=Array.eq_empty_of_size_eq_zero (Nat.eq_of_beq_eq_true hb.2.1);subst h0;subst h1;exact .inr ⟨t,rfl,E,sz,by_,hel,eL hb.2.2,rfl⟩
  |false=>
   rw [hb] at h;simp only [cond_false] at h;split at h<;>try (cases h;done)
   rename_i zs hz;replace h:=am h;obtain ⟨hf,h⟩:=h;split at h<;>try (cases h;done)
   rename_i q r hr;replace h:=am h;obtain ⟨hc,h⟩:=h;obtain rfl:=Option.some.inj h;simp only [Bool.and_eq_true,decide_eq_true_eq] at hc;have hev:(fun q:Nat×Operand=>(q.1,ev (s.st 0) q.2))=fun q=>(q.1,ev (s.st (s.nx-d)) q.2):=by funext q;rw [qO s 0 (s.nx-d)]
   rw [hev] at hr hf;refine .inl ⟨q/\zs.length=sz/\0<len*sz/\len*sz<=16777216/\r.length=len*sz,_,by simp only [eff,hel,hz,hr];rfl,⟨fe hf hr,Nat.eq_of_beq_eq_true hc.1,hc.2.1,hc.2.2.1,Nat.eq_of_beq_eq_true hc.2.2.2⟩,?_,fun c hc=>(by cases hc),fun _ _ _ hc=>(by cases hc)⟩;rw [ES.re_st];simp only [ES.st,hnm,Option.getD_none,dL]
 case makeSlice t l c=>
  split at h<;>try (cases h;done)
  rename_i k1 n k2 n' E sz by_ h1 h2 h3;split at h<;>try (cases h;done)
  rename_i zs hz;replace h:=am h;obtain ⟨hc,h⟩:=h;obtain rfl:=Option.some.inj h;simp only [Bool.and_eq_true,Bool.not_eq_true',decide_eq_true_eq] at hc;rw [qO s 0 (s.nx-d)] at h1 h2;refine .inl ⟨n=n'/\sz≠0/\zs.length=sz/\0<=n/\(by_:Int)*n<=281474976710656/\n<=4611686018427387904,_,by simp only [eff,h1,h2,h3,hz];rfl,⟨hc.1,eL hc.2.1,Nat.eq_of_beq_eq_true hc.2.2.1,hc.2.2.2.1,hc.2.2.2.2.1,hc.2.2.2.2.2⟩,?_,fun c hc=>(by cases hc),fun _ _ _ hc=>(by cases hc)⟩;rw [ES.re_st];simp only [ES.st,hnm,Option.getD_none,dL]
theorem iI {s s':ES} {d:Nat} {K:Act->World->Prop} {Q:Exit->Act->World->Prop} (hr:Rel e k0 N (s.st 0) a w) (hdst:o.dst=some d) (hdN:d<N) (hd:d<=s.nx) (h:nv P s d o.op=some s') (hK:∀a' w',Rel e k0 N (s'.st 0) a' w'->FL w w'->K a' w'):o.wp P a w K Q:=by
 have hr':Rel e k0 N (s.st (s.nx-d)) a w:=hr.nb _;rcases qP hd h with ⟨p,st',h1,h2,rfl,h4,h5⟩|⟨t,hop,E,sz,by_,hel,hsz,rfl⟩
 ·exact qv hr' hdst hdN h1 h2 h4 h5 fun a' w' hq hF=>hK a' w' (hq.nb 0) hF
 obtain ⟨g1,i,g2,g3,g4⟩:=bi hel;have hnm:(s.st (s.nx-d)).nb+d=s.nx:=by show s.nx-d+d=s.nx;omega
 refine gG (v:= .slice (some ⟨w.heap.size,0,none⟩) 0 0) (us:=[]) (cs:=[]) (E:=E) (sz:=sz) (n:=0) (x:= .val (.one (.own s.nx s.nx 0 sz))) hr' hdst hdN ?_ (fun σ _ k2=>trivial) hsz (by simp) (by unfold maxLen;omega) (fun σ w'=>?_) fun a' w' hq hF=>hK a' w' ?_ hF
 ·simp only [execOp,hop,Instr.buildSlice,Sem.run_bind,run_underlying g1,Result.andThen_ok,sizeOf,typeInfo,run_program,g2,g3,Sem.run_pure];have hz:Array.range 0= #[]:=by apply Array.eq_empty_of_size_eq_zero;simp
  simp [Instr.fill,newRow,hz]
 ·have:=aY (e:=e) (H:=(s.st (s.nx-d)).H) (nx:=s.nx) (E:=E) (sz:=sz) (n:=0) (cs:=[]) ((s.st (s.nx-d)).nb+d) (v:= .slice (some ⟨w.heap.size,0,none⟩) 0 0) σ w' rfl;rw [hnm] at this ⊢;exact this
 rw [ES.re_st];have hq':=hq.nb 0;rw [hnm] at hq';rw [Option.getD_none,dL];exact hq'
def nw (P:Program) (s:ES) (t:TypeId) (x y:Operand):Option ES:=match ev (s.st 0) x,cellsOf (ev (s.st 0) y),ldT P t with
 | .val (.one (.ptr nm s' off)),some ds,some (_,sz)=>match s.H.get nm with
  |some B=>bif Nat.beq B.st s'&&(Nat.beq ds.length sz&&decide (off+sz<=B.cs.length)) then some (s.putH nm ⟨B.st,B.E,B.sz,B.n,spl B.cs off ds⟩) else none
  |none=>none
 |_,_,_=>none
theorem pI {s s':ES} {t:TypeId} {x y:Operand} {K:Act->World->Prop} {Q:Exit->Act->World->Prop} (hr:Rel e k0 N (s.st 0) a w) (hdst:o.dst=none) (hop:o.op= .store t x y) (h:nw P s t x y=some s') (hK:∀a' w',Rel e k0 N (s'.st 0) a' w'->K a' w'):o.wp P a w K Q:=by
 unfold nw at h;split at h<;>try (cases h;done)
 rename_i nm s1 off ds ag sz h1 h2 h3;split at h<;>try (cases h;done)
 rename_i B hB;replace h:=am h;obtain ⟨hc,h⟩:=h;obtain rfl:=Option.some.inj h;simp only [Bool.and_eq_true,decide_eq_true_eq] at hc;have hB':(s.st 0).H nm=some B:=hB;refine lU (p:=B.st=s1/\ds.length=sz/\off+sz<=B.cs.length) (d:=0) (st':=⟨(s.st 0).tm,up (s.st 0).H nm (some {B with cs:=spl B.cs off ds}),(s.st 0).nx,(s.st 0).nb⟩) hr hdst hop (by rw [hop];simp only [eff,h1,h2,h3,hB']) ⟨Nat.eq_of_beq_eq_true hc.1,Nat.eq_of_beq_eq_true hc.2.1,hc.2.2⟩ fun a' w' hq=>hK a' w' ?_
 have:(s.putH nm ⟨B.st,B.E,B.sz,B.n,spl B.cs off ds⟩).st 0=⟨(s.st 0).tm,up (s.st 0).H nm (some {B with cs:=spl B.cs off ds}),(s.st 0).nx,(s.st 0).nb⟩:=by
  have h5:=ES.hF_put s nm ⟨B.st,B.E,B.sz,B.n,spl B.cs off ds⟩;simp only [ES.st,h5];rfl
 rw [this];exact hq
end
end Go.Proofs.YtclkgcigacbmiaaGreatDoor
