/- Demands merged by the reference; lists of demands compared; walked by the abstract machine. -/
import Derived.Test.YtcgpghifhehlhaaGreatDoorCb1M
import Derived.Test.YtcgpghifhehlhaaGreatDoorJfM
import Derived.Test.YtcgpghifhehlhaaGreatDoorAbBM
import Derived.Test.YtcgpghifhehlhaaGreatDoorGu1M
import Derived.Test.YtcgpghifhehlhaaGreatDoorAb7M
import Derived.Laws.Cover3
set_option linter.unusedVariables false
set_option linter.unusedSimpArgs false
set_option linter.unusedSectionVars false
namespace Go.Proofs.YtcgpghifhehlhaaGreatDoor
open Go Go.RowKit
def FP (d:Dem):Bool:= !inR d.cts
def mgT (a b:List Dem):List Dem×Int:=if (64:Int)<(a.length:Int)∨(64:Int)<(b.length:Int) then ([],2) else if (a++b).any FP=true then ([],1)
 else if (64:Int)<(((a++b).foldl rb []).length:Int) then ([],2) else ((a++b).foldl rb [],0)
def mgV (x:List Dem×Int):AV:= .tup [.one (.sh 4 x.1.length (ar dn x.1)),.one (.lit (.int .i64 x.2))]
theorem G1 (l:List Dem) (k:Nat) (c:Int) (h:k<l.length):spl (ar dn l) (k*4+3) [.lit (.int .i64 c)]=ar dn (l.set k ⟨l[k].deb,l[k].par,l[k].gnd,c⟩):=
 iD AF l k 3 [.lit (.int .i64 c)] ⟨l[k].deb,l[k].par,l[k].gnd,c⟩ h (by simp) (by simp [dn,spl])
theorem vm {l:List Dem} {k:Nat} (h:k<l.length):(ar dn l).drop (k*4)=dn l[k]++ar dn (l.drop (k+1)):=aO AF l k h
theorem GN {l:List Dem} {k:Nat} (h:k<l.length):(ar dn l)[k*4+3]? =some (.lit (.int .i64 l[k].cts)):=by
 rw [←List.head?_drop,←List.drop_drop,vm h];rfl
inductive Tr (α:Type) where
 |leaf:Tr α
 |node (x:Option α) (l r:Tr α):Tr α
def Tr.seq {α β:Type} (t:Tr α) (k:Tr α->β):β:=match t with
 | .leaf=>k .leaf
 | .node x l r=>k (.node x l r)
theorem Tr.seq_eq {α β:Type} (t:Tr α) (k:Tr α->β):t.seq k=k t:=by cases t<;>rfl
def Tr.get {α:Type}:Tr α->Nat->Option α
 | .leaf,_=>none
 | .node x l r,n=>bif Nat.beq n 0 then x else bif Nat.beq (Nat.mod n 2) 1 then l.get (Nat.div n 2) else r.get (Nat.pred (Nat.div n 2))
def Tr.putF {α:Type} (y:Option α):Nat->Tr α->Nat->Tr α
 |0,t,_=>t
 |f+1,t,n=>match t with
  | .leaf=>bif Nat.beq n 0 then .node y .leaf .leaf else bif Nat.beq (Nat.mod n 2) 1 then (Tr.putF y f .leaf (Nat.div n 2)).seq fun l=> .node none l .leaf else (Tr.putF y f .leaf (Nat.pred (Nat.div n 2))).seq fun r=> .node none .leaf r
  | .node x l r=>bif Nat.beq n 0 then .node y l r else bif Nat.beq (Nat.mod n 2) 1 then (Tr.putF y f l (Nat.div n 2)).seq fun l'=> .node x l' r else (Tr.putF y f r (Nat.pred (Nat.div n 2))).seq fun r'=> .node x l r'
def Tr.put {α:Type} (t:Tr α) (n:Nat) (y:Option α):Tr α:=Tr.putF y (n+1) t n
theorem DX (n m:Nat):Nat.mod n m=n%m:=rfl
theorem DY (n m:Nat):Nat.div n m=n/m:=rfl
theorem CY (n:Nat):Nat.pred n=n-1:=by cases n<;>rfl
theorem Bt (n m:Nat):Nat.beq n m=decide (n=m):=by
 rw [Bool.eq_iff_iff,decide_eq_true_eq,Nat.beq_eq]
theorem Tr.get_leaf {α:Type} (m:Nat):(Tr.leaf:Tr α).get m=none:=rfl
theorem Tr.get_node {α:Type} (x:Option α) (l r:Tr α) (n:Nat):(Tr.node x l r).get n=if n=0 then x else if n%2=1 then l.get (n/2) else r.get (n/2-1):=by
 simp only [Tr.get,DX,DY,CY,Bt,cond_eq_ite,decide_eq_true_eq]
theorem Tr.get_putF {α:Type} (y:Option α):∀(f:Nat) (t:Tr α) (n m:Nat),n<f->(Tr.putF y f t n).get m=if m=n then y else t.get m
 |0,_,_,_,h=>by omega
 |f+1,.leaf,n,m,h=>by
  simp only [Tr.putF,DX,DY,CY,Bt,cond_eq_ite,decide_eq_true_eq,Tr.seq_eq];split
  ·rename_i h0;subst h0;rw [Tr.get_node,Tr.get_leaf,Tr.get_leaf,Tr.get_leaf];simp
  split
  ·rw [Tr.get_node,Tr.get_putF y f .leaf _ _ (by omega)];simp only [Tr.get_leaf];by_cases hm:m=n
   ·subst hm;rw [if_pos rfl,if_neg (by omega),if_pos (by omega),if_pos rfl]
   rw [if_neg hm];split<;>try rfl
   split<;>try rfl
   rw [if_neg (by omega)]
  rw [Tr.get_node,Tr.get_putF y f .leaf _ _ (by omega)];simp only [Tr.get_leaf];by_cases hm:m=n
  ·subst hm;rw [if_pos rfl,if_neg (by omega),if_neg (by omega),if_pos rfl]
  rw [if_neg hm];split<;>try rfl
  split<;>try rfl
  rw [if_neg (by omega)]
 |f+1,.node x l r,n,m,h=>by
  simp only [Tr.putF,DX,DY,CY,Bt,cond_eq_ite,decide_eq_true_eq,Tr.seq_eq];split
  ·rename_i h0;subst h0;rw [Tr.get_node,Tr.get_node];split<;>rfl
  split
  ·rw [Tr.get_node,Tr.get_node,Tr.get_putF y f l _ _ (by omega)];by_cases hm:m=n
   ·subst hm;rw [if_pos rfl,if_neg (by omega),if_pos (by omega),if_pos rfl]
   rw [if_neg hm];split<;>try rfl
   split<;>try rfl
   rw [if_neg (by omega)]
  rw [Tr.get_node,Tr.get_node,Tr.get_putF y f r _ _ (by omega)];by_cases hm:m=n
  ·subst hm;rw [if_pos rfl,if_neg (by omega),if_neg (by omega),if_pos rfl]
  rw [if_neg hm];split<;>try rfl
  split<;>try rfl
  rw [if_neg (by omega)]
theorem Tr.get_put {α:Type} (t:Tr α) (n:Nat) (y:Option α) (m:Nat):(t.put n y).get m=if m=n then y else t.get m:=Tr.get_putF y (n+1) t n m (by omega)
structure ES where
 tm:Tr AV
 H:Tr Blk
 nx:Nat
def ES.tmF (s:ES):Nat->AV:=fun t=>(s.tm.get t).getD .dead
def ES.hF (s:ES):Hp:=fun nm=>s.H.get nm
def ES.st (nb:Nat) (s:ES):St:=⟨s.tmF,s.hF,s.nx,nb⟩
def ES.putT (s:ES) (d:Nat) (x:AV):ES:=⟨s.tm.put d (some x),s.H,s.nx⟩
def ES.putH (s:ES) (nm:Nat) (B:Blk):ES:=⟨s.tm,s.H.put nm (some B),s.nx⟩
theorem ES.tmF_put (s:ES) (d:Nat) (x:AV):(s.putT d x).tmF=up s.tmF d x:=by
 funext t;simp only [ES.tmF,ES.putT,Tr.get_put,aj];split<;>rfl
theorem Ax (H:Tr Blk) (nm:Nat) (B:Option Blk):(fun n=>(H.put nm B).get n)=up (fun n=>H.get n) nm B:=by
 funext n;simp only [Tr.get_put,aj]
theorem ES.hF_put (s:ES) (nm:Nat) (B:Blk):(s.putH nm B).hF=up s.hF nm (some B):=Ax s.H nm (some B)
theorem Rel.nb {e:En} {k0:Kx} {N:Nat} {tm:Nat->AV} {H:Hp} {nx nb:Nat} {a:Act} {w:World} (hr:Rel e k0 N ⟨tm,H,nx,nb⟩ a w) (nb':Nat):Rel e k0 N ⟨tm,H,nx,nb'⟩ a w:=⟨hr.ex,hr.df,hr.sz⟩
theorem RW.later {e:En} {H:Hp} {nx nx':Nat} {σ:Nat->Value} {w:World} (h:RW e H nx σ w) (hn:nx<=nx'):RW e H nx' σ w/\Ext (kx e H nx σ w) (kx e H nx' σ w):=by
 have hext:Ext (kx e H nx σ w) (kx e H nx' σ w):=⟨hn,fun b hb=>⟨⟨hb.1,hb.2.1,hb.2.2⟩,rfl⟩,fun nm B hB=> .inr ⟨B,hB,rfl,rfl,rfl,rfl⟩⟩;exact ⟨⟨h.bel,h.hT,fun nm B hB=>⟨Nat.lt_of_lt_of_le (h.blk nm B hB).1 hn,(h.blk nm B hB).2.kept (row:=none) ⟨rfl,rfl,rfl,Nat.le_refl _,fun _ _ _=>rfl⟩ (Classical.em _) rfl rfl hext⟩,h.inj⟩,hext⟩
theorem Rel.later {e:En} {k0:Kx} {N:Nat} {tm:Nat->AV} {H:Hp} {nx nx' nb:Nat} {a:Act} {w:World} (hr:Rel e k0 N ⟨tm,H,nx,nb⟩ a w) (hn:nx<=nx'):Rel e k0 N ⟨tm,H,nx',nb⟩ a w:=by
 obtain ⟨σ,h1,h2,h3⟩:=hr.ex;obtain ⟨k1,k2⟩:=h1.later hn;exact ⟨⟨σ,k1,fun t=>dz k2 (h2 t),h3.trans k2⟩,hr.df,hr.sz⟩
def AH (st:St) (nm s:Nat):Bool:=match st.H nm with
 |some B=>Nat.beq B.st s
 |none=>false
theorem d4 {st:St} {nm s:Nat} (h:AH st nm s=true):∃B,st.H nm=some B/\B.st=s:=by
 unfold AH at h;split at h
 ·rename_i B hB;exact ⟨B,hB,Nat.eq_of_beq_eq_true h⟩
 cases h
def inB (n:Int):Bool:=decide (-9223372036854775808<=n)&&decide (n<=9223372036854775807)
theorem CZ {n:Int} (h:inB n=true):inK .i64 n:=by
 have h1:IntKind.i64.min= -9223372036854775808:=by decide
 have h2:IntKind.i64.max=9223372036854775807:=by decide
 unfold inB at h;simp only [Bool.and_eq_true,decide_eq_true_eq] at h;unfold inK;rw [h1,h2];exact h
def FV:IntKind->Bool
 | .i64=>true
 |_=>false
def qL (P:Program) (st:St):Op->Bool
 | .fieldAddr _ x _=>match ev st x with
  | .val (.one (.ptr nm s' _))=>AH st nm s'
  |_=>true
 | .indexAddr t x ix=>match ev st x,ev st ix,elT P t,arT P t with
  | .val (.one (.own nm s' n sz)),.val (.one (.lit (.int _ i))),some (_,sz',_),_=>Nat.beq sz sz'&&(decide (0<=i)&&(decide (i<n)&&AH st nm s'))
  | .val (.one (.sh sz n _)),.val (.one (.lit (.int _ i))),some (_,sz',_),_=>Nat.beq sz sz'&&(decide (0<=i)&&decide (i<n))
  | .val (.one (.ptr nm s' _)),.val (.one (.lit (.int _ i))),_,some (n,_,_)=>decide (0<=i)&&(decide (i<n)&&AH st nm s')
  | .val (.one (.sp _)),.val (.one (.lit (.int _ i))),_,some (n,_,_)=>decide (0<=i)&&decide (i<n)
  |_,_,_,_=>false
 | .load t x=>match ev st x,ldT P t with
  | .val (.one (.ptr nm s' off)),some (ag,sz)=>match st.H nm with
   |some B=>Nat.beq B.st s'&&(decide (off+sz<=B.cs.length)&&(ag||Nat.beq sz 1))
   |none=>false
  | .val (.one (.sp cs)),some (ag,sz)=>decide (sz<=cs.length)&&(ag||Nat.beq sz 1)
  |_,_=>false
 | .nilCheck x=>match ev st x with
  | .val (.one (.ptr nm s' _))=>AH st nm s'
  |_=>true
 |_=>false
section
variable {P : Program} {st : St} {p : Prop} {x : AV}
theorem C0 {ag:Bool} {sz:Nat} (h:(ag||Nat.beq sz 1)=true):ag=true∨sz=1:=by
 rcases Bool.or_eq_true_iff.1 h with h|h
 ·exact .inl h
 exact .inr (Nat.eq_of_beq_eq_true h)
theorem CB {op:Op} (hc:qL P st op=true) (h:im P st op=some (p,x)):p:=by
 cases op<;>simp only [qL,im,reduceCtorEq] at hc h;case fieldAddr s y f=>
  split at h<;>try (cases h;done)
  ·rename_i nm s' off o' ft he hf;rw [he] at hc;simp only [Option.some.injEq,Prod.mk.injEq] at h;rw [←h.1];exact d4 hc
  simp only [Option.some.injEq,Prod.mk.injEq] at h;rw [←h.1];trivial
 case indexAddr t y ix=>
  split at h<;>try (cases h;done)
  all_goals
   rename_i h1 h2 h3;simp only [Option.some.injEq,Prod.mk.injEq] at h;obtain ⟨rfl,_⟩:=h
  ·rw [h1,h2,h3] at hc;simp only [Bool.and_eq_true,decide_eq_true_eq] at hc;exact ⟨Nat.eq_of_beq_eq_true hc.1,hc.2.1,hc.2.2.1,d4 hc.2.2.2⟩
  ·rw [h1,h2,h3] at hc;simp only [Bool.and_eq_true,decide_eq_true_eq] at hc;exact ⟨Nat.eq_of_beq_eq_true hc.1,hc.2.1,hc.2.2⟩
  ·rw [h1,h2,h3] at hc;simp only [Bool.and_eq_true,decide_eq_true_eq] at hc;exact ⟨hc.1,hc.2.1,d4 hc.2.2⟩
  rw [h1,h2,h3] at hc;simp only [Bool.and_eq_true,decide_eq_true_eq] at hc;exact hc
 case load t y=>
  split at h<;>try (cases h;done)
  ·rename_i h1 h2;rw [h1,h2] at hc;split at h<;>try (cases h;done)
   rename_i B hB;simp only [hB,Bool.and_eq_true,decide_eq_true_eq] at hc;simp only [Option.some.injEq,Prod.mk.injEq] at h;obtain ⟨rfl,_⟩:=h;exact ⟨Nat.eq_of_beq_eq_true hc.1,hc.2.1,C0 hc.2.2⟩
  rename_i h1 h2;rw [h1,h2] at hc;simp only [Bool.and_eq_true,decide_eq_true_eq] at hc;simp only [Option.some.injEq,Prod.mk.injEq] at h;obtain ⟨rfl,_⟩:=h;exact ⟨hc.1,C0 hc.2⟩
 case nilCheck y=>
  split at h<;>try (cases h;done)
  ·rename_i h1;rw [h1] at hc;simp only [Option.some.injEq,Prod.mk.injEq] at h;rw [←h.1];exact d4 hc
  simp only [Option.some.injEq,Prod.mk.injEq] at h;rw [←h.1];trivial
end
def Bd (P:Program) (t:TypeId):Bool:=match P.underlying t with
 |some .bool=>true
 |_=>false
theorem BM {P:Program} {t:TypeId} (h:Bd P t=true):P.underlying t=some .bool:=by
 unfold Bd at h;split at h
 ·assumption
 cases h
def AI (P:Program) (t:TypeId):Bool:=match P.underlying t with
 |some .string=>true
 |_=>false
theorem q9 {P:Program} {t:TypeId} (h:AI P t=true):P.underlying t=some .string:=by
 unfold AI at h;split at h
 ·assumption
 cases h
def Cf (P:Program) (op:BinOp) (t:TypeId):Value->Value->Bool
 | .int k a,.int _ b=>match op with
  | .shl=>decide (0<=b)
  | .shr=>decide (0<=b)
  | .add=> !(FV k)||inB (a+b)
  | .sub=> !(FV k)||inB (a-b)
  | .mul=> !(FV k)||inB (a*b)
  | .quo=> !(decide (b=0))
  | .rem=> !(decide (b=0))
  |_=>true
 | .bool _,.bool _=>Bd P t
 |_,_=>true
section
variable {P : Program} {st : St} {p : Prop} {x : AV}
theorem Cg {k:IntKind} {n:Int} {β:Type} {v v' x':β} {q:Prop} (hc:(!(FV k)||inB n)=true) (h:(if k= .i64 then some (inK k n,v) else some (True,v'))=some (q,x')):q:=by
 split at h
 ·rename_i hk;subst hk;simp only [Option.some.injEq,Prod.mk.injEq] at h;rw [←h.1];exact CZ (by simpa [FV] using hc)
 simp only [Option.some.injEq,Prod.mk.injEq] at h;rw [←h.1];trivial
theorem C3 {op:BinOp} {t:TypeId} {u v r:Value} (hc:Cf P op t u v=true) (h:kF P op t u v=some (p,r)):p:=by
 cases u<;>try (simp only [kF] at h;cases h;done)
 ·cases v<;>try (simp only [kF] at h;cases h;done)
  simp only [Cf] at hc;cases op<;>simp only [kF] at h<;>try (cases h;done)
  all_goals
   simp only [Option.some.injEq,Prod.mk.injEq] at h;rw [←h.1];exact BM hc
 ·cases v<;>try (simp only [kF] at h;cases h;done)
  cases op<;>simp only [kF,Cf,decide_eq_true_eq,Bool.not_eq_true',decide_eq_false_iff_not] at h hc;all_goals try (simp only [Option.some.injEq,Prod.mk.injEq] at h;rw [←h.1];first|exact hc|trivial)
  all_goals (split at h;· cases h)
  all_goals first
   |exact Cg hc h
   |(simp only [Option.some.injEq,Prod.mk.injEq] at h;rw [←h.1];first|exact hc|trivial)
   |cases h
 cases v<;>try (simp only [kF] at h;cases h;done)
 cases op<;>simp only [kF] at h<;>try (cases h;done)
 all_goals (simp only [Option.some.injEq,Prod.mk.injEq] at h;rw [←h.1];trivial)
end
def l6 (st:St):Option Operand->Bool
 |none=>true
 |some x=>match ev st x with
  | .val (.one (.lit (.int _ i)))=>decide (0<=i)
  |_=>false
theorem dr {st:St} {x:Option Operand} {d n:Nat} {p:Prop} (hc:l6 st x=true) (h:bnd st x d=some (p,n)):p:=by
 unfold bnd at h;split at h
 ·simp only [Option.some.injEq,Prod.mk.injEq] at h;rw [←h.1];trivial
 rename_i y;simp only [l6] at hc;split at h<;>try (cases h;done)
 rename_i he;rw [he] at hc;simp only [Option.some.injEq,Prod.mk.injEq] at h;rw [←h.1];exact of_decide_eq_true hc
def AJ (place:Nat->Option (Nat×Nat)):List C->List (Nat×AV)->Bool
 |_,[]=>true
 |cs,(i,x)::rest=>match place i,cellsOf x with
  |some (off,size),some ds=>Nat.beq ds.length size&&(decide (off+size<=cs.length)&&AJ place (spl cs off ds) rest)
  |_,_=>false
theorem rk {place:Nat->Option (Nat×Nat)}:∀{parts:List (Nat×AV)} {cs r:List C} {p:Prop},AJ place cs parts=true->j6 place cs parts=some (p,r)->p
 |[],cs,r,p,_,h=>by
  simp only [j6,Option.some.injEq,Prod.mk.injEq] at h;rw [←h.1];trivial
 |(i,x)::rest,cs,r,p,hc,h=>by
  simp only [j6] at h;simp only [AJ] at hc;split at h<;>try (cases h;done)
  rename_i off size ds h1 h2;rw [h1,h2] at hc;simp only [Bool.and_eq_true,decide_eq_true_eq] at hc;split at h<;>try (cases h;done)
  rename_i q r' h3;simp only [Option.some.injEq,Prod.mk.injEq] at h;rw [←h.1];exact ⟨⟨Nat.eq_of_beq_eq_true hc.1,hc.2.1⟩,rk hc.2.2 h3⟩
def Ch (P:Program) (eqT:TypeId->List Value->List Value->Bool) (st:St):Op->Bool
 | .move _=>true
 | .assign _=>true
 | .pick .. =>true
 | .field xt x f=>match ev st x,foT P xt f with
  | .val (.agg cs),some (o,ft)=>match ldT P ft with
   |some (ag,sz)=>decide (o+sz<=cs.length)&&(ag||Nat.beq sz 1)
   |none=>false
  |_,_=>false
 | .extract .. =>true
 | .binOp op t x y _=>match ev st x,ev st y with
  | .val (.one (.lit u)),.val (.one (.lit v))=>Cf P op t u v
  | .val (.agg xs),.val (.agg ys)=>match d7 xs,d7 ys with
   |some us,some vs=>eqT t us vs
   |_,_=>false
  |_,_=>false
 | .unOp .not _ _=>true
 | .unOp .neg _ x=>match ev st x with
  | .val (.one (.lit (.int k n)))=> !(FV k)||inB (0-n)
  |_=>false
 | .convert s d x=>match ev st x,P.underlying d with
  | .val (.one (.lit (.int _ n))),some (.int k)=>(!(FV k)||inB n)&&(P.underlying s).isSome
  |_,_=>false
 | .index t x ix=>match ev st x,ev st ix with
  | .val (.one (.lit (.string s))),.val (.one (.lit (.int _ i)))=>AI P t&&(decide (0<=i)&&decide (i<s.size))
  | .val (.agg cs),.val (.one (.lit (.int _ i)))=>match arT P t with
   |some (n,e,sz)=>match ldT P e with
    |some (ag,sz')=>decide (0<=i)&&(decide (i<n)&&(Nat.beq sz' sz&&(decide (i.toNat*sz+sz<=cs.length)&&(ag||Nat.beq sz 1))))
    |none=>false
   |none=>false
  |_,_=>false
 | .slice t x lo hi none=>match ev st x with
  | .val (.one (.sh sz n _))=>match elT P t,bnd st lo 0,bnd st hi n with
   |some (_,sz',_),some (_,l),some (_,h)=>Nat.beq sz sz'&&(l6 st lo&&(l6 st hi&&(decide (l<=h)&&decide (h<=n))))
   |_,_,_=>false
  | .val (.one (.lit (.string s)))=>match bnd st lo 0,bnd st hi s.size with
   |some (_,l),some (_,h)=>AI P t&&(l6 st lo&&(l6 st hi&&(decide (l<=h)&&decide (h<=s.size))))
   |_,_=>false
  |_=>false
 |_=>false
section
variable {P : Program} {eqT : TypeId → List Value → List Value → Bool} {st : St} {p : Prop} {x : AV}
theorem Bu (heq:∀t us vs,eqT t us vs=true->zg P t us vs) {op:Op} (hc:Ch P eqT st op=true) (h:jl P st op=some (p,x)):p:=by
 cases op<;>simp only [Ch,jl,reduceCtorEq] at hc h;case move=>simp only [Option.some.injEq,Prod.mk.injEq] at h;rw [←h.1];trivial
 case assign=>simp only [Option.some.injEq,Prod.mk.injEq] at h;rw [←h.1];trivial
 case pick=>
  split at h<;>try (cases h;done)
  simp only [Option.some.injEq,Prod.mk.injEq] at h;rw [←h.1];trivial
 case field xt y f=>
  split at h<;>try (cases h;done)
  rename_i h1 h2;rw [h1,h2] at hc;split at h<;>try (cases h;done)
  rename_i h3;simp only [h3,Bool.and_eq_true,decide_eq_true_eq] at hc;simp only [Option.some.injEq,Prod.mk.injEq] at h;rw [←h.1];exact ⟨hc.1,C0 hc.2⟩
 case extract=>
  split at h<;>try (cases h;done)
  split at h<;>try (cases h;done)
  simp only [Option.some.injEq,Prod.mk.injEq] at h;rw [←h.1];trivial
 case binOp op t y z yt=>
  split at h<;>try (cases h;done)
  ·rename_i u v h1 h2;rw [h1,h2] at hc;split at h<;>try (cases h;done)
   rename_i q r h3;simp only [Option.some.injEq,Prod.mk.injEq] at h;rw [←h.1];exact C3 hc h3
  rename_i xs ys h1 h2;rw [h1,h2] at hc;split at h<;>try (cases h;done)
  rename_i us vs h3 h4;simp only [h3,h4] at hc;split at h<;>try (cases h;done)
  ·simp only [Option.some.injEq,Prod.mk.injEq] at h;rw [←h.1];exact heq _ _ _ hc
  simp only [Option.some.injEq,Prod.mk.injEq] at h;rw [←h.1];exact heq _ _ _ hc
 case unOp op t y=>
  cases op<;>simp only [reduceCtorEq] at hc h
  ·split at h<;>try (cases h;done)
   rename_i h1;rw [h1] at hc;exact Cg hc h
  split at h<;>try (cases h;done)
  simp only [Option.some.injEq,Prod.mk.injEq] at h;rw [←h.1];trivial
 case convert s d y=>
  split at h<;>try (cases h;done)
  rename_i k0 n k h1 h2;rw [h1,h2] at hc;simp only [Bool.and_eq_true] at hc;split at h
  ·rename_i hk;subst hk;simp only [Option.some.injEq,Prod.mk.injEq] at h;rw [←h.1];exact ⟨CZ (by simpa [FV] using hc.1),hc.2⟩
  simp only [Option.some.injEq,Prod.mk.injEq] at h;rw [←h.1];exact hc.2
 case index t y ix=>
  split at h<;>try (cases h;done)
  ·rename_i h1 h2;rw [h1,h2] at hc;simp only [Bool.and_eq_true,decide_eq_true_eq] at hc;simp only [Option.some.injEq,Prod.mk.injEq] at h;rw [←h.1];exact ⟨q9 hc.1,hc.2.1,hc.2.2⟩
  rename_i h1 h2;rw [h1,h2] at hc;split at h<;>try (cases h;done)
  rename_i h3;split at h<;>try (cases h;done)
  rename_i h4;simp only [h3,h4,Bool.and_eq_true,decide_eq_true_eq] at hc;simp only [Option.some.injEq,Prod.mk.injEq] at h;rw [←h.1];exact ⟨hc.1,hc.2.1,Nat.eq_of_beq_eq_true hc.2.2.1,hc.2.2.2.1,C0 hc.2.2.2.2⟩
 case slice t y lo hi mx=>
  cases mx<;>simp only [reduceCtorEq] at hc h;split at h<;>try (cases h;done)
  ·rename_i h1;rw [h1] at hc;split at h<;>try (cases h;done)
   rename_i h2 h3 h4;simp only [h2,h3,h4,Bool.and_eq_true,decide_eq_true_eq] at hc;simp only [Option.some.injEq,Prod.mk.injEq] at h;rw [←h.1];exact ⟨Nat.eq_of_beq_eq_true hc.1,dr hc.2.1 h3,dr hc.2.2.1 h4,hc.2.2.2.1,hc.2.2.2.2⟩
  rename_i h1;rw [h1] at hc;split at h<;>try (cases h;done)
  rename_i h3 h4;simp only [h3,h4,Bool.and_eq_true,decide_eq_true_eq] at hc;simp only [Option.some.injEq,Prod.mk.injEq] at h;rw [←h.1];exact ⟨q9 hc.1,dr hc.2.1 h3,dr hc.2.2.1 h4,hc.2.2.2.1,hc.2.2.2.2⟩
end
def C4 (P:Program) (st:St) (c:Call):Bool:=match c.args.toList,c.argTypes.toList with
 |[x],[t]=>match ev st x with
  | .val (.one (.lit (.string _)))=>AI P t
  | .val (.one (.own nm s' _ sz))=> !(Nat.beq sz 0)&&AH st nm s'
  |_=>true
 |_,_=>false
def ckB (P:Program) (eqT:TypeId->List Value->List Value->Bool) (st:St) (op:Op):Bool:=match op with
 | .build t parts=>match zrT P t,plT P t with
  |some zs,some ps=>AJ (fun i=>ps[i]?) (zs.map .lit) (parts.toList.map fun q=>(q.1,ev st q.2))
  |_,_=>false
 | .lookup .. =>false
 | .slice t x lo hi none=>(match ev st x with
  | .val (.one (.lit (.slice none 0 0)))=>match bnd st lo 0,bnd st hi 0 with
   |some (_,l),some (_,h)=>l6 st lo&&(l6 st hi&&(Nat.beq l 0&&Nat.beq h 0))
   |_,_=>false
  |_=>Ch P eqT st (.slice t x lo hi none))
 | .call {callee:= .builtin .cap,..}=>true
 | .call {callee:= .builtin .min,..}=>true
 | .call {callee:= .builtin .max,..}=>true
 | .call {callee:= .builtin .len,args,argTypes}=>C4 P st {callee:= .builtin .len,args,argTypes}
 | .fieldAddr s x f=>qL P st (.fieldAddr s x f)
 | .indexAddr t x i=>qL P st (.indexAddr t x i)
 | .load t x=>qL P st (.load t x)
 | .nilCheck x=>qL P st (.nilCheck x)
 |op=>Ch P eqT st op
section
variable {P : Program} {eqT : TypeId → List Value → List Value → Bool} {st : St} {p : Prop} {x : AV}
theorem C5 {args:Array Operand} {argTypes:Array TypeId} (hc:C4 P st {callee:= .builtin .len,args,argTypes}=true) (h:io P st {callee:= .builtin .len,args,argTypes}=some (p,x)):p:=by
 simp only [io] at h;simp only [C4] at hc;split at h<;>try (cases h;done)
 rename_i y t h1 h2;simp only [h1,h2] at hc;split at h
 ·rename_i h3;rw [h3] at hc;simp only [Option.some.injEq,Prod.mk.injEq] at h;rw [←h.1];exact q9 hc
 split at h<;>try (cases h;done)
 simp only [Option.some.injEq,Prod.mk.injEq] at h;rw [←h.1];split
 ·rename_i h3;rw [h3] at hc;simp only [Bool.and_eq_true,Bool.not_eq_true'] at hc;refine ⟨fun h0=>?_,d4 hc.2⟩;subst h0;exact absurd hc.1 (by decide)
 trivial
theorem DZ (heq:∀t us vs,eqT t us vs=true->zg P t us vs) {op:Op} (hc:ckB P eqT st op=true) (h:d8 P st op=some (p,x)):p:=by
 unfold d8 at h;split at h
 ·unfold gx at h;simp only [ckB] at hc;split at h<;>try (cases h;done)
  rename_i h1 h2;simp only [h1,h2] at hc;split at h<;>try (cases h;done)
  rename_i h3;simp only [Option.some.injEq,Prod.mk.injEq] at h;rw [←h.1];exact rk hc h3
 ·simp [ckB] at hc
 ·rename_i t y lo hi;simp only [ckB] at hc;unfold orS at h;split at h
  ·rename_i r hn;obtain rfl:=Option.some.inj h;unfold jp at hn;split at hn<;>try (cases hn;done)
   rename_i h1 h2 h3 h4;simp only [h1,h3,h4,Bool.and_eq_true] at hc;simp only [Option.some.injEq,Prod.mk.injEq] at hn;rw [←hn.1];exact ⟨dr hc.1 h3,dr hc.2.1 h4,Nat.eq_of_beq_eq_true hc.2.2.1,Nat.eq_of_beq_eq_true hc.2.2.2⟩
  have h':jl P st (.slice t y lo hi none)=some (p,x):=h;split at hc
  ·rename_i he;simp only [jl,he] at h';cases h'
  exact Bu heq hc h'
 ·unfold jn at h;split at h<;>try (cases h;done)
  split at h<;>try (cases h;done)
  simp only [Option.some.injEq,Prod.mk.injEq] at h;rw [←h.1];trivial
 ·unfold jo at h;split at h<;>try (cases h;done)
  split at h<;>try (cases h;done)
  simp only [Option.some.injEq,Prod.mk.injEq] at h;rw [←h.1];trivial
 ·unfold jo at h;split at h<;>try (cases h;done)
  split at h<;>try (cases h;done)
  simp only [Option.some.injEq,Prod.mk.injEq] at h;rw [←h.1];trivial
 rename_i h1 h2 h3 h4 h5 h6;cases op with
 |call c=>
  obtain ⟨callee,args,argTypes⟩:=c;have h0:=h;simp only [og,io] at h0;split at h0<;>try (cases h0;done)
  exact C5 hc h
 |build t ps=>exact (h1 t ps rfl).elim
 |lookup t m k ok=>exact (h2 t m k ok rfl).elim
 |slice t y lo hi mx=>
  cases mx with
  |none=>exact (h3 t y lo hi rfl).elim
  |some mx=>
   simp only [og,jl,reduceCtorEq] at h
 |_=>
  simp only [ckB] at hc;simp only [og] at h;first
   |exact CB hc h
   |exact Bu heq hc h
end
def AX:AV->Option (Nat×Nat×Nat×Nat×Nat)
 | .val (.one (.own nm s n sz))=>some (nm,s,0,n,sz)
 | .val (.one (.vw nm s off n sz))=>some (nm,s,off,n,sz)
 |_=>none
section
variable {P : Program} {e : En} {k0 : Kx} {N : Nat} {st : St} {a : Act} {w : World} {σ : Nat → Value} {o : Oper} {x : AV}
theorem r6 (hW:RW e st.H st.nx σ w) {v:Value} {y:AV} {nm s off n sz:Nat} (hv:aG (kx e st.H st.nx σ w) v y) (hy:AX y=some (nm,s,off,n,sz)) {B:Blk} (hB:st.H nm=some B) (hs:B.st=s) (hsz:sz≠0):
  ∃ad cap xs,v= .slice ad n cap/\n<=cap/\cap<=maxLen/\B.sz=sz/\off+n<=B.n/\(off=0->σ nm= .slice ad B.n cap)/\(n=0∨∃b,(σ nm).ownBlock=some b/\ad=some ⟨b,off*sz,none⟩)/\
   B.cs.length=B.n*B.sz/\w.ownsRow e.w0.heap.size B.E B.sz (σ nm) B.n xs/\denVs (kx e st.H st.nx σ w) xs B.cs/\(ad=none->cap=0):=by
 have row:B.sz=sz->∃ad cap xs,σ nm= .slice ad B.n cap/\B.n<=cap/\cap<=maxLen/\(B.n=0∨∃b,(σ nm).ownBlock=some b/\ad=some ⟨b,0,none⟩)/\B.cs.length=B.n*B.sz/\w.ownsRow e.w0.heap.size B.E B.sz (σ nm) B.n xs/\denVs (kx e st.H st.nx σ w) xs B.cs/\(ad=none->cap=0):=fun hz=>by
  obtain ⟨_,h2,xs,h3,h4⟩:=hW.rowOf hB (.inl (by rw [hz];exact hsz));rcases h3.2 with ⟨q1,q2⟩|⟨g,cap,cur,q1,q2,q3,q4,q5,q6,q7⟩
  ·exact ⟨none,0,xs,by rw [q2];exact q1,by omega,by unfold maxLen;omega,.inl q2,h2,h3,h4,fun _=>rfl⟩
  exact ⟨_,cap,xs,q1,q4,q5,.inr ⟨g,by rw [q1];rfl,rfl⟩,h2,h3,h4,fun h=>by cases h⟩
 unfold AX at hy;split at hy<;>try (cases hy;done)
 ·simp only [Option.some.injEq,Prod.mk.injEq] at hy;obtain ⟨rfl,rfl,rfl,rfl,rfl⟩:=hy;simp only [aG,bb,den] at hv;obtain ⟨h1,h2,h3⟩:=hv.2.2 B hB hs;obtain ⟨ad,cap,xs,r1,r2,r3,r4,r5⟩:=row h3;subst h2;exact ⟨ad,cap,xs,h1.trans r1,r2,r3,h3,by omega,fun _=>r1,by simpa using r4,r5⟩
 simp only [Option.some.injEq,Prod.mk.injEq] at hy;obtain ⟨rfl,rfl,rfl,rfl,rfl⟩:=hy;simp only [aG,bb,den] at hv;obtain ⟨ad,cap,h1,h2,h3,h6,h4,h5⟩:=hv;obtain ⟨k1,k2,k3⟩:=h5 B hB hs;obtain ⟨ad',cap',xs,r1,r2,r3,r4,r5⟩:=row k1;rcases k3 with ⟨k3,k4⟩|⟨k3,k4⟩
 ·subst k3;have k4':σ _= .slice ad B.n cap:=k4;rw [r1] at k4';simp only [Value.slice.injEq,true_and] at k4';obtain ⟨rfl,rfl⟩:=k4';refine ⟨_,_,xs,h1,h2,h3,k1,k2,fun _=>r1,?_,r5⟩;rcases r4 with r4|⟨b,q1,q2⟩
  ·exact .inl (by omega)
  exact .inr ⟨b,q1,by simpa using q2⟩
 exact ⟨ad,cap,xs,h1,h2,h3,k1,k2,fun h=>(k3 h).elim,k4,r5.1,r5.2.1,r5.2.2.1,h6⟩
end
def shs:List A1->List (Option Nat)
 |[]=>[]
 | .one _::l=>none::shs l
 | .agg cs::l=>some cs.length::shs l
def css:List A1->List C
 |[]=>[]
 | .one c::l=>c::css l
 | .agg cs::l=>cs++css l
def CC:List (Option Nat)->List C->List A1
 |none::s,c::cs=> .one c::CC s cs
 |some k::s,cs=> .agg (cs.take k)::CC s (cs.drop k)
 |_,_=>[]
theorem BO {κ:Kx}:∀{l:List A1} {vs:List Value},cz κ vs l->∃us,shp (shs l) vs us/\denVs κ us (css l)
 |[],[],_=>⟨[],rfl,trivial⟩
 |[],_::_,h=>h.elim
 |_::_,[],h=>h.elim
 | .one c::l,v::vs,h=>by
  obtain ⟨us,h1,h2⟩:=BO h.2;exact ⟨v::us,⟨us,rfl,h1⟩,h.1,h2⟩
 | .agg cs::l,v::vs,h=>by
  obtain ⟨us,h1,h2⟩:=BO h.2;obtain ⟨xs,h3,h4⟩:=h.1;exact ⟨xs++us,⟨xs,us,h3,h4.length,rfl,h1⟩,h4.append h2⟩
theorem Be {κ:Kx}:∀{sh:List (Option Nat)} {vs us:List Value} {cs:List C},shp sh vs us->denVs κ us cs->cz κ vs (CC sh cs)
 |[],[],us,cs,_,_=>by simp [CC,cz]
 |[],_::_,_,_,h,_=>h.elim
 |none::_,[],_,_,h,_=>h.elim
 |some _::_,[],_,_,h,_=>h.elim
 |none::s,v::vs,us,cs,h,hd=>by
  obtain ⟨us',rfl,h1⟩:=h;cases cs with
  |nil=>exact hd.elim
  |cons c cs=>exact ⟨hd.1,Be h1 hd.2⟩
 |some k::s,v::vs,us,cs,h,hd=>by
  obtain ⟨l,us',h1,h2,rfl,h3⟩:=h;have e1:(l++us').take k=l:=List.take_left' h2;have e2:(l++us').drop k=us':=List.drop_left' h2;have d1:=hd.take k;have d2:=hd.drop k;rw [e1] at d1;rw [e2] at d2;simp only [CC];exact ⟨⟨l,h1,d1⟩,Be h3 d2⟩
def Dq (st:St) (x:Operand):Option Bool:=match ev st x with
 | .val (.one (.lit (.slice none 0 0)))=>some true
 | .val (.one (.sh _ n _))=>if Nat.beq n 0 then none else some false
 | .val (.one (.own nm s n sz))=>if Nat.beq n 0||Nat.beq sz 0|| !(AH st nm s) then none else some false
 | .val (.one (.vw nm s _ n sz))=>if Nat.beq n 0||Nat.beq sz 0|| !(AH st nm s) then none else some false
 |_=>none
theorem Ci {e:En} {st:St} {a:Act} {w:World} {σ:Nat->Value} (hW:RW e st.H st.nx σ w) (ht:∀t,aG (kx e st.H st.nx σ w) (a.tmps.getD t undef) (st.tm t)) {x:Operand} {b:Bool} (h:Dq st x=some b):
  ∃ad n c,a.eval x= .slice ad n c/\ad.isNone=b:=by
 have hx:=bc ht x;unfold Dq at h;split at h<;>try (cases h;done)
 ·rename_i he;rw [he] at hx;simp only [aG,bb,den] at hx;obtain rfl:=Option.some.inj h;exact ⟨none,0,0,hx.1,rfl⟩
 ·rename_i sz n cs he;rw [he] at hx;split at h<;>try (cases h;done)
  rename_i hn;obtain rfl:=Option.some.inj h;simp only [aG,bb,den] at hx;obtain ⟨ad,cap,h1,h2,h3,h4,_⟩:=hx;refine ⟨ad,n,cap,h1,?_⟩;cases ad with
  |none=>
   have:=h4 rfl;have:n=0:=by omega
   subst this;exact absurd rfl hn
  |some _=>rfl
 all_goals
  rename_i he;rw [he] at hx;split at h<;>try (cases h;done)
  rename_i hn;obtain rfl:=Option.some.inj h;simp only [Bool.or_eq_true,Bool.not_eq_true',not_or,Bool.not_eq_true,Bool.not_eq_false] at hn;obtain ⟨⟨hn1,hn2⟩,hn3⟩:=hn;obtain ⟨B,hB,hs⟩:=d4 hn3;have hsz:∀z:Nat,Nat.beq z 0=false->z≠0:=fun z hz h0=>by subst h0;cases hz
  obtain ⟨ad,cap,xs,h1,_,_,_,_,_,h7,_⟩:=r6 hW hx rfl hB hs (hsz _ hn2);refine ⟨ad,_,cap,h1,?_⟩;obtain ⟨b,_,h8⟩:=h7.resolve_left (hsz _ hn1);rw [h8];rfl
def BP (P:Program) (st:St):Op->Option AV
 | .indexAddr t x ix=>match ev st x,ev st ix,elT P t with
  | .val (.one (.vw nm s off n sz)),.val (.one (.lit (.int _ i))),some (_,sz',_)=>
   if Nat.beq sz sz'&&(!(Nat.beq sz 0)&&(decide (0<=i)&&(decide (i<n)&&AH st nm s))) then some (.val (.one (.ptr nm s ((off+i.toNat)*sz)))) else none
  |_,_,_=>none
 | .slice t x lo hi none=>match AX (ev st x),elT P t with
  |some (nm,s,off,n,sz),some (_,sz',_)=>match bnd st lo 0,bnd st hi n with
   |some (_,l),some (_,h)=>if Nat.beq sz sz'&&(!(Nat.beq sz 0)&&(l6 st lo&&(l6 st hi&&(decide (l<=h)&&(decide (h<=n)&&AH st nm s))))) then some (.val (.one (.vw nm s (off+l) (h-l) sz))) else none
   |_,_=>none
  |_,_=>none
 | .makeFunc (.func f) first captured=>match first.toList,kP (captured.toList.map (ev st)) with
  |[],some l=>some (.val (.one (.clo f (shs l) (css l))))
  |_,_=>none
 | .binOp .eql t x (.const (.slice none 0 0)) _=>match elT P t,Dq st x with
  |some _,some b=>some (one (.bool b))
  |_,_=>none
 | .binOp .neq t x (.const (.slice none 0 0)) _=>match elT P t,Dq st x with
  |some _,some b=>some (one (.bool (!b)))
  |_,_=>none
 | .call {callee:= .builtin .len,args,argTypes}=>match args.toList,argTypes.toList with
  |[x],[t]=>match ev st x,elT P t with
   | .val (.one (.vw _ _ _ n _)),some _=>some (one (.int .i64 n))
   |_,_=>none
  |_,_=>none
 |_=>none
section
variable {P : Program} {e : En} {k0 : Kx} {N : Nat} {st : St} {a : Act} {w : World} {σ : Nat → Value} {o : Oper} {x : AV}
theorem A3 {t E:TypeId} {ad:Option Addr} {n c:Nat} (hu:P.underlying t=some (.slice E)) (w:World):(Op.equal t (.slice ad n c) (.slice none 0 0)).run P w= .ok ad.isNone w:=run_equal_slice_nil (P:=P) w t E ad n c hu
theorem Av {z:Nat} (h:Nat.beq z 0=false):z≠0:=fun h0=>by subst h0;cases h
theorem CD (hW:RW e st.H st.nx σ w) (ht:∀t,aG (kx e st.H st.nx σ w) (a.tmps.getD t undef) (st.tm t)) (h:BP P st o.op=some x):Yl P o a w (kx e st.H st.nx σ w) x:=by
 generalize hop:o.op=op at h;unfold BP at h;split at h<;>try (cases h;done)
 ·rename_i t y ix;have hy:=bc ht y;have hx:=bc ht ix;split at h<;>try (cases h;done)
  rename_i nm s off n sz k i E sz' by_ h1 h2 h3;split at h<;>try (cases h;done)
  rename_i hc;obtain rfl:=Option.some.inj h;simp only [Bool.and_eq_true,Bool.not_eq_true',decide_eq_true_eq] at hc;obtain ⟨c1,c2,c3,c4,c5⟩:=hc;have c1:=Nat.eq_of_beq_eq_true c1;subst c1;obtain ⟨B,hB,hs⟩:=d4 c5;rw [h1] at hy;rw [h2] at hx;simp only [aG,bb,den] at hx;obtain ⟨ad,cap,xs,k1,k2,k3,k4,k5,k6,k7,_⟩:=r6 hW hy rfl hB hs (Av c2);obtain ⟨b,q1,q2⟩:=k7.resolve_left (by omega);subst q2;have hlt:s<st.nx:=hs▸(hW.blk nm B hB).1;refine ⟨.pointer (some ⟨b,off*sz+i.toNat*sz,none⟩),fun w' _=>?_,?_⟩
  ·simp only [execOp,hop,k1,hx.1,Sem.run_bind,j5 h3 k i b (off*sz) n cap c3 c4 w',Result.andThen_ok,Sem.run_pure]
  simp only [aG,bb,den];refine ⟨rfl,hlt,fun B' hB' _=>⟨b,q1,?_⟩⟩;rw [Nat.add_mul]
 ·rename_i t y lo hi;have hy:=bc ht y;split at h<;>try (cases h;done)
  rename_i nm s off n sz E sz' by_ h1 h2;split at h<;>try (cases h;done)
  rename_i p1 l p2 hh hb1 hb2;split at h<;>try (cases h;done)
  rename_i hc;obtain rfl:=Option.some.inj h;simp only [Bool.and_eq_true,Bool.not_eq_true',decide_eq_true_eq] at hc;obtain ⟨c1,c2,c3,c4,c5,c6,c7⟩:=hc;have c1:=Nat.eq_of_beq_eq_true c1;subst c1;obtain ⟨B,hB,hs⟩:=d4 c7;have hp1:=dr c3 hb1;have hp2:=dr c4 hb2;obtain ⟨ad,cap,xs,k1,k2,k3,k4,k5,k6,k7,_,_,_,k11⟩:=r6 hW hy h1 hB hs (Av c2);obtain ⟨g1,j,g2,g3,_⟩:=dZ h2;have hlt:s<st.nx:=hs▸(hW.blk nm B hB).1;have e1:∀w',(Instr.sliceBounds true n cap (lo.map a.eval) (hi.map a.eval) none).run P w'= .ok (l,hh,cap) w':=fun w'=>by
   have f2:(0:Int)<=(hh:Int)/\(hh:Int)<=(cap:Int):=⟨by omega,by omega⟩;have f1:(0:Int)<=(l:Int)/\(l:Int)<=(hh:Int):=⟨by omega,by omega⟩;rcases jG ht hb1 hp1 with ⟨rfl,rfl⟩|⟨z1,k1,rfl,q1⟩<;>rcases jG ht hb2 hp2 with ⟨rfl,rfl⟩|⟨z2,k2,rfl,q2⟩
   ·simp [Instr.sliceBounds]
   ·simp only [Instr.sliceBounds,Option.map_some,Option.map_none,q2,Instr.sliceBound,asIntOf,Sem.run_bind,Sem.run_pure,Result.andThen_ok,Sem.run_ite,if_pos f2,Int.toNat_natCast]
   ·simp only [Instr.sliceBounds,Option.map_some,Option.map_none,q1,Instr.sliceBound,asIntOf,Sem.run_bind,Sem.run_pure,Result.andThen_ok,Sem.run_ite,if_pos f1,Int.toNat_natCast]
   simp only [Instr.sliceBounds,Option.map_some,q1,q2,Instr.sliceBound,asIntOf,Sem.run_bind,Sem.run_pure,Result.andThen_ok,Sem.run_ite,if_pos f1,if_pos f2,Int.toNat_natCast]
  refine ⟨.slice (if cap=l then ad else ad.map (·.add (l*sz))) (hh-l) (cap-l),fun w' _=>?_,?_⟩
  ·simp only [execOp,hop,k1,Sem.run_bind,Instr.sliceAt,run_underlying g1,Result.andThen_ok,Instr.slice,e1 w',sizeOf,typeInfo,run_program,g2,g3,Sem.run_pure,Option.map_none]
  simp only [aG,bb,den];refine ⟨_,_,rfl,by omega,by omega,fun hnone=>?_,hlt,fun B' hB' _=>?_⟩
  ·split at hnone
   ·omega
   cases ad with
   |none=>have:=k11 rfl;omega
   |some q=>simp at hnone
  have hBB:st.H nm=some B':=hB';rw [hB] at hBB;cases hBB;refine ⟨k4,by omega,?_⟩;by_cases h0:off+l=0
  ·have hl:l=0:=by omega
   have ho:off=0:=by omega
   subst hl;subst ho;refine .inl ⟨rfl,?_⟩;have e2:(if cap=0 then ad else ad.map (·.add (0*sz)))=ad:=by
    split
    ·rfl
    cases ad with
    |none=>rfl
    |some q=>simp [Addr.add]
   rw [e2,Nat.sub_zero];exact k6 rfl
  refine .inr ⟨h0,?_⟩;by_cases hz:hh-l=0
  ·exact .inl hz
  obtain ⟨b,q1,q2⟩:=k7.resolve_left (by omega);refine .inr ⟨b,q1,?_⟩;rw [if_neg (by omega),q2];simp [add_lit,Nat.add_mul]
 ·rename_i f first captured
  split at h<;>try (cases h;done)
  rename_i l h1 h2;obtain rfl:=Option.some.inj h;have hr:=rA (κ:=kx e st.H st.nx σ w) (vs:=captured.toList.map a.eval) (by
   refine ⟨by simp,fun i h h'=>?_⟩;simp only [List.getElem_map];exact bc ht _) h2
  obtain ⟨us,g1,g2⟩:=BO hr;have hf:first= #[]:=Array.toList_inj.1 h1
  refine ⟨.func (.func f) #[] (captured.toList.map a.eval).toArray,fun w' _=>?_,?_⟩
  ·have e1:Array.map a.eval captured=(List.map a.eval captured.toList).toArray:=by rw [←Array.toList_map,Array.toArray_toList]
   simp [execOp,hop,Instr.makeFunc,hf];exact e1
  simp only [aG,bb,den];exact ⟨_,us,rfl,g1,o4.2 g2⟩
 ·rename_i t y yt;split at h<;>try (cases h;done)
  rename_i el b h1 h2;obtain rfl:=Option.some.inj h;obtain ⟨ad,n,c,k1,rfl⟩:=Ci hW ht h2;obtain ⟨E,sz,by_⟩:=el;refine ⟨.bool ad.isNone,fun w' _=>?_,by simp only [aG,bb,den];exact ⟨trivial,rfl⟩⟩;have he:=A3 (P:=P) (ad:=ad) (n:=n) (c:=c) (dZ h1).1 w';have e1:a.eval (.const (.slice none 0 0))= .slice none 0 0:=rfl;simp only [execOp,hop];rw [k1,e1,eqGuard_at_slice];simp [binOp,he]
 ·rename_i t y yt;split at h<;>try (cases h;done)
  rename_i el b h1 h2;obtain rfl:=Option.some.inj h;obtain ⟨ad,n,c,k1,rfl⟩:=Ci hW ht h2;obtain ⟨E,sz,by_⟩:=el;refine ⟨.bool (!ad.isNone),fun w' _=>?_,by simp only [aG,bb,den];exact ⟨trivial,rfl⟩⟩;have he:=A3 (P:=P) (ad:=ad) (n:=n) (c:=c) (dZ h1).1 w';have e1:a.eval (.const (.slice none 0 0))= .slice none 0 0:=rfl;simp only [execOp,hop];rw [k1,e1,eqGuard_at_slice];simp [binOp,he]
 rename_i args argTypes;split at h<;>try (cases h;done)
 rename_i y t hargs htys;have ha:args= #[y]:=Array.toList_inj.1 hargs;have hty:argTypes= #[t]:=Array.toList_inj.1 htys;subst ha hty;have hy:=bc ht y;split at h<;>try (cases h;done)
 rename_i nm s off n sz el h1 h2;obtain rfl:=Option.some.inj h;rw [h1] at hy;simp only [aG,bb,den] at hy;obtain ⟨ad,cap,k1,_⟩:=hy;obtain ⟨E,sz',by_⟩:=el;refine ⟨.int .i64 n,fun w' _=>?_,by simp only [aG,bb,den];exact ⟨trivial,rfl⟩⟩;simp [execOp,hop,resolve,invoke,builtin,k1,Builtin.len_,run_underlying (dZ h2).1,goInt]
def BQ (P:Program) (eqT:TypeId->List Value->List Value->Bool) (st:St) (op:Op):Option AV:=match BP P st op with
 |some x=>some x
 |none=>bif ckB P eqT st op then (d8 P st op).map (·.2) else none
theorem CE {eqT:TypeId->List Value->List Value->Bool} (heq:∀t us vs,eqT t us vs=true->zg P t us vs) (hW:RW e st.H st.nx σ w) (ht:∀t,aG (kx e st.H st.nx σ w) (a.tmps.getD t undef) (st.tm t)) (h:BQ P eqT st o.op=some x):Yl P o a w (kx e st.H st.nx σ w) x:=by
 unfold BQ at h;split at h
 ·rename_i y hy;obtain rfl:=Option.some.inj h;exact CD hW ht hy
 cases hc:ckB P eqT st o.op with
 |false=>rw [hc] at h;cases h
 |true=>
  rw [hc] at h;simp only [cond_true,Option.map_eq_some_iff] at h;obtain ⟨⟨p,y⟩,h1,rfl⟩:=h;exact jK hW ht h1 (DZ heq hc h1)
end
end Go.Proofs.YtcgpghifhehlhaaGreatDoor
