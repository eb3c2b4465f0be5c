/- The abstract machine: a call that only reads what the caller owns; estates with agreements whose claims are rows of the call's own. No program in sight. -/
import Derived.Test.YtclkgcigacbmiaaGreatDoorGu1M
import Derived.Test.YtclkgcigacbmiaaGreatDoorAbTM
set_option linter.unusedVariables false
set_option linter.unusedSimpArgs false
set_option linter.defProp false
set_option linter.unusedSectionVars false
namespace Go.Proofs.YtclkgcigacbmiaaGreatDoor
open Go Go.RowKit
section
variable {P : Program} {e : En} {H : Hp} {nx : Nat} {σ : Nat → Value} {w : World}
end
section
variable {P : Program} {e : En} {k0 : Kx} {N : Nat} {tm : Nat → AV} {nb s : Nat} {Q : Exit → St → Prop} {c : Code}
end
def dz (I:List Nat) (o:Oper):List Nat:=match o.dst with
 |some d=>if ez I d=true then [d] else []
 |none=>[]
def jH (ops:Array Oper) (I:List Nat) (i:Nat):Bool:=match ops[i]? with
 |some o=> !(dE o.op)&&(dz I o).isEmpty
 |none=>true
def o9 (P:Program) (st:St) (d:Nat) (t:TypeId):Option (Prop×St):=match elT P t with
 |some (E,sz,_)=>some (sz≠0,⟨up st.tm d (.val (.one (.own (st.nb+d) st.nx 0 sz))),up st.H (st.nb+d) (some ⟨st.nx,E,sz,0,[]⟩),st.nx+1,st.nb⟩)
 |none=>none
def b0T:Op->Option TypeId
 | .buildSlice t len parts=>if len=0/\parts.size=0 then some t else none
 |_=>none
def cQ (P:Program) (N:Nat) (I:List Nat) (st:St) (o:Oper) (K:St->Prop):Prop:=match b0T o.op,o.dst with
 |some t,some d=>eI (o9 P st d t) d N K
 |_,_=>cO P N I st o K
section
variable {P : Program} {e : En} {k0 : Kx} {N : Nat} {I : List Nat} {st st' : St} {a : Act} {w : World} {o : Oper} {p : Prop} {d : Nat} {K : Act → World → Prop} {Q : Exit → Act → World → Prop}
theorem yE (hr:Rel e k0 N st a w) (hdst:o.dst=some d) (hdN:d<N) {t:TypeId} (hop:o.op= .buildSlice t 0 #[]) (h:o9 P st d t=some (p,st')) (hp:p) (hK:∀a' w',Rel e k0 N st' a' w'->FL w w'->K a' w'):o.wp P a w K Q:=by
 unfold o9 at h;split at h<;>try (cases h;done)
 rename_i E sz by_ hel;simp only [Option.some.injEq,Prod.mk.injEq] at h;obtain ⟨rfl,rfl⟩:=h;obtain ⟨g1,i,g2,g3,g4⟩:=bi hel;refine gG (v:= .slice (some ⟨w.heap.size,0,none⟩) 0 0) (us:=[]) (cs:=[]) hr hdst hdN ?_ (fun σ _ k2=>trivial) hp (by simp) (by unfold maxLen;omega) (fun σ w'=>aY (st.nb+d) σ w' rfl) hK;simp only [execOp,hop,Instr.buildSlice,Sem.run_bind,run_underlying g1,Result.andThen_ok,sizeOf,typeInfo,run_program,g2,g3,Sem.run_pure];have hz:Array.range 0= #[]:=by apply Array.eq_empty_of_size_eq_zero;simp
 simp [Instr.fill,newRow,hz]
theorem si {S:St->Prop} (hr:Rel e k0 N st a w) (h:cQ P N I st o S) (hK:∀st' a' w',S st'->Rel e k0 N st' a' w'->(I=[]->dE o.op=false->FL w w')->K a' w'):o.wp P a w K Q:=by
 unfold cQ at h;split at h
 ·rename_i t d hb hdst;have hop:o.op= .buildSlice t 0 #[]:=by
   unfold b0T at hb;split at hb<;>try (cases hb;done)
   rename_i t' len parts hop;split at hb<;>try (cases hb;done)
   rename_i h0;obtain rfl:=Option.some.inj hb;rw [hop,h0.1,Array.eq_empty_of_size_eq_zero h0.2]
  unfold eI at h;split at h<;>try (exact h.elim;done)
  rename_i p st' he;obtain ⟨hd,hp,hS⟩:=h;exact yE (st':=st') hr hdst hd hop he hp fun a' w' h1 h2=>hK _ a' w' hS h1 fun _ _=>h2
 exact eJ hr h hK
end
def AT2 (P:Program) (N:Nat) (I:List Nat) (Q:St->Prop):SchO->St->Prop
 | .nil,st=>Q st
 | .take o g r,st=>match gd g st with
  |some true=>match o.dst,bB P st o.op with
   |some d,some (p,x)=>d<N/\p/\AT2 P N I Q r ⟨up st.tm d x,st.H,st.nx,st.nb⟩
   |_,_=>False
  |some false=>AT2 P N I Q r (putO st o.dst (.tup []))
  |none=>False
 | .eff o g r,st=>match gd g st with
  |some true=>cQ P N (dz I o) st o (AT2 P N I Q r)
  |some false=>AT2 P N I Q r (putO st o.dst (.tup []))
  |none=>False
 | .two oi oj r s,st=>cQ P N (dz I oi) st oi (AT2 P N I Q r)/\cQ P N (dz I oj) st oj (AT2 P N I Q s)
section
variable {P : Program} {e : En} {k0 : Kx} {N : Nat} {I : List Nat} {st st' : St} {Q : Exit → St → Prop} {ops : Array Oper}
theorem iA {i:Nat} {o:Oper} (ho:ops[i]? =some o) (hk:jH ops I i=true):dz I o=[]/\dE o.op=false:=by
 simp only [jH,ho,Bool.and_eq_true,Bool.not_eq_true',List.isEmpty_iff] at hk;exact ⟨hk.2,hk.1⟩
end
section
variable {P : Program} {e : En} {k0 : Kx} {N : Nat} {I : List Nat} {st : St} {Q : Exit → St → Prop} {ops : Array Oper}
end
def tT (P:Program) (N:Nat) (I:List Nat) (Q:St->Prop) (g:Option Bool) (o:Oper) (r:SchO) (st:St):Prop:=
 match g with
 |some true=>match o.dst with
  |some d=>fN (bB P st o.op) d N (AT2 P N I Q r) st
  |none=>False
 |some false=>AT2 P N I Q r (putO st o.dst (.tup []))
 |none=>False
def wS (P:Program) (N:Nat) (I:List Nat) (Q:St->Prop) (g:Option Bool) (o:Oper) (r:SchO) (st:St):Prop:=
 match g with
 |some true=>cQ P N (dz I o) st o (AT2 P N I Q r)
 |some false=>AT2 P N I Q r (putO st o.dst (.tup []))
 |none=>False
section
variable {P : Program} {N : Nat} {I : List Nat} {Q : St → Prop} {st : St} {o oi oj : Oper} {g : Option (Nat × Bool)} {r s : SchO}
theorem tU:AT2 P N I Q .nil st=Q st:=rfl
theorem sj:AT2 P N I Q (.take o g r) st=tT P N I Q (gd g st) o r st:=by
 simp only [AT2,tT];cases gd g st with
 |none=>rfl
 |some b=>
  cases b with
  |false=>rfl
  |true=>
   cases o.dst with
   |none=>rfl
   |some d=>
    simp only [fN];cases bB P st o.op with
    |none=>rfl
    |some q=>rfl
theorem tV:AT2 P N I Q (.eff o g r) st=wS P N I Q (gd g st) o r st:=rfl
theorem wT {d:Nat} {op:Op} {t:TypeId} {ps:String} {af:Array Edge} {gg:Option (Nat×Bool)}:tT P N I Q (some true) ⟨some d,op,t,ps,af,gg⟩ r st=fN (bB P st op) d N (AT2 P N I Q r) st:=rfl
theorem wU:tT P N I Q (some false) o r st=AT2 P N I Q r (putO st o.dst (.tup [])):=rfl
theorem wV:wS P N I Q (some true) o r st=cQ P N (dz I o) st o (AT2 P N I Q r):=rfl
theorem wW:wS P N I Q (some false) o r st=AT2 P N I Q r (putO st o.dst (.tup [])):=rfl
theorem tW:AT2 P N I Q (.two oi oj r s) st=(cQ P N (dz I oi) st oi (AT2 P N I Q r)/\cQ P N (dz I oj) st oj (AT2 P N I Q s)):=rfl
theorem nP {d:Nat} {op:Op} {t:TypeId} {ps:String} {af:Array Edge} {gg:Option (Nat×Bool)}:dz I ⟨some d,op,t,ps,af,gg⟩=if ez I d=true then [d] else []:=rfl
theorem nQ {op:Op} {t:TypeId} {ps:String} {af:Array Edge} {gg:Option (Nat×Bool)}:dz I ⟨none,op,t,ps,af,gg⟩=[]:=rfl
end
def AL3 (P:Program) (N:Nat) (I:List Nat) (Q:St->Prop):List Oper->List (Option (Nat×Bool))->St->Prop
 |o::os,g::gs,st=>match gd g st with
  |some true=>cQ P N I st o (AL3 P N I Q os gs)
  |some false=>AL3 P N I Q os gs (putO st o.dst (.tup []))
  |none=>False
 |[],_,st=>Q st
 |_,_,_=>False
def wX (P:Program) (N:Nat) (I:List Nat) (Q:St->Prop) (g:Option Bool) (o:Oper) (os:List Oper) (gs:List (Option (Nat×Bool))) (st:St):Prop:=
 match g with
 |some true=>cQ P N I st o (AL3 P N I Q os gs)
 |some false=>AL3 P N I Q os gs (putO st o.dst (.tup []))
 |none=>False
section
variable {P : Program} {e : En} {k0 : Kx} {N : Nat} {I : List Nat} {st : St} {Q : Exit → St → Prop} {ops : Array Oper}
end
section
variable {P : Program} {N : Nat} {I : List Nat} {Q : St → Prop} {st : St} {o : Oper} {os : List Oper} {g : Option (Nat × Bool)} {gs : List (Option (Nat × Bool))}
theorem tX:AL3 P N I Q [] gs st=Q st:=by cases gs<;>rfl
theorem sk:AL3 P N I Q (o::os) (g::gs) st=wX P N I Q (gd g st) o os gs st:=rfl
theorem wY:wX P N I Q (some true) o os gs st=cQ P N I st o (AL3 P N I Q os gs):=rfl
theorem wZ:wX P N I Q (some false) o os gs st=AL3 P N I Q os gs (putO st o.dst (.tup [])):=rfl
end
def SD:=And.intro @tX (And.intro @sk (And.intro @wY (And.intro @wZ (And.intro @cQ.eq_def (And.intro @o9.eq_def (And.intro @b0T.eq_def (And.intro @Array.size_empty.{0} (And.intro @tU (And.intro @sj (And.intro @tV (And.intro @wT (And.intro @wU (And.intro @wV (And.intro @wW (And.intro @tW (And.intro @nP @nQ))))))))))))))))
end Go.Proofs.YtclkgcigacbmiaaGreatDoor
