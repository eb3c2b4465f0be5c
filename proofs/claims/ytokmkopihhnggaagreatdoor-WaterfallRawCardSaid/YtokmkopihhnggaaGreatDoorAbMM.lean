/- The abstract machine: maps of the call's own: made, asked, written. No program in sight. -/
import Derived.Test.YtokmkopihhnggaaGreatDoorDrawM
import Derived.Lib.AppendZerosOnto
import Derived.Lib.MinMax
set_option linter.unusedVariables false
set_option linter.unusedSimpArgs false
set_option linter.unnecessarySimpa false
set_option linter.unusedSectionVars false
namespace Go.Proofs.YtokmkopihhnggaaGreatDoor
open Go Go.RowKit
def eqW:Value->Value->Bool
 | .agg a,.agg b=>jn a.toList b.toList
 |a,b=>eqV a b
def Al:C->Option (Value×Value)
 | .lit (.agg a)=>match a.toList with
  |[k,v]=>some (k,v)
  |_=>none
 |_=>none
def ent (k v:Value):C:= .lit (.agg #[k,v])
def lI (k:Value):List C->Option Value
 |[]=>none
 |c::cs=>match Al c with
  |some (k',v)=>if eqW k k'=true then some v else lI k cs
  |none=>lI k cs
def qI (k v:Value):List C->List C
 |[]=>[ent k v]
 |c::cs=>match Al c with
  |some (k',_)=>if eqW k k'=true then ent k v::cs else c::qI k v cs
  |none=>c::qI k v cs
def MK (P:Program) (kt:TypeId) (k:Value) (cs:List C):Prop:=
 (∀b w,(Instr.checkKey b 10000 kt k).run P w= .ok () w)/\(∃dsc,P.underlying kt=some dsc/\
 ∀c∈cs,∃k' v',c=ent k' v'/\(∀w,(Op.equal kt k k').run P w= .ok (eqW k k') w)/\(Instr.sameNow dsc k k'=none∨Instr.sameNow dsc k k'=some (eqW k k'))/\(eqW k k'=true->Instr.sameBits 10000 k' k=true))
def Am:AV->Option Value
 | .val (.one (.lit v))=>some v
 | .val (.agg cs)=>(fa cs).map fun l=> .agg l.toArray
 |_=>none
def mpT (P:Program) (t:TypeId):Option (TypeId×Value):=
 match P.underlying t with
 |some (.map k e)=>match (P.info? e).map (·.zero) with
  |some (some z)=>some (k,z)
  |_=>none
 |_=>none
def Bz (ok:Bool) (r:Option Value) (z:Value):Option AV:=
 match wP (r.getD z) with
 | .val a=>some (if ok then .tup [a,.one (.lit (.bool r.isSome))] else .val a)
 |_=>none
def jS (P:Program) (st:St):Op->Option (Prop×AV)
 | .lookup t m k ok=>match ev st m,Am (ev st k),mpT P t with
  | .val (.one (.own nm s n sz)),some kv,some (kt,z)=>match st.H nm with
   |some B=>match Bz ok (lI kv B.cs) z with
    |some x=>some (B.st=s/\n=0/\sz=0/\MK P kt kv B.cs,x)
    |none=>none
   |none=>none
  |_,_,_=>none
 |_=>none
section
variable {P : Program} {e : En} {k0 : Kx} {N : Nat} {st st' : St} {a : Act} {w : World} {σ : Nat → Value} {o : Oper} {p : Prop} {x : AV} {d : Nat} {K : Act → World → Prop} {Q : Exit → Act → World → Prop}
theorem oE {κ:Kx} {v kv:Value} {y:AV} (h:Am y=some kv) (hd:aY κ v y):v=kv:=by
 unfold Am at h;split at h<;>try (cases h;done)
 ·obtain rfl:=Option.some.inj h;simp only [aY,bl,den] at hd;exact hd.1
 rename_i cs;rw [Option.map_eq_some_iff] at h;obtain ⟨l,h1,rfl⟩:=h;obtain ⟨vs,h2,h3⟩:=hd;rw [h2,iF h1 h3]
def fnd (k:Value):List MapEntry->Nat->Option (Nat×Value)
 |[],_=>none
 |e::es,i=>if eqW k e.key=true then some (i,e.val) else fnd k es (i+1)
theorem uo (k:Value):∀(es:List MapEntry) (i:Nat),(fnd k es i).map (·.2)=lI k (es.map e7)
 |[],_=>rfl
 |e::es,i=>by
  simp only [fnd,List.map_cons,lI,e7,Al];split
  ·rfl
  exact uo k es (i+1)
theorem oF {kt:TypeId} {k:Value} {w:World}:∀(es:List MapEntry) (i:Nat),(∀e∈es,∀w,(Op.equal kt k e.key).run P w= .ok (eqW k e.key) w)->(Instr.findAsking kt k es i).run P w= .ok (fnd k es i) w
 |[],i,_=>rfl
 |e::es,i,h=>by
  simp only [Instr.findAsking,Sem.run_bind,h e (by simp) w,Result.andThen_ok,fnd];split
  ·rfl
  exact oF es (i+1) (fun e' he'=>h e' (by simp [he']))
theorem yA {dsc:TypeDesc} {k:Value}:∀(es:List MapEntry) (i:Nat),(∀e∈es,Instr.sameNow dsc k e.key=none∨Instr.sameNow dsc k e.key=some (eqW k e.key))->Instr.findNow dsc k es i=none∨Instr.findNow dsc k es i=some (fnd k es i)
 |[],i,_=> .inr rfl
 |e::es,i,h=>by
  simp only [Instr.findNow,fnd];rcases h e (by simp) with h1|h1
  ·rw [h1];exact .inl rfl
  rw [h1];cases hq:eqW k e.key with
  |true=>exact .inr rfl
  |false=>simpa using yA es (i+1) (fun e' he'=>h e' (by simp [he']))
theorem nB {kt:TypeId} {k:Value} {es:List MapEntry} (h:MK P kt k (es.map e7)) (w:World):(Instr.findKey kt k es).run P w= .ok (fnd k es 0) w:=by
 obtain ⟨_,dsc,hd,hc⟩:=h;have hk:∀e∈es,(∀w,(Op.equal kt k e.key).run P w= .ok (eqW k e.key) w)/\(Instr.sameNow dsc k e.key=none∨Instr.sameNow dsc k e.key=some (eqW k e.key)):=fun e he=>by
  obtain ⟨k',v',h1,h2,h3,_⟩:=hc (e7 e) (List.mem_map_of_mem he);have h4:e.key=k':=by
   simp only [e7,ent,C.lit.injEq,Value.agg.injEq] at h1;have:=congrArg Array.toList h1;simpa using (List.cons.inj this).1
  rw [h4];exact ⟨h2,h3⟩
 unfold Instr.findKey;simp only [Sem.run_bind,run_underlying hd,Result.andThen_ok];rcases yA es 0 (fun e he=>(hk e he).2) with h1|h1
 ·rw [h1];exact oF es 0 (fun e he=>(hk e he).1)
 rw [h1];rfl
theorem Fh (hW:RW e st.H st.nx σ w) {nm s:Nat} {v:Value} (hv:aY (kx e st.H st.nx σ w) v (.val (.one (.own nm s 0 0)))) {B:Blk} (hB:st.H nm=some B) (hs:B.st=s):
  v=σ nm/\∃b es clock,σ nm= .map (some b)/\w.heap[b]? =some (.map es clock)/\B.cs=es.toList.map e7/\B.sz=0/\B.n=0/\e.w0.heap.size<=b:=by
 simp only [aY,bl,den] at hv;obtain ⟨h1,h2,h3⟩:=hv.2.2 B hB hs;rcases (hW.blk nm B hB).2 with h|⟨g1,g2,b,es,clock,g3,g4,g5,g6⟩
 ·exact (h.1 h3).elim
 exact ⟨h1,b,es,clock,g3,g5,g6,g1,g2,g4⟩
theorem yB {t kt:TypeId} {z:Value} (h:mpT P t=some (kt,z)):∃et,P.underlying t=some (.map kt et)/\∀w,(zeroValue et).run P w= .ok z w:=by
 unfold mpT at h;split at h<;>try (cases h;done)
 rename_i k e' hu;split at h<;>try (cases h;done)
 rename_i z' hz;simp only [Option.some.injEq,Prod.mk.injEq] at h;obtain ⟨rfl,rfl⟩:=h;refine ⟨e',hu,fun w=>?_⟩;cases hi:P.info? e' with
 |none=>rw [hi] at hz;cases hz
 |some i=>
  rw [hi] at hz;have hz':i.zero=some z':=by simpa using hz
  simp [zeroValue,typeInfo,hi,hz']
theorem k7 {b:Nat} {es:Array MapEntry} {clock:Nat} (h:w.heap[b]? =some (.map es clock)):(getObj b).run P w= .ok (.map es clock) w:=by
 simp only [getObj,Sem.run];rw [h]
theorem sN (hW:RW e st.H st.nx σ w) (ht:∀t,aY (kx e st.H st.nx σ w) (a.tmps.getD t undef) (st.tm t)) (h:jS P st o.op=some (p,x)) (hp:p):Yl P o a w (kx e st.H st.nx σ w) x:=by
 generalize hop:o.op=op at h;cases op<;>simp only [jS] at h<;>try (cases h;done)
 case lookup t m k ok=>
  have hm:=bi ht m;have hk:=bi ht k;split at h<;>try (cases h;done)
  rename_i nm s n sz kv kt z hem hek hmp;rw [hem] at hm;split at h<;>try (cases h;done)
  rename_i B hB;split at h<;>try (cases h;done)
  rename_i y hl;simp only [Option.some.injEq,Prod.mk.injEq] at h;obtain ⟨rfl,rfl⟩:=h;obtain ⟨hs,rfl,rfl,hMK⟩:=hp;obtain ⟨h1,b,es,clock,h2,h3,h4,_⟩:=Fh hW hm hB hs;have hkv:=oE hek hk;obtain ⟨et,h5,h6⟩:=yB hmp;rw [h4] at hMK hl;have hlook:∀w',FL w w'->(Instr.lookup t (a.eval m) (a.eval k) ok).run P w'= .ok (if ok then .tuple #[(lI kv (es.toList.map e7)).getD z,.bool (lI kv (es.toList.map e7)).isSome] else (lI kv (es.toList.map e7)).getD z) w':=by
   intro w' hF;have hb:w'.heap[b]? =some (.map es clock):=by rw [hF.2 b (Array.getElem?_eq_some_iff.1 h3).1];exact h3
   have hf:=nB hMK w';have hg:=uo kv es.toList 0;unfold Instr.lookup;simp only [Sem.run_bind,run_underlying h5,Result.andThen_ok,h1,h2,hkv,k7 hb,Sem.run_pure,hMK.1,hf];rw [←hg];cases fnd kv es.toList 0 with
   |none=>cases ok<;>simp [h6 w']
   |some q=>cases ok<;>simp
  refine ⟨if ok then .tuple #[(lI kv (es.toList.map e7)).getD z,.bool (lI kv (es.toList.map e7)).isSome] else (lI kv (es.toList.map e7)).getD z,fun w' hF=>by simp only [execOp,hop,Sem.run_bind,hlook w' (hF.resolve_right (by simp [reads,hop])),Result.andThen_ok,Sem.run_pure],?_⟩;unfold Bz at hl;split at hl<;>try (cases hl;done)
  rename_i y' hy;obtain rfl:=Option.some.inj hl;have hden:=oz (kx e st.H st.nx σ w) ((lI kv (es.toList.map e7)).getD z);rw [hy] at hden;cases ok with
  |true=>
   refine ⟨[(lI kv (es.toList.map e7)).getD z,.bool (lI kv (es.toList.map e7)).isSome],by simp,hden,?_,trivial⟩;simp only [bl,den];exact ⟨trivial,rfl⟩
  |false=>exact hden
def yC (P:Program) (st:St) (d:Nat) (t:TypeId):Option (Prop×St):=
 some (True,⟨up st.tm d (.val (.one (.own (st.nb+d) st.nx 0 0))),up st.H (st.nb+d) (some ⟨st.nx,t,0,0,[]⟩),st.nx+1,st.nb⟩)
theorem Hc {t:TypeId} (hr:Rel e k0 N st a w) (hdst:o.dst=some d) (hdN:d<N) (hop:o.op= .makeMap t none) (h:yC P st d t=some (p,st'))
  (hK:∀a' w',Rel e k0 N st' a' w'->FL w w'->K a' w'):o.wp P a w K Q:=by
 simp only [yC,Option.some.injEq,Prod.mk.injEq] at h;obtain ⟨rfl,rfl⟩:=h;obtain ⟨σ,h1,h2,h3⟩:=hr.ex;obtain ⟨k1,k2⟩:=h1.newV (nm0:=st.nb+d) (d:=st.nb+d) (row:=none) (grownBy_alloc w (.map #[] 0)) (B':=⟨st.nx,t,0,0,[]⟩) (v':= .map (some w.heap.size)) rfl (by simp) (fun r hr=> .inl (by simp [obk] at hr;omega))
  (fun _=> .inr ⟨rfl,rfl,w.heap.size,#[],0,bI _ _ _,h1.size,heap_alloc_new _ _,rfl⟩)
 rw [qY] at k1 k2;refine fb (v:= .map (some w.heap.size)) (w':=w.alloc (.map #[] 0)) ?_ ?_
 ·simp [execOp,hop,Instr.makeMap]
 rw [hdst];exact hK _ _ (hr.put k1 h2 h3 k2 (cc (st.nb+d) σ _ rfl) d hdN) (FL.alloc _ _)
def sO (P:Program) (st:St) (t:TypeId) (m k v:Operand):Option (Prop×St):=
 match ev st m,Am (ev st k),Am (ev st v),mpT P t with
 | .val (.one (.own nm s n sz)),some kv,some vv,some (kt,_)=>match st.H nm with
  |some B=>some (B.st=s/\n=0/\sz=0/\MK P kt kv B.cs,⟨st.tm,up st.H nm (some {B with cs:=qI kv vv B.cs}),st.nx,st.nb⟩)
  |none=>none
 |_,_,_,_=>none
theorem oG {b:Nat} {ob:Obj} {es:Array MapEntry} {clock:Nat} (h0:w.heap[b]? =some (.map es clock)):∃w',(setObj b ob).run P w= .ok () w'/\w.grownBy w' (some b)/\w'.heap[b]? =some ob:=by
 have hb:b<w.heap.size:=(Array.getElem?_eq_some_iff.1 h0).1;refine ⟨{w with heap:=w.heap.setIfInBounds b ob},?_,⟨rfl,rfl,rfl,by simp,fun k _ hk=>?_⟩,?_⟩
 ·simp only [setObj,Sem.run];rw [h0]
 ·simp only [Array.getElem?_setIfInBounds];rw [if_neg (fun e=>hk (by rw [e]))]
 simp [hb]
theorem kF {k v:Value}:∀{es:List MapEntry} {i:Nat},fnd k es i=none->qI k v (es.map e7)=es.map e7++[ent k v]
 |[],_,_=>rfl
 |e::es,i,h=>by
  simp only [fnd] at h;split at h<;>try (cases h;done)
  rename_i hne;simp only [List.map_cons,qI,e7,Al];rw [if_neg hne];have:=kF (v:=v) h;rw [this];rfl
theorem kH {k v:Value}:∀{es:List MapEntry} {i j:Nat} {u:Value},fnd k es i=some (j,u)->i<=j/\j-i<es.length/\(∃x,es[j-i]? =some x/\eqW k x.key=true)/\
  qI k v (es.map e7)=((es.map e7).set (j-i) (ent k v))
 |[],_,_,_,h=>by cases h
 |e::es,i,j,u,h=>by
  simp only [fnd] at h;split at h
  ·rename_i hq;simp only [Option.some.injEq,Prod.mk.injEq] at h;obtain ⟨rfl,rfl⟩:=h;refine ⟨Nat.le_refl _,by simp,⟨e,by simp,hq⟩,?_⟩;simp only [List.map_cons,qI,e7,Al];rw [if_pos hq];simp
  rename_i hne;obtain ⟨h1,h2,⟨x,h3,h4⟩,h5⟩:=kH (v:=v) h;have e1:j-i=(j-(i+1))+1:=by omega
  refine ⟨by omega,by simp;omega,⟨x,by rw [e1];simpa using h3,h4⟩,?_⟩;rw [e1];simp only [List.map_cons,qI,e7,Al];rw [if_neg hne];simp only [List.set_cons_succ];rw [←h5]
theorem FD {t:TypeId} {m k v:Operand} (hr:Rel e k0 N st a w) (hdst:o.dst=none) (hop:o.op= .mapUpdate t m k v) (h:sO P st t m k v=some (p,st')) (hp:p)
  (hK:∀a' w',Rel e k0 N st' a' w'->K a' w'):o.wp P a w K Q:=by
 obtain ⟨σ,h1,h2,h3⟩:=hr.ex;have hm:=bi h2 m;have hk:=bi h2 k;have hv:=bi h2 v;unfold sO at h;split at h<;>try (cases h;done)
 rename_i nm s n sz kv vv kt z hem hek hev hmp;rw [hem] at hm;split at h<;>try (cases h;done)
 rename_i B hB;simp only [Option.some.injEq,Prod.mk.injEq] at h;obtain ⟨rfl,rfl⟩:=h;obtain ⟨hs,rfl,rfl,hMK⟩:=hp;obtain ⟨g1,b,es,clock,g2,g3,g4,g5,g6,g7⟩:=Fh h1 hm hB hs;have hkv:=oE hek hk;have hvv:=oE hev hv;obtain ⟨et,h5,_⟩:=yB hmp;rw [g4] at hMK;have hf:=nB hMK w;have hlt:b<w.heap.size:=(Array.getElem?_eq_some_iff.1 g3).1;have key:∃w' es' clock',(Instr.mapUpdate t (a.eval m) (a.eval k) (a.eval v)).run P w= .ok () w'/\w.grownBy w' (some b)/\w'.heap[b]? =some (.map es' clock')/\qI kv vv (es.toList.map e7)=es'.toList.map e7:=by
  cases hfn:fnd kv es.toList 0 with
  |none=>
   obtain ⟨w',q1,q2,q3⟩:=oG (P:=P) (w:=w) (b:=b) (ob:= .map (es.push {key:=kv,val:=vv,born:=clock}) (clock+1)) g3;refine ⟨w',_,_,?_,q2,q3,?_⟩
   ·unfold Instr.mapUpdate;simp only [Sem.run_bind,run_underlying h5,Result.andThen_ok,g1,g2,hkv,hvv,k7 g3,hMK.1,hf,hfn,q1]
   rw [kF hfn];simp [e7,ent]
  |some q=>
   obtain ⟨j,u⟩:=q;obtain ⟨q1,q2,⟨x,q3,q4⟩,q5⟩:=kH (v:=vv) hfn;simp only [Nat.sub_zero] at q2 q3 q5;obtain ⟨w',r1,r2,r3⟩:=oG (P:=P) (w:=w) (b:=b) (ob:= .map (es.modify j fun e=>{e with key:=kv,val:=vv}) clock) g3;refine ⟨w',_,_,?_,r2,r3,?_⟩
   ·have hx:es[j]? =some x:=by simpa using q3
    have hsb:Instr.sameBits 10000 x.key kv=true:=by
     obtain ⟨_,dsc,_,hc⟩:=hMK;obtain ⟨k',v',c1,_,_,c4⟩:=hc (e7 x) (List.mem_map_of_mem (List.mem_of_getElem? q3));have h4:x.key=k':=by
      simp only [e7,ent,C.lit.injEq,Value.agg.injEq] at c1;have:=congrArg Array.toList c1;simpa using (List.cons.inj this).1
     rw [h4] at q4 ⊢;exact c4 q4
    unfold Instr.mapUpdate;simp only [Sem.run_bind,run_underlying h5,Result.andThen_ok,g1,g2,hkv,hvv,k7 g3,Sem.run_pure,hMK.1,hf,hfn,hx,Option.map_some,Option.getD_some,Instr.keyThatStays,hsb,if_true,r1]
   rw [q5];apply List.ext_getElem?;intro i;simp only [List.getElem?_set,List.getElem?_map,Array.getElem?_toList,Array.getElem?_modify,List.length_map,Array.length_toList];by_cases hij:j=i
   ·subst hij;have hjl:j<es.size:=by simpa using q2
    simp [hjl,e7,ent]
   simp [hij]
 obtain ⟨w',es',clock',r1,r2,r3,r4⟩:=key;obtain ⟨k1,k2⟩:=h1.updV (row:=some b) (cs:=qI kv vv B.cs) hB r2 (fun r hr=>by rw [g2,←hr];rfl) (fun _=> .inr ⟨g5,g6,b,es',clock',g2,g7,r3,by rw [g4];exact r4⟩);refine ul (w':=w') ?_ ?_
 ·simp only [execOp,hop,Sem.run_bind,r1,Result.andThen_ok,Sem.run_pure]
 rw [hdst];exact hK _ _ (hr.skip k1 h2 h3 k2 _)
end
def lJ (P:Program) (st:St) (args:Array Operand) (argTypes:Array TypeId):Option (Prop×AV):=
 match args.toList,argTypes.toList with
 |[x],[t]=>match ev st x,elT P t with
  | .val (.one (.lit (.slice _ _ c))),some _=>some (True,one (.int .i64 c))
  |_,_=>none
 |_,_=>none
def lK (mx:Bool) (st:St) (args:Array Operand):Option (Prop×AV):=
 match args.toList with
 |[x,y]=>match ev st x,ev st y with
  | .val (.one (.lit (.int k a))),.val (.one (.lit (.int _ b)))=>some (True,one (.int k (if mx then max a b else min a b)))
  |_,_=>none
 |_=>none
def lL (P:Program) (st:St) (t:TypeId) (x:Operand) (lo hi:Option Operand):Option (Prop×AV):=
 match ev st x,elT P t,bnd st lo 0,bnd st hi 0 with
 | .val (.one (.lit (.slice none 0 0))),some _,some (p1,l),some (p2,h)=>some (p1/\p2/\l=0/\h=0,one (.slice none 0 0))
 |_,_,_,_=>none
def D3 (P : Program) (st : St) (d : Nat) (args : Array Operand) (argTypes : Array TypeId) : Option (Prop × St) :=
  match args.toList, argTypes.toList with
  | [s, x], [t, t'] => match ev st s, ev st x, elT P t, P.underlying t' with
    | .val (.one (.lit (.slice none 0 0))), .val (.one (.lit (.int _ n))), some (E, sz, by_), some (.int _) => match zrT P E with
      | some zs => some (zs.length = sz ∧ sz ≠ 0 ∧ 0 < n ∧ n * by_ ≤ 140737488355328 ∧ n ≤ 4611686018427387904,
          ⟨up st.tm d (.val (.one (.own (st.nb + d) st.nx n.toNat sz))), up st.H (st.nb + d) (some ⟨st.nx, E, sz, n.toNat, dq n.toNat (zs.map .lit)⟩), st.nx + 1, st.nb⟩)
      | none => none
    | _, _, _, _ => none
  | _, _ => none
def yD (P : Program) (st : St) (d : Nat) (t : TypeId) (x : Operand) (lo hi : Option Operand) : Option (Prop × St) :=
  match ev st x, lo, hi, elT P t with
  | .val (.one (.own nm s n sz)), none, some h, some (_, sz', _) => match ev st h, st.H nm with
    | .val (.one (.lit (.int _ i))), some B => some (sz = sz' ∧ sz ≠ 0 ∧ B.st = s ∧ 0 ≤ i ∧ i ≤ n,
        ⟨up st.tm d (.val (.one (.own (st.nb + d) st.nx i.toNat sz))), up (up st.H nm none) (st.nb + d) (some ⟨st.nx, B.E, sz, i.toNat, B.cs.take (i.toNat * sz)⟩), st.nx + 1, st.nb⟩)
    | _, _ => none
  | _, _, _, _ => none
section
variable {P : Program} {e : En} {k0 : Kx} {N : Nat} {st st' : St} {a : Act} {w : World} {σ : Nat → Value} {o : Oper} {p : Prop} {x : AV} {d : Nat} {K : Act → World → Prop} {Q : Exit → Act → World → Prop}
theorem uq {args:Array Operand} {argTypes:Array TypeId} (ht:∀t,aY (kx e st.H st.nx σ w) (a.tmps.getD t undef) (st.tm t)) (hop:o.op= .call {callee:= .builtin .cap,args,argTypes}) (h:lJ P st args argTypes=some (p,x)):Yl P o a w (kx e st.H st.nx σ w) x:=by
 unfold lJ at h;split at h<;>try (cases h;done)
 rename_i y t hargs htys;have ha:args= #[y]:=Array.toList_inj.1 hargs;have hty:argTypes= #[t]:=Array.toList_inj.1 htys;subst ha hty;have hy:=bi ht y;split at h<;>try (cases h;done)
 rename_i ad n c el hey hel;rw [hey] at hy;simp only [Option.some.injEq,Prod.mk.injEq] at h;obtain ⟨rfl,rfl⟩:=h;simp only [aY,bl,den] at hy;obtain ⟨e',sz,by_⟩:=el;obtain ⟨g1,_⟩:=er hel;refine ⟨.int .i64 c,fun w' _=>?_,by simp only [aY,bl,den];exact ⟨trivial,rfl⟩⟩;simp [execOp,hop,resolve,invoke,builtin,hy.1,Builtin.cap_,run_underlying g1,goInt]
theorem oH {args:Array Operand} {argTypes:Array TypeId} (mx:Bool) (ht:∀t,aY (kx e st.H st.nx σ w) (a.tmps.getD t undef) (st.tm t)) (hop:o.op= .call {callee:= .builtin (if mx then .max else .min),args,argTypes}) (h:lK mx st args=some (p,x)):Yl P o a w (kx e st.H st.nx σ w) x:=by
 unfold lK at h;split at h<;>try (cases h;done)
 rename_i y z hargs;have ha:args= #[y,z]:=Array.toList_inj.1 hargs;subst ha;have hy:=bi ht y;have hz:=bi ht z;split at h<;>try (cases h;done)
 rename_i k n k' m hey hez;rw [hey] at hy;rw [hez] at hz;simp only [Option.some.injEq,Prod.mk.injEq] at h;obtain ⟨rfl,rfl⟩:=h;simp only [aY,bl,den] at hy hz;refine ⟨.int k (if mx then max n m else min n m),fun w' _=>?_,by simp only [aY,bl,den];exact ⟨trivial,rfl⟩⟩;cases mx
 ·simp [execOp,hop,resolve,invoke,builtin,hy.1,hz.1,Lib.run_min_ints]
 simp [execOp,hop,resolve,invoke,builtin,hy.1,hz.1,Lib.run_max_ints]
theorem ur {t:TypeId} {y:Operand} {lo hi:Option Operand} (ht:∀t,aY (kx e st.H st.nx σ w) (a.tmps.getD t undef) (st.tm t)) (hop:o.op= .slice t y lo hi none) (h:lL P st t y lo hi=some (p,x)) (hp:p):Yl P o a w (kx e st.H st.nx σ w) x:=by
 unfold lL at h;have hy:=bi ht y;split at h<;>try (cases h;done)
 rename_i el p1 l p2 hh hey hel hb1 hb2;rw [hey] at hy;simp only [Option.some.injEq,Prod.mk.injEq] at h;obtain ⟨rfl,rfl⟩:=h;obtain ⟨hp1,hp2,rfl,rfl⟩:=hp;simp only [aY,bl,den] at hy;obtain ⟨e',sz,by_⟩:=el;obtain ⟨g1,j,g2,g3,_⟩:=er hel;refine ⟨.slice none 0 0,fun w' _=>?_,by simp only [aY,bl,den];exact ⟨trivial,rfl⟩⟩;have e1:(Instr.sliceBounds true 0 0 (lo.map a.eval) (hi.map a.eval) none).run P w'= .ok (0,0,0) w':=by
  rcases mF ht hb1 hp1 with ⟨rfl,_⟩|⟨z1,k1,rfl,q1⟩<;>rcases mF ht hb2 hp2 with ⟨rfl,_⟩|⟨z2,k2,rfl,q2⟩
  ·simp [Instr.sliceBounds]
  ·simp [Instr.sliceBounds,q2,Instr.sliceBound,asIntOf]
  ·simp [Instr.sliceBounds,q1,Instr.sliceBound,asIntOf]
  simp [Instr.sliceBounds,q1,q2,Instr.sliceBound,asIntOf]
 simp [execOp,hop,hy.1,Instr.sliceAt,run_underlying g1,Instr.slice,e1,sizeOf,typeInfo,g2]
theorem BA {args:Array Operand} {argTypes:Array TypeId} (hr:Rel e k0 N st a w) (hdst:o.dst=some d) (hdN:d<N) (hop:o.op= .call {callee:= .builtin .append,args,argTypes}) (h:D3 P st d args argTypes=some (p,st')) (hp:p)
  (hK:∀a' w',Rel e k0 N st' a' w'->K a' w'):o.wp P a w K Q:=by
 obtain ⟨σ,h1,h2,h3⟩:=hr.ex;unfold D3 at h;split at h<;>try (cases h;done)
 rename_i s y t t' hargs htys;have ha:args= #[s,y]:=Array.toList_inj.1 hargs;have hty:argTypes= #[t,t']:=Array.toList_inj.1 htys;subst ha hty;have hs:=bi h2 s;have hy:=bi h2 y;split at h<;>try (cases h;done)
 rename_i k n E sz by_ kn hes hey hel hu;rw [hes] at hs;rw [hey] at hy;split at h<;>try (cases h;done)
 rename_i zs hz;simp only [Option.some.injEq,Prod.mk.injEq] at h;obtain ⟨rfl,rfl⟩:=h;obtain ⟨hzs,hsz,hn0,hb,hn⟩:=hp;simp only [aY,bl,den] at hs hy;obtain ⟨z,q1,q2,q3⟩:=iH hz;obtain ⟨g1,i,g2,g3,g4⟩:=er hel;have hzsz:z.cells.size=sz:=by rw [←hzs,←q1];simp
 have hzi:i.zero=some z:=by
  have:=q3 w;cases hiz:i.zero with
  |none=>simp [zeroValue,typeInfo,g2,hiz] at this
  |some z'=>simp [zeroValue,typeInfo,g2,hiz] at this;rw [this]
 obtain ⟨m,rfl⟩:∃m:Nat,n=(m:Int):=⟨n.toNat,by omega⟩;have hm:0<m:=by omega
 have hbm:m*by_<=140737488355328:=by
  have:((m*by_:Nat):Int)<=140737488355328:=by rw [Int.natCast_mul];exact hb
  omega
 have hfit:Builtin.nextslicecap (0+m) 0*i.bytes<=281474976710656:=by
  have:Builtin.nextslicecap (0+m) 0=m:=by simp [Builtin.nextslicecap,hm]
  rw [this,g4];omega
 have hrun:=Lib.run_append_grow_zeros (P:=P) w t t' o.type E i z k kn g1 hu g2 hzi none 0 0 [] (by simp [Builtin.firstCells]) m hm (by rw [g3];omega) (by omega) (by omega) (by rw [g4];omega) hfit;simp only [Nat.zero_add] at hrun;have hcap:=grownCap_ge w m 0 E;have hzc:∀n,(Builtin.zeroCells z.cells n).toList=dq n zs:=fun n=>by
  have:=jR z.cells n;rw [q1] at this;simp only [madeCells] at this;simpa [Builtin.zeroCells] using this
 have hg:w.grownBy (w.drew.alloc (.cells ((#[]:Array Value)++Builtin.zeroCells z.cells m++Builtin.zeroCells z.cells (grownCap w m 0 E-m)) E)) none:=
  ⟨rfl,rfl,rfl,by simp,fun k hk _=>Below.heap_alloc _ _ _ hk⟩
 obtain ⟨k1,k2⟩:=h1.new (nm0:=st.nb+d) (d:=st.nb+d) (row:=none) hg (B':=⟨st.nx,E,sz,m,dq m (zs.map .lit)⟩) (v':= .slice (some ⟨w.heap.size,0,none⟩) m (grownCap w m 0 E)) (xs:=dq m zs) rfl hsz (by simp [di,hzs]) (by simp)
  (fun r hr=> .inl (by simp [obk] at hr;omega)) (by
   refine ⟨by simp [di,hzs],.inr ⟨w.heap.size,grownCap w m 0 E,_,rfl,h1.size,heap_alloc_new w.drew _,hcap,grownCap_le_maxLen _ _ _ _ (by unfold maxLen;omega),?_,?_⟩⟩
   ·simp only [Array.size_append,Array.size_empty,Nat.zero_add];have s1:(Builtin.zeroCells z.cells m).size=m*sz:=by have:=congrArg List.length (hzc m);simpa [di,hzs] using this
    have s2:(Builtin.zeroCells z.cells (grownCap w m 0 E-m)).size=(grownCap w m 0 E-m)*sz:=by have:=congrArg List.length (hzc (grownCap w m 0 E-m));simpa [di,hzs] using this
    rw [s1,s2,←Nat.add_mul];congr 1;omega
   simp only [Array.toList_append,List.nil_append,hzc];rw [List.take_left'];simp [di,hzs]) (gx (dZ _ _ q2) _)
 rw [qY] at k1 k2;refine fb (v:= .slice (some ⟨w.heap.size,0,none⟩) m (grownCap w m 0 E)) (w':=w.drew.alloc (.cells ((#[]:Array Value)++Builtin.zeroCells z.cells m++Builtin.zeroCells z.cells (grownCap w m 0 E-m)) E)) ?_ ?_
 ·simp only [execOp,hop,resolve,Sem.run_bind,Sem.run_pure,Result.andThen_ok,invoke,builtin,List.map_toArray,List.map_cons,List.map_nil,hs.1,hy.1,hrun]
 rw [hdst];refine hK _ _ (hr.put k1 h2 h3 k2 ?_ d hdN);exact cc (st.nb+d) σ _ rfl
theorem An {t : TypeId} {y : Operand} {lo hi : Option Operand} (hr : Rel e k0 N st a w) (hdst : o.dst = some d) (hdN : d < N) (hop : o.op = .slice t y lo hi none) (h : yD P st d t y lo hi = some (p, st')) (hp : p)
    (hK : ∀ a' w', Rel e k0 N st' a' w' → FL w w' → K a' w') : o.wp P a w K Q := by
  obtain ⟨σ, h1, h2, h3⟩ := hr.ex
  unfold yD at h
  have hy := bi h2 y
  split at h <;> try (cases h; done)
  rename_i nm s n sz hop2 E' sz' by_ hey hel
  have hh := bi h2 hop2
  rw [hey] at hy
  split at h <;> try (cases h; done)
  rename_i k i B heh hB
  rw [heh] at hh
  simp only [Option.some.injEq, Prod.mk.injEq] at h
  obtain ⟨rfl, rfl⟩ := h
  obtain ⟨rfl, hsz, hs, hi0, hin⟩ := hp
  simp only [aY, bl, den] at hy hh
  obtain ⟨f1, f2, f3⟩ := hy.2.2 B hB hs
  have f1' : a.eval y = σ nm := f1
  obtain ⟨_, g2, xs, g3, g4⟩ := h1.rowOf hB (.inl (by rw [f3]; exact hsz))
  obtain ⟨g5, j, g6, g7, _⟩ := er hel
  obtain ⟨m, rfl⟩ : ∃ m : Nat, i = (m : Int) := ⟨i.toNat, by omega⟩
  have hmn : m ≤ B.n := by omega
  subst f3
  obtain ⟨ad, cap, hv, hmc⟩ : ∃ ad cap, σ nm = .slice ad B.n cap ∧ m ≤ cap := by
    rcases g3.2 with ⟨q1, q2⟩ | ⟨g, cap, cur, q1, _, _, q2, _⟩
    · exact ⟨none, 0, by rw [q2]; exact q1, by omega⟩
    exact ⟨_, cap, q1, by omega⟩
  have hown : w.ownsRow e.w0.heap.size B.E B.sz (.slice ad m cap) m (xs.take (m * B.sz)) := by
    have hml : m * B.sz ≤ xs.length := by rw [g3.1]; exact Nat.mul_le_mul_right _ hmn
    refine ⟨by simp; omega, ?_⟩
    rcases g3.2 with ⟨q1, q2⟩ | ⟨g, cap', cur, q1, q2, q3, q4, q5, q6, q7⟩
    · rw [hv] at q1
      simp only [Value.slice.injEq] at q1
      obtain ⟨rfl, _, rfl⟩ := q1
      have : m = 0 := by omega
      subst this
      exact .inl ⟨rfl, rfl⟩
    rw [hv] at q1
    simp only [Value.slice.injEq] at q1
    obtain ⟨rfl, _, rfl⟩ := q1
    refine .inr ⟨g, cap, cur, rfl, q2, q3, hmc, q5, q6, ?_⟩
    rw [← q7, List.take_take]
    congr 1
    rw [g3.1] at hml
    omega
  obtain ⟨k1, k2⟩ := h1.new (nm0 := nm) (d := st.nb + d) (row := none) (w' := w) ⟨rfl, rfl, rfl, Nat.le_refl _, fun _ _ _ => rfl⟩ (B' := ⟨st.nx, B.E, B.sz, m, B.cs.take (m * B.sz)⟩) (v' := .slice ad m cap) rfl hsz (by
      show (List.take (m * B.sz) B.cs).length = m * B.sz
      have : m * B.sz ≤ B.cs.length := by rw [g2]; exact Nat.mul_le_mul_right _ hmn
      simp; omega) (by simp) (fun r hr => .inr ⟨by rw [hv]; cases ad <;> simpa [obk] using hr, B, hB⟩) hown (g4.take _)
  refine fb (v := .slice ad m cap) (w' := w) ?_ ?_
  · have e1 : (Instr.sliceBounds true B.n cap none (some (.int k (m : Int))) none).run P w = .ok (0, m, cap) w := by
      have c1 : (0 : Int) ≤ (m : Int) ∧ (m : Int) ≤ (cap : Int) := ⟨by omega, by omega⟩
      simp only [Instr.sliceBounds, Instr.sliceBound, asIntOf, Sem.run_bind, Sem.run_pure, Result.andThen_ok, Sem.run_ite, if_pos c1, Int.toNat_natCast]
    have e2 : (if cap = 0 then ad else ad.map (·.add (0 * B.sz))) = ad := by
      split
      · rfl
      cases ad with
      | none => rfl
      | some q => simp [Addr.add]
    simp only [execOp, hop, f1', hv, hh.1, Option.map_some, Option.map_none, Sem.run_bind, Instr.sliceAt, run_underlying g5, Result.andThen_ok, Instr.slice, e1, sizeOf, typeInfo, run_program, g6, g7, Sem.run_pure, Nat.sub_zero, e2]
  rw [hdst]
  refine hK _ _ (hr.put k1 h2 h3 k2 ?_ d hdN) (FL.refl w)
  exact cc (st.nb + d) σ _ rfl
end
mutual
def ax:C->Bool
 | .lit _=>true
 | .sh _ _ cs=>al cs
 | .sp cs=>al cs
 |_=>false
def al:List C->Bool
 |[]=>true
 |c::cs=>ax c&&al cs
end
def yE:C->Bool
 | .lit _=>true
 |_=>false
def aD (a:A1):Bool:=al a.cells
def nC (a:A1):Bool:=a.cells.all yE
def aU (f:A1->Bool):AV->Bool
 | .val a=>f a
 | .tup l=>l.all f
 | .dead=>true
mutual
theorem dK {κ κ':Kx} (h:∀b,κ.S b->κ'.S b/\κ'.w.heap[b]? =κ.w.heap[b]?):∀{c:C} {v:Value},ax c=true->den κ v c->den κ' v c
 | .lit x,v,_,d=>by simp only [den] at d ⊢;exact d
 | .sh sz n cs,v,hp,d=>by
  simp only [ax] at hp;simp only [den] at d ⊢;obtain ⟨a,cap,h1,h2,h3,h4,h5,h6⟩:=d;refine ⟨a,cap,h1,h2,h3,h4,h5,?_⟩;rcases h6 with h6|⟨b,off,h6,h7,h8⟩
  ·exact .inl h6
  exact .inr ⟨b,off,h6,(h b h7).1,mG h (h b h7).2 hp h8⟩
 | .sp cs,v,hp,d=>by
  simp only [ax] at hp;simp only [den] at d ⊢;obtain ⟨b,off,h1,h2,h3⟩:=d;exact ⟨b,off,h1,(h b h2).1,mG h (h b h2).2 hp h3⟩
 | .own ..,v,hp,d=>by simp [ax] at hp
 | .ptr ..,v,hp,d=>by simp [ax] at hp
 | .dead,v,hp,d=>by simp [ax] at hp
theorem mG {κ κ':Kx} (h:∀b,κ.S b->κ'.S b/\κ'.w.heap[b]? =κ.w.heap[b]?) {b:Nat} (hb:κ'.w.heap[b]? =κ.w.heap[b]?):∀{cs:List C} {off:Nat},al cs=true->denM κ b off cs->denM κ' b off cs
 |[],off,_,_=>by simp [denM]
 |c::cs,off,hp,d=>by
  simp only [al,Bool.and_eq_true] at hp;simp only [denM] at d ⊢;obtain ⟨⟨u,h1,h2⟩,h3⟩:=d;exact ⟨⟨u,by rw [World.cell?_of_block (w:=κ.w) hb];exact h1,dK h hp.1 h2⟩,mG h hb hp.2 h3⟩
end
theorem iI {κ κ':Kx} (h:∀b,κ.S b->κ'.S b/\κ'.w.heap[b]? =κ.w.heap[b]?):∀{vs:List Value} {cs:List C},al cs=true->denVs κ vs cs->denVs κ' vs cs
 |[],[],_,_=>trivial
 |_::_,_::_,hp,d=>by
  simp only [al,Bool.and_eq_true] at hp;exact ⟨dK h hp.1 d.1,iI h hp.2 d.2⟩
 |[],_::_,_,d=>d.elim
 |_::_,[],_,d=>d.elim
theorem cE {κ κ':Kx} (h:∀b,κ.S b->κ'.S b/\κ'.w.heap[b]? =κ.w.heap[b]?):∀{a:A1} {v:Value},aD a=true->bl κ v a->bl κ' v a
 | .one c,v,hp,d=>by
  simp only [aD,A1.cells,al,Bool.and_true] at hp;exact dK h hp d
 | .agg cs,v,hp,⟨vs,h1,h2⟩=>⟨vs,h1,iI h hp h2⟩
theorem k8 {κ κ':Kx} (h:∀b,κ.S b->κ'.S b/\κ'.w.heap[b]? =κ.w.heap[b]?):∀{vs:List Value} {l:List A1},l.all aD=true->dh κ vs l->dh κ' vs l
 |[],[],_,_=>trivial
 |_::_,_::_,hp,d=>by
  simp only [List.all_cons,Bool.and_eq_true] at hp;exact ⟨cE h hp.1 d.1,k8 h hp.2 d.2⟩
 |[],_::_,_,d=>d.elim
 |_::_,[],_,d=>d.elim
theorem Ao {κ κ':Kx} (h:∀b,κ.S b->κ'.S b/\κ'.w.heap[b]? =κ.w.heap[b]?) {v:Value} {x:AV} (hp:aU aD x=true) (d:aY κ v x):aY κ' v x:=by
 cases x with
 |val a=>exact cE h hp d
 |tup l=>obtain ⟨vs,h1,h2⟩:=d;exact ⟨vs,h1,k8 h hp h2⟩
 |dead=>trivial
theorem lc {κ κ':Kx}:∀{vs:List Value} {cs:List C},cs.all yE=true->denVs κ vs cs->denVs κ' vs cs
 |[],[],_,_=>trivial
 |_::_,c::_,hp,d=>by
  simp only [List.all_cons,Bool.and_eq_true] at hp;refine ⟨?_,lc hp.2 d.2⟩;cases c with
  |lit x=>have:=d.1;simp only [den] at this ⊢;exact this
  |_=>simp [yE] at hp
 |[],_::_,_,d=>d.elim
 |_::_,[],_,d=>d.elim
theorem ra {κ κ':Kx}:∀{a:A1} {v:Value},nC a=true->bl κ v a->bl κ' v a
 | .one c,v,hp,d=>(lc (κ':=κ') (vs:=[v]) (cs:=[c]) hp ⟨d,trivial⟩).1
 | .agg cs,v,hp,⟨vs,h1,h2⟩=>⟨vs,h1,lc hp h2⟩
theorem oI {κ κ':Kx}:∀{vs:List Value} {l:List A1},l.all nC=true->dh κ vs l->dh κ' vs l
 |[],[],_,_=>trivial
 |_::_,_::_,hp,d=>by
  simp only [List.all_cons,Bool.and_eq_true] at hp;exact ⟨ra hp.1 d.1,oI hp.2 d.2⟩
 |[],_::_,_,d=>d.elim
 |_::_,[],_,d=>d.elim
theorem re {κ κ':Kx} {v:Value} {x:AV} (hp:aU nC x=true) (d:aY κ v x):aY κ' v x:=by
 cases x with
 |val a=>exact ra hp d
 |tup l=>obtain ⟨vs,h1,h2⟩:=d;exact ⟨vs,h1,oI hp h2⟩
 |dead=>trivial
def kIn (w:World) (T:Nat->Prop) (w':World):Kx:=⟨w.heap.size,T,w',fun _=> .slice none 0 0,fun _=>none,0⟩
def BB (P : Program) (f : FuncId) : Prop := ∃ fn, P.funcs[f]? = some fn ∧ fn.name ≠ "runtime.NumGoroutine" ∧ fn.body.isNone = false
def aR (P:Program) (f:FuncId) (args:List A1) (res:AV):Prop:=
 BB P f/\∀(w:World) (T:Nat->Prop) (vs:List Value),(∀b,T b->b<w.heap.size)->dh (kIn w T w) vs args->
  Calls P f vs.toArray w fun e w'=>∃v,e= .returned v/\Below w.heap.size w w'/\aY (kIn w T w') v res
def fK (st:St):C->Option (Prop×C×Bool)
 | .own nm s n sz=>if sz=0 then none else match st.H nm with
  |some B=>some (B.st=s/\al B.cs=true,.sh sz n B.cs,true)
  |none=>none
 | .ptr .. =>none
 | .dead=>none
 |c=>some (ax c=true,c,false)
def gY (st:St):List C->Option (Prop×List C×Bool)
 |[]=>some (True,[],false)
 |c::cs=>match fK st c,gY st cs with
  |some (p,d,b),some (q,ds,b')=>some (p/\q,d::ds,b||b')
  |_,_=>none
def lM (st:St):A1->Option (Prop×A1×Bool)
 | .one c=>match fK st c with
  |some (p,d,b)=>some (p,.one d,b)
  |none=>none
 | .agg cs=>match gY st cs with
  |some (p,ds,b)=>some (p,.agg ds,b)
  |none=>none
def jo (st:St):List AV->Option (Prop×List A1×Bool)
 |[]=>some (True,[],false)
 | .val a::l=>match lM st a,jo st l with
  |some (p,d,b),some (q,ds,b')=>some (p/\q,d::ds,b||b')
  |_,_=>none
 |_=>none
section
variable {P : Program} {e : En} {k0 : Kx} {N : Nat} {st st' : St} {a : Act} {w : World} {σ : Nat → Value} {o : Oper} {p : Prop} {x : AV} {d : Nat} {K : Act → World → Prop} {Q : Exit → Act → World → Prop}
def fd (w:World):Kx:=kIn w (fun b=>b<w.heap.size) w
theorem oJ {w:World} {b:Nat} (h:b<w.heap.size):(fd w).S b:=⟨.inl h,h,fun _ _ h=>by cases h⟩
theorem ut (hW:RW e st.H st.nx σ w) {c d:C} {b:Bool} {v:Value} (hd:den (kx e st.H st.nx σ w) v c) (h:fK st c=some (p,d,b)) (hp:p):
  den (fd w) v d/\ax d=true/\(b=false->d=c):=by
 have toAll:∀b,(kx e st.H st.nx σ w).S b->(fd w).S b/\(fd w).w.heap[b]? =(kx e st.H st.nx σ w).w.heap[b]? :=fun b hb=>⟨oJ hb.2.1,rfl⟩
 cases c with
 |own nm s n sz=>
  simp only [fK] at h;split at h<;>try (cases h;done)
  rename_i hsz;split at h<;>try (cases h;done)
  rename_i B hB;simp only [Option.some.injEq,Prod.mk.injEq] at h;obtain ⟨rfl,rfl,rfl⟩:=h;obtain ⟨hs,hpure⟩:=hp;simp only [den] at hd;obtain ⟨h1,h2,h3⟩:=hd.2.2 B hB hs;subst h2;subst h3;have hpub:=hW.publish hB hsz;refine ⟨?_,by simpa [ax] using hpure,fun h=>by cases h⟩;have h1':v=σ nm:=h1;rw [h1'];exact dK (κ:=kx e (up st.H nm none) st.nx σ w) (fun b hb=>⟨oJ hb.2.1,rfl⟩) (by simpa [ax] using hpure) hpub
 |lit x=>
  simp only [fK,Option.some.injEq,Prod.mk.injEq] at h;obtain ⟨rfl,rfl,rfl⟩:=h
  exact ⟨dK toAll hp hd,hp,fun _=>rfl⟩
 |sh sz n cs=>
  simp only [fK,Option.some.injEq,Prod.mk.injEq] at h;obtain ⟨rfl,rfl,rfl⟩:=h
  exact ⟨dK toAll hp hd,hp,fun _=>rfl⟩
 |sp cs=>
  simp only [fK,Option.some.injEq,Prod.mk.injEq] at h;obtain ⟨rfl,rfl,rfl⟩:=h
  exact ⟨dK toAll hp hd,hp,fun _=>rfl⟩
 |ptr nm s off=>simp only [fK] at h;cases h
 |dead=>simp only [fK] at h;cases h
theorem rf (hW:RW e st.H st.nx σ w):∀{cs ds:List C} {b:Bool} {vs:List Value} {p:Prop},denVs (kx e st.H st.nx σ w) vs cs->gY st cs=some (p,ds,b)->p->denVs (fd w) vs ds/\al ds=true/\(b=false->ds=cs)
 |[],ds,b,[],p,_,h,hp=>by
  simp only [gY,Option.some.injEq,Prod.mk.injEq] at h;obtain ⟨rfl,rfl,rfl⟩:=h;exact ⟨trivial,rfl,fun _=>rfl⟩
 |[],_,_,_::_,_,hd,_,_=>hd.elim
 |_::_,_,_,[],_,hd,_,_=>hd.elim
 |c::cs,ds,b,v::vs,p,hd,h,hp=>by
  simp only [gY] at h;split at h<;>try (cases h;done)
  rename_i p1 d1 b1 p2 d2 b2 h1 h2;simp only [Option.some.injEq,Prod.mk.injEq] at h;obtain ⟨rfl,rfl,rfl⟩:=h;obtain ⟨k1,k2,k3⟩:=ut hW hd.1 h1 hp.1;obtain ⟨m1,m2,m3⟩:=rf hW hd.2 h2 hp.2;refine ⟨⟨k1,m1⟩,by simp [al,k2,m2],fun hb=>?_⟩;simp only [Bool.or_eq_false_iff] at hb;rw [k3 hb.1,m3 hb.2]
theorem BC (hW:RW e st.H st.nx σ w) {x y:A1} {b:Bool} {v:Value} (hd:bl (kx e st.H st.nx σ w) v x) (h:lM st x=some (p,y,b)) (hp:p):bl (fd w) v y/\aD y=true/\(b=false->y=x):=by
 cases x with
 |one c=>
  simp only [lM] at h;split at h<;>try (cases h;done)
  rename_i p1 d1 b1 h1;simp only [Option.some.injEq,Prod.mk.injEq] at h;obtain ⟨rfl,rfl,rfl⟩:=h;obtain ⟨k1,k2,k3⟩:=ut hW hd h1 hp;exact ⟨k1,by simp [aD,A1.cells,al,k2],fun hb=>by rw [k3 hb]⟩
 |agg cs=>
  simp only [lM] at h;split at h<;>try (cases h;done)
  rename_i p1 d1 b1 h1;simp only [Option.some.injEq,Prod.mk.injEq] at h;obtain ⟨rfl,rfl,rfl⟩:=h;obtain ⟨vs,g1,g2⟩:=hd;obtain ⟨k1,k2,k3⟩:=rf hW g2 h1 hp;exact ⟨⟨vs,g1,k1⟩,k2,fun hb=>by rw [k3 hb]⟩
theorem uu (hW:RW e st.H st.nx σ w):∀{l:List AV} {ys:List A1} {b:Bool} {vs:List Value} {p:Prop},(vs.length=l.length/\∀i (h:i<vs.length) (h':i<l.length),aY (kx e st.H st.nx σ w) vs[i] l[i])->jo st l=some (p,ys,b)->p->
  dh (fd w) vs ys/\ys.all aD=true/\(b=false->dh (kx e st.H st.nx σ w) vs ys)
 |[],ys,b,[],p,_,h,hp=>by
  simp only [jo,Option.some.injEq,Prod.mk.injEq] at h;obtain ⟨rfl,rfl,rfl⟩:=h;exact ⟨trivial,rfl,fun _=>trivial⟩
 |[],_,_,_::_,_,hd,_,_=>by simp at hd
 |_::_,_,_,[],_,hd,_,_=>by simp at hd
 | .tup _::_,_,_,_::_,_,_,h,_=>by simp [jo] at h
 | .dead::_,_,_,_::_,_,_,h,_=>by simp [jo] at h
 | .val x::l,ys,b,v::vs,p,hd,h,hp=>by
  simp only [jo] at h;split at h<;>try (cases h;done)
  rename_i p1 d1 b1 p2 d2 b2 h1 h2;simp only [Option.some.injEq,Prod.mk.injEq] at h;obtain ⟨rfl,rfl,rfl⟩:=h;have hd0:bl (kx e st.H st.nx σ w) v x:=hd.2 0 (by simp) (by simp);obtain ⟨k1,k2,k3⟩:=BC hW hd0 h1 hp.1;obtain ⟨m1,m2,m3⟩:=uu hW (l:=l) (vs:=vs) ⟨by simpa using hd.1,fun i h h'=>hd.2 (i+1) (by simpa using h) (by simpa using h')⟩ h2 hp.2;refine ⟨⟨k1,m1⟩,by simp [k2,m2],fun hb=>?_⟩;simp only [Bool.or_eq_false_iff] at hb;exact ⟨by rw [k3 hb.1];exact hd0,m3 hb.2⟩
def sP (a:Act) (c:Call) (f:FuncId):Prop:=∃x,c.callee= .value x/\a.eval x= .func (.func f) #[] #[]
theorem rg {c:Call} {f:FuncId} (hop:o.op= .call c) (hcal:sP a c f) (hf:BB P f):(execOp a.eval o).run P w= .ok (.enter f (c.args.toList.map a.eval).toArray) w:=by
 obtain ⟨fn,hf1,hf2,hf3⟩:=hf;obtain ⟨callee,args,argTypes⟩:=c;obtain ⟨x,hx1,hx2⟩:=hcal;simp only at hx1;subst hx1;have hbn:¬fn.body=none:=fun h=>by rw [h] at hf3;cases hf3
 simp only [execOp,hop,Sem.run_bind,resolve,hx2,Deferred.ofValue];have e1:Array.map a.eval args=(List.map a.eval args.toList).toArray:=by rw [←Array.toList_map,Array.toArray_toList]
 simp [invoke,callFunc,hf1,hf2,hbn,e1]
theorem BD {c:Call} {f:FuncId} (hr:Rel e k0 N st a w) (hdst:o.dst=some d) (hdN:d<N) (hop:o.op= .call c) (hcal:sP a c f)
  {ys:List A1} {b:Bool} (hs:jo st (c.args.toList.map (ev st))=some (p,ys,b)) (hp:p) {res:AV} (hc:aR P f ys res) (hres:aU (if b then nC else aD) res=true)
  (hK:∀a' w',Rel e k0 N ⟨up st.tm d res,st.H,st.nx,st.nb⟩ a' w'->FL w w'->K a' w'):o.wp P a w K Q:=by
 obtain ⟨σ,h1,h2,h3⟩:=hr.ex;obtain ⟨k1,k2,k3⟩:=uu h1 (vs:=c.args.toList.map a.eval) (by
  refine ⟨by simp,fun i h h'=>?_⟩;simp only [List.getElem_map];exact bi h2 _) hs hp
 obtain ⟨hf,hc⟩:=hc;have hrun:=rg (w:=w) hop hcal hf;have key:∀(T:Nat->Prop),(∀b,T b->b<w.heap.size)->dh (kIn w T w) (c.args.toList.map a.eval) ys->(∀v w',Below w.heap.size w w'->aY (kIn w T w') v res->aY (kx e st.H st.nx σ w') v res)->o.wp P a w K Q:=by
  intro T hT hargs hout;unfold Oper.wp;rw [hrun];refine (hc w T _ hT hargs).mono fun ex w' hex=>?_
  obtain ⟨v,rfl,hb,hv⟩:=hex;obtain ⟨q1,q2⟩:=h1.keep (kD hb);show K (a.put o.dst v) w';rw [hdst];exact hK _ _ (hr.put q1 h2 h3 q2 (hout v w' hb hv) d hdN) (FL.of_below hb)
 cases b with
 |true=>
  refine key (fun b=>b<w.heap.size) (fun _ h=>h) k1 fun v w' _ hv=>re (by simpa using hres) hv
 |false=>
  refine key (kx e st.H st.nx σ w).S (fun b hb=>hb.2.1) ?_ fun v w' hb hv=>?_
  ·exact k8 (κ:=kx e st.H st.nx σ w) (κ':=kIn w (kx e st.H st.nx σ w).S w) (fun b hb=>⟨⟨.inl hb,hb.2.1,fun _ _ h=>by cases h⟩,rfl⟩) k2 (k3 rfl)
  refine Ao (κ:=kIn w (kx e st.H st.nx σ w).S w') (κ':=kx e st.H st.nx σ w') (fun b hbS=>⟨?_,rfl⟩) (by simpa using hres) hv;obtain ⟨h5,h6,_⟩:=hbS;rcases h5 with h5|h5
  ·have h5':(kx e st.H st.nx σ w).S b:=h5;exact ⟨h5'.1,h6,h5'.2.2⟩
  refine ⟨.inr (Nat.le_trans h1.size h5),h6,fun nm B hB hob=>?_⟩;have:=(h1.lt hB hob).2;have h5':w.heap.size<=b:=h5;omega
end
def D4 (ag:Bool) (sz off:Nat) (cs:List C):Option A1:=
 if ag then some (.agg ((cs.drop off).take sz)) else (cs[off]?).map .one
theorem BE {ag:Bool} {sz off:Nat} {cs:List C} {a:A1} (h:D4 ag sz off cs=some a):cut ag sz off cs= .val a:=by
 unfold D4 at h;unfold cut;cases ag with
 |true=>simp at h;subst h;rfl
 |false=>
  simp only [Bool.false_eq_true,if_false,Option.map_eq_some_iff] at h;obtain ⟨c,h1,rfl⟩:=h;simp [h1]
def Ap (P:Program) (st:St):ResultVar->Option (Prop×A1)
 | .tmp t=>match st.tm t with
  | .val a=>some (True,a)
  |_=>none
 | .cell t ty=>match st.tm t,ldT P ty with
  | .val (.one (.ptr nm s off)),some (ag,sz)=>match st.H nm with
   |some B=>match D4 ag sz off B.cs with
    |some a=>some (B.st=s/\off+sz<=B.cs.length/\(ag=true∨sz=1),a)
    |none=>none
   |none=>none
  |_,_=>none
def D5:List A1->AV
 |[a]=> .val a
 |l=> .tup l
def sQ:Nat->List A1->Nat->AV
 |_,[]=>fun _=> .dead
 |k,a::l=>up (sQ (k+1) l) k (.val a)
def wR (tmps:Array Value):ResultVar->Sem Value
 | .tmp t=>pure (tmps.getD t undef)
 | .cell b t=>do loadVar t (←asAddr (tmps.getD b undef))
theorem wS (fn:Func) (tmps:Array Value):results fn tmps=(do let vs ←fn.results.mapM (wR tmps);pure (if h:vs.size=1 then vs[0] else .tuple vs)):=by
 unfold results;congr 1
section
variable {P : Program} {e : En} {k0 : Kx} {N : Nat} {st st' : St} {a : Act} {w : World} {σ : Nat → Value}
theorem yF (hW:RW e st.H st.nx σ w) (ht:∀t,aY (kx e st.H st.nx σ w) (a.tmps.getD t undef) (st.tm t)) {r:ResultVar} {p:Prop} {x:A1} (h:Ap P st r=some (p,x)) (hp:p):
  ∃v,(wR a.tmps r).run P w= .ok v w/\bl (kx e st.H st.nx σ w) v x:=by
 cases r with
 |tmp t=>
  simp only [Ap] at h;split at h<;>try (cases h;done)
  rename_i y hy;simp only [Option.some.injEq,Prod.mk.injEq] at h;obtain ⟨rfl,rfl⟩:=h;have:=ht t;rw [hy] at this;exact ⟨_,rfl,this⟩
 |cell t ty=>
  simp only [Ap] at h;split at h<;>try (cases h;done)
  rename_i nm s off ag sz hy hl;split at h<;>try (cases h;done)
  rename_i B hB;split at h<;>try (cases h;done)
  rename_i y hc;simp only [Option.some.injEq,Prod.mk.injEq] at h;obtain ⟨rfl,rfl⟩:=h;obtain ⟨hs,hk,ha⟩:=hp;have h0:=ht t;rw [hy] at h0;obtain ⟨b,h1,h2,xs,h3,h4⟩:=iE hW h0 hB hs;obtain ⟨v,h5,h6⟩:=sL (P:=P) (w:=w) (b:=b) (off:=0) hl h4 hk ha (fun j u hu=>by have:=h3.cells h1 j u hu;rwa [add_lit] at this);rw [BE hc] at h6;refine ⟨v,?_,h6⟩;have:=h5 w (FL.refl w);rw [Nat.zero_add] at this;simp only [Instr.loadAt,Instr.sureAddr,Sem.run_bind,Sem.run_pure,Result.andThen_ok] at this;simp only [wR,h2,asAddr,Sem.run_bind,Sem.run_pure,Result.andThen_ok,this]
theorem uv {κ:Kx}:∀(l:List A1) (vs:List Value) (k:Nat),dh κ vs l->∀t,aY κ (if k<=t then vs.getD (t-k) undef else undef) (sQ k l t)
 |[],[],k,_,t=>trivial
 |[],_::_,_,h,_=>h.elim
 |_::_,[],_,h,_=>h.elim
 |x::l,v::vs,k,h,t=>by
  simp only [sQ];by_cases ht:t=k
  ·subst ht;rw [bI];show bl κ _ x;simpa using h.1
  rw [cA _ _ ht];have:=uv l vs (k+1) h.2 t;by_cases hk:k<=t
  ·rw [if_pos (by omega)] at this;rw [if_pos hk];rw [show t-k=(t-(k+1))+1 by omega];simpa using this
  rw [if_neg (by omega)] at this;rw [if_neg hk];exact this
end
def rh (e:En) (k0:Kx) (N:Nat) (Q:Exit->St->Prop) (ex:Exit) (a:Act) (w:World):Prop:=(∀c,ex≠ .panic c)/\∃st,Q ex st/\Rel e k0 N st a w
def Awp (P:Program) (e:En) (k0:Kx) (N:Nat) (c:Code) (Q:Exit->St->Prop) (st:St):Prop:=∀a w,Rel e k0 N st a w->c.wp P (rh e k0 N Q) a w
def wT (P:Program) (st:St):List ResultVar->Option (Prop×List A1)
 |[]=>some (True,[])
 |r::l=>match Ap P st r,wT P st l with
  |some (p,a),some (q,Jb)=>some (p/\q,a::Jb)
  |_,_=>none
def wU (P:Program) (Rl:List ResultVar) (R:AV->Hp->Nat->Prop) (st:St):Prop:=
 match wT P st Rl with
 |some (p,l)=>p/\R (D5 l) st.H st.nx
 |none=>False
def ArI (P:Program) (Rl:List ResultVar) (R:AV->Hp->Nat->Prop):Exit->St->Prop
 | .normal,st=>wU P Rl R st
 | .ret,st=>wU P Rl R st
 |_,_=>False
def cT (P:Program) (f:FuncId) (args:List A1) (H:Hp) (nx:Nat) (R:AV->Hp->Nat->Prop):Prop:=
 BB P f/\∀(e:En) (σ:Nat->Value) (w:World) (vs:List Value),RW e H nx σ w->dh (kx e H nx σ w) vs args->
  Calls P f vs.toArray w fun ex w'=>∃v res H' nx' σ',ex= .returned v/\RW e H' nx' σ' w'/\Ext (kx e H nx σ w) (kx e H' nx' σ' w')/\aY (kx e H' nx' σ' w') v res/\R res H' nx'
def oK:List AV->Option (List A1)
 |[]=>some []
 | .val a::l=>(oK l).map (a::·)
 |_=>none
section
variable {P : Program} {e : En} {k0 : Kx} {N : Nat} {st st' : St} {a : Act} {w : World} {σ : Nat → Value} {o : Oper} {p : Prop} {x : AV} {d : Nat} {K : Act → World → Prop} {Q : Exit → Act → World → Prop}
theorem yG {κ:Kx}:∀{l:List AV} {ys:List A1} {vs:List Value},(vs.length=l.length/\∀i (h:i<vs.length) (h':i<l.length),aY κ vs[i] l[i])->oK l=some ys->dh κ vs ys
 |[],ys,[],_,h=>by simp [oK] at h;subst h;trivial
 |[],_,_::_,hd,_=>by simp at hd
 |_::_,_,[],hd,_=>by simp at hd
 | .val x::l,ys,v::vs,hd,h=>by
  simp only [oK,Option.map_eq_some_iff] at h;obtain ⟨zs,h1,rfl⟩:=h;exact ⟨hd.2 0 (by simp) (by simp),yG (l:=l) ⟨by simpa using hd.1,fun i h h'=>hd.2 (i+1) (by simpa using h) (by simpa using h')⟩ h1⟩
 | .tup _::_,_,_::_,_,h=>by simp [oK] at h
 | .dead::_,_,_::_,_,h=>by simp [oK] at h
theorem iJ {κ:Kx}:∀{vs:List Value} {l:List A1},dh κ vs l->vs.length=l.length
 |[],[],_=>rfl
 |_::_,_::_,h=>congrArg (·+1) (iJ h.2)
 |[],_::_,h=>h.elim
 |_::_,[],h=>h.elim
theorem oL {κ:Kx} {vs:List Value} {args:List A1} {n:Nat} (hd:dh κ vs args) (hn:args.length<=n):
  (∀t,aY κ ((vs.toArray++Array.replicate (n-vs.toArray.size) undef).getD t undef) (sQ 0 args t))/\(vs.toArray++Array.replicate (n-vs.toArray.size) undef).size=n:=by
 have hlen:=iJ hd;refine ⟨fun t=>?_,by simp;omega⟩;have:=uv args vs 0 hd t;simp only [Nat.zero_le,if_true,Nat.sub_zero] at this;have e1:(vs.toArray++Array.replicate (n-vs.toArray.size) undef).getD t undef=vs.getD t undef:=by
  rw [Array.getD_eq_getD_getElem?,List.getD_eq_getElem?_getD];rcases Nat.lt_or_ge t vs.length with ht|ht
  ·rw [Array.getElem?_append_left (by simpa using ht)];simp
  rw [Array.getElem?_append_right (by simpa using ht),List.getElem?_eq_none ht];simp only [Array.getElem?_replicate];split<;>rfl
 rw [e1];exact this
theorem yH (hW:RW e st.H st.nx σ w) (ht:∀t,aY (kx e st.H st.nx σ w) (a.tmps.getD t undef) (st.tm t)):∀{l:List ResultVar} {p:Prop} {xs:List A1},wT P st l=some (p,xs)->p->
  ∃vs,(l.mapM (wR a.tmps)).run P w= .ok vs w/\dh (kx e st.H st.nx σ w) vs xs
 |[],p,xs,h,_=>by
  simp only [wT,Option.some.injEq,Prod.mk.injEq] at h;obtain ⟨rfl,rfl⟩:=h;exact ⟨[],rfl,trivial⟩
 |r::l,p,xs,h,hp=>by
  simp only [wT] at h;split at h<;>try (cases h;done)
  rename_i p1 a1 q Jb h1 h2;simp only [Option.some.injEq,Prod.mk.injEq] at h;obtain ⟨rfl,rfl⟩:=h;obtain ⟨v,k1,k2⟩:=yF hW ht h1 hp.1;obtain ⟨vs,k3,k4⟩:=yH hW ht h2 hp.2;refine ⟨v::vs,?_,k2,k4⟩;rw [List.mapM_cons];simp only [Sem.run_bind,k1,k3,Result.andThen_ok,Sem.run_pure]
theorem yI {κ:Kx} {fn:Func} {tmps:Array Value} {vs:List Value} {l:List A1} (k1:(fn.results.toList.mapM (wR tmps)).run P w= .ok vs w) (k2:dh κ vs l):∃v,(results fn tmps).run P w= .ok v w/\aY κ v (D5 l):=by
 have hm:(fn.results.mapM (wR tmps)).run P w= .ok vs.toArray w:=by
  rw [Array.mapM_eq_mapM_toList];simp only [Sem.run_map,k1,Result.andThen_ok]
 have hlen:=iJ k2;have hr:(results fn tmps).run P w= .ok (if h:vs.toArray.size=1 then vs.toArray[0] else .tuple vs.toArray) w:=by
  rw [wS,Sem.run_bind,hm];rfl
 refine ⟨_,hr,?_⟩;match l,vs,k2,hlen with
 |[x],[v],k2,_=>exact k2.1
 |[],[],k2,_=>exact ⟨[],rfl,trivial⟩
 |x::y::l,v::u::vs,k2,_=>exact ⟨v::u::vs,by simp,k2⟩
theorem cF {f : FuncId} {fn : Func} {c : Code} {args : List A1} {H : Hp} {nx : Nat} {R : AV → Hp → Nat → Prop} (nb : Nat) (hf : P.funcs[f]? = some fn) (hb : fn.body = some c) (hn : fn.name ≠ "runtime.NumGoroutine") {N : Nat} (hNt : fn.ntmps = N) (hN : args.length ≤ N)
    {Rl : List ResultVar} (hR : fn.results.toList = Rl) (h : ∀ e k0, Awp P e k0 N c (ArI P Rl R) ⟨sQ 0 args, H, nx, nb⟩) : cT P f args H nx R := by
  subst hNt hR
  refine ⟨⟨fn, hf, hn, by rw [hb]; rfl⟩, fun e σ w vs h1 hargs => ?_⟩
  obtain ⟨t1, t2⟩ := oL (n := fn.ntmps) hargs hN
  have hrel : Rel e (kx e H nx σ w) fn.ntmps ⟨sQ 0 args, H, nx, nb⟩ { tmps := vs.toArray ++ Array.replicate (fn.ntmps - vs.toArray.size) undef, defers := [] } w :=
    ⟨⟨σ, h1, t1, Ext.refl _⟩, rfl, t2⟩
  have fin : ∀ st' a' w', Rel e (kx e H nx σ w) fn.ntmps st' a' w' → wU P fn.results.toList R st' →
      a'.defers = [] ∧ ∃ v, (results fn a'.tmps).run P w' = .ok v w' ∧ ∃ v' res H' nx' σ', Ending.returned v = .returned v' ∧ RW e H' nx' σ' w' ∧ Ext (kx e H nx σ w) (kx e H' nx' σ' w') ∧ aY (kx e H' nx' σ' w') v' res ∧ R res H' nx' := by
    intro st' a' w' hr' hq
    obtain ⟨σ', g1, g2, g3⟩ := hr'.ex
    unfold wU at hq
    split at hq <;> try (exact hq.elim; done)
    rename_i p l hl
    obtain ⟨vs, m1, m2⟩ := yH g1 g2 hl hq.1
    obtain ⟨v, m3, m4⟩ := yI (fn := fn) m1 m2
    exact ⟨hr'.df, v, m3, v, _, _, _, σ', rfl, g1, g3, m4, hq.2⟩
  refine calls_of_wp hf hb ?_
  refine wp_mono (h e _ _ w hrel) fun ex a' w' ⟨hp, st', hq, hr'⟩ => ?_
  cases ex with
  | normal => exact fin st' a' w' hr' hq
  | ret => exact fin st' a' w' hr' hq
  | panic c => exact (hp c rfl).elim
  | exit i => exact hq.elim
  | goto l => exact hq.elim
  | outgrown => exact hq.elim
theorem Aq {c:Call} {f:FuncId} (hr:Rel e k0 N st a w) (hdst:o.dst=some d) (hdN:d<N) (hop:o.op= .call c) (hcal:sP a c f)
  {ys:List A1} (hs:oK (c.args.toList.map (ev st))=some ys) {R:AV->Hp->Nat->Prop} (hc:cT P f ys st.H st.nx R)
  (hK:∀res H nx,R res H nx->∀a' w',Rel e k0 N ⟨up st.tm d res,H,nx,st.nb⟩ a' w'->K a' w'):o.wp P a w K Q:=by
 obtain ⟨σ,h1,h2,h3⟩:=hr.ex;obtain ⟨hf,hc⟩:=hc;have hargs:=yG (κ:=kx e st.H st.nx σ w) (vs:=c.args.toList.map a.eval) (by
  refine ⟨by simp,fun i h h'=>?_⟩;simp only [List.getElem_map];exact bi h2 _) hs
 have hrun:=rg (w:=w) hop hcal hf;unfold Oper.wp;rw [hrun];refine (hc e σ w _ h1 hargs).mono fun ex w' hex=>?_
 obtain ⟨v,res,H',nx',σ',rfl,g1,g2,g3,g4⟩:=hex;show K (a.put o.dst v) w';rw [hdst];exact hK _ _ _ g4 _ _ (hr.put g1 h2 h3 g2 g3 d hdN)
end
def dj (ops:Array Oper):List (Option (Nat×Bool)):=
 ops.toList.map fun o=>match o.guard with
  |none=>none
  |some (j,want)=>some (((ops[j]?).bind (·.dst)).getD 1000000,want)
def gd (g:Option (Nat×Bool)) (st:St):Option Bool:=
 match g with
 |none=>some true
 |some (s,want)=>match st.tm s with
  | .val (.one (.lit (.bool b)))=>some (b==want)
  | .tup _=>some false
  |_=>none
def fy (st:St) (dst:Option Nat) (x:AV):St:=
 match dst with
 |some d=>⟨up st.tm d x,st.H,st.nx,st.nb⟩
 |none=>st
def orS (a b:Option (Prop×AV)):Option (Prop×AV):=
 match a with
 |some r=>some r
 |none=>b
def fe (P:Program) (st:St) (op:Op):Option (Prop×AV):=
 match op with
 | .build t parts=>iG P st t parts
 | .lookup t m k ok=>jS P st (.lookup t m k ok)
 | .slice t x lo hi none=>orS (lL P st t x lo hi) (ui P st (.slice t x lo hi none))
 | .call {callee:= .builtin .cap,args,argTypes}=>lJ P st args argTypes
 | .call {callee:= .builtin .min,args,..}=>lK false st args
 | .call {callee:= .builtin .max,args,..}=>lK true st args
 |op=>ui P st op
def g8:Op->Bool
 | .store .. =>true
 | .mapUpdate .. =>true
 | .call {callee:= .builtin .append,..}=>true
 |_=>false
def ak (K:St->Prop) (st:St):Prop:=K st
def nU (r:Option (Prop×AV)) (d N:Nat) (K:St->Prop) (st:St):Prop:=
 match r with
 |some (p,x)=>d<N/\p/\K ⟨up st.tm d x,st.H,st.nx,st.nb⟩
 |none=>False
def iK (r:Option (Prop×St)) (d N:Nat) (K:St->Prop):Prop:=
 match r with
 |some (p,st')=>d<N/\p/\K st'
 |none=>False
def yJ (r1 r2:Option (Prop×St)) (d N:Nat) (K:St->Prop):Prop:=
 match r1 with
 |some x=>iK (some x) d N K
 |none=>iK r2 d N K
def yK (r1:Option (Prop×St)) (r2:Option (Prop×AV)) (d N:Nat) (K:St->Prop) (st:St):Prop:=
 match r1 with
 |some x=>iK (some x) d N K
 |none=>nU r2 d N K st
def BF (r:Option (Prop×St)) (K:St->Prop):Prop:=
 match r with
 |some (p,st')=>p/\K st'
 |none=>False
def D6 (P:Program) (f:FuncId) (r:Option (Prop×List A1×Bool)) (d N:Nat) (K:St->Prop) (st:St):Prop:=
 match r with
 |some (p,ys,b)=>d<N/\p/\∃res,aR P f ys res/\aU (if b then nC else aD) res=true/\ak K ⟨up st.tm d res,st.H,st.nx,st.nb⟩
 |none=>False
def BG (R:AV->Hp->Nat->Prop) (d:Nat) (K:St->Prop) (tm:Nat->AV) (nb:Nat):Prop:=∀res H nx,R res H nx->K ⟨up tm d res,H,nx,nb⟩
def D7 (P:Program) (f:FuncId) (r:Option (List A1)) (d N:Nat) (K:St->Prop) (st:St):Prop:=
 match r with
 |some ys=>d<N/\∃R,cT P f ys st.H st.nx R/\BG R d K st.tm st.nb
 |none=>False
def fA:List Nat->Nat->Bool
 |[],_=>false
 |x::l,d=>x==d||fA l d
def BH (P:Program) (f:FuncId) (inl:Bool) (xs:List AV) (d N:Nat) (K:St->Prop) (st:St):Prop:=
 match inl with
 |true=>D7 P f (oK xs) d N K st
 |false=>D6 P f (jo st xs) d N K st
def FE:AV->Option FuncId
 | .val (.one (.lit (.func (.func f) fi ca)))=>if fi= #[]/\ca= #[] then some f else none
 |_=>none
def FF (P:Program) (f:Option FuncId) (inl:Bool) (xs:List AV) (d N:Nat) (K:St->Prop) (st:St):Prop:=
 match f with
 |some f=>BH P f inl xs d N K st
 |none=>False
def f7 (P:Program) (N:Nat) (I:List Nat) (st:St) (o:Oper) (K:St->Prop):Prop:=
 match o.op,o.dst with
 | .call {callee:= .value x,args,..},some d=>FF P (FE (ev st x)) (fA I d) (args.toList.map (ev st)) d N K st
 | .call {callee:= .builtin .append,args,argTypes},some d=>yJ (D3 P st d args argTypes) (eff P st d (.call {callee:= .builtin .append,args,argTypes})) d N K
 | .slice t x lo hi none,some d=>yK (yD P st d t x lo hi) (fe P st (.slice t x lo hi none)) d N K st
 | .store t x y,none=>BF (eff P st 0 (.store t x y)) K
 | .mapUpdate t m k v,none=>BF (sO P st t m k v) K
 | .makeMap t none,some d=>iK (yC P st d t) d N K
 | .alloc t,some d=>iK (eff P st d (.alloc t)) d N K
 | .box t x,some d=>iK (eff P st d (.box t x)) d N K
 | .buildSlice t l ps,some d=>iK (eff P st d (.buildSlice t l ps)) d N K
 | .makeSlice t l c,some d=>iK (eff P st d (.makeSlice t l c)) d N K
 |op,some d=>nU (fe P st op) d N K st
 |_,none=>False
section
variable {P : Program} {e : En} {k0 : Kx} {N : Nat} {st st' : St} {a : Act} {w : World} {σ : Nat → Value} {o : Oper} {p : Prop} {x : AV} {d : Nat} {K : Act → World → Prop} {Q : Exit → Act → World → Prop}
theorem mH (hW:RW e st.H st.nx σ w) (ht:∀t,aY (kx e st.H st.nx σ w) (a.tmps.getD t undef) (st.tm t)) (h:fe P st o.op=some (p,x)) (hp:p):Yl P o a w (kx e st.H st.nx σ w) x:=by
 unfold fe at h;split at h
 ·rename_i hop;exact qH ht hop h hp
 ·rename_i hop;rw [←hop] at h;exact sN hW ht h hp
 ·rename_i hop;unfold orS at h;split at h
  ·rename_i hn;obtain rfl:=Option.some.inj h;exact ur ht hop hn hp
  exact uk hW ht (by rw [hop];exact h) hp
 ·rename_i hop;exact uq ht hop h
 ·rename_i hop;exact oH false ht hop h
 ·rename_i hop;exact oH true ht hop h
 exact uk hW ht h hp
theorem uw (hr:Rel e k0 N st a w) (hdst:o.dst=some d) (hdN:d<N) (h:fe P st o.op=some (p,x)) (hp:p) (hK:∀a' w',Rel e k0 N ⟨up st.tm d x,st.H,st.nx,st.nb⟩ a' w'->FL w w'->K a' w'):o.wp P a w K Q:=by
 obtain ⟨σ,h1,h2,h3⟩:=hr.ex;obtain ⟨v,k1,k2⟩:=mH h1 h2 h hp;refine fb (k1 w (.inl (FL.refl w))) ?_;rw [hdst];exact hK _ _ (hr.put h1 h2 h3 (Ext.refl _) k2 d hdN) (FL.refl w)
theorem jp {I : List Nat} {S : St → Prop} (hr : Rel e k0 N st a w) (h : f7 P N I st o S) (hK : ∀ st' a' w', S st' → Rel e k0 N st' a' w' → (I = [] → g8 o.op = false → FL w w') → K a' w') : o.wp P a w K Q := by
  unfold f7 at h
  split at h <;> try (exact h.elim; done)
  · rename_i x args tys d hop hdst
    unfold FF at h
    split at h <;> try (exact h.elim; done)
    rename_i f hfn
    have hg : sP a { callee := .value x, args := args, argTypes := tys } f := by
      obtain ⟨σ, _, h2, _⟩ := hr.ex
      have h3 := bi h2 x
      unfold FE at hfn
      split at hfn <;> try (cases hfn; done)
      rename_i g fi ca hev
      split at hfn <;> try (cases hfn; done)
      rename_i hc
      obtain rfl := Option.some.inj hfn
      rw [hev] at h3
      simp only [aY, bl, den] at h3
      exact ⟨x, rfl, by rw [h3.1, hc.1, hc.2]⟩
    unfold BH at h
    split at h
    · rename_i hin
      unfold D7 at h
      split at h <;> try (exact h.elim; done)
      rename_i ys hs
      obtain ⟨hd, R, hc, hL⟩ := h
      refine Aq hr hdst hd hop hg hs hc fun res H nx hR a' w' h1 => hK _ a' w' (hL res H nx hR) h1 fun hI => ?_
      subst hI
      simp [fA] at hin
    unfold D6 at h
    split at h <;> try (exact h.elim; done)
    rename_i p ys b hs
    obtain ⟨hd, hp, res, hc, hres, hS⟩ := h
    exact BD hr hdst hd hop hg hs hp hc hres fun a' w' h1 h2 => hK _ a' w' hS h1 fun _ _ => h2
  · rename_i args tys d hop hdst
    unfold yJ at h
    split at h
    · rename_i x hz
      obtain ⟨p, st'⟩ := x
      obtain ⟨hd, hp, hS⟩ := h
      refine BA (st' := st') hr hdst hd hop hz hp fun a' w' h1 => hK _ a' w' hS h1 fun _ hw => ?_
      rw [hop] at hw
      simp [g8] at hw
    unfold iK at h
    split at h <;> try (exact h.elim; done)
    rename_i p st' he
    obtain ⟨hd, hp, hS⟩ := h
    have he2 := he
    simp only [eff] at he2
    split at he2 <;> try (cases he2; done)
    rename_i s y t t' ha hty
    have hae : args = #[s, y] := Array.toList_inj.1 ha
    have hte : tys = #[t, t'] := Array.toList_inj.1 hty
    refine Ak (st' := st') hr hdst hd hop rfl hae hte (by rw [hop]; exact he) hp fun a' w' h1 => hK _ a' w' hS h1 fun _ hw => ?_
    rw [hop] at hw
    simp [g8] at hw
  · rename_i t x lo hi d hop hdst
    unfold yK at h
    split at h
    · rename_i x hz
      obtain ⟨p, st'⟩ := x
      obtain ⟨hd, hp, hS⟩ := h
      exact An (st' := st') hr hdst hd hop hz hp fun a' w' h1 h2 => hK _ a' w' hS h1 fun _ _ => h2
    unfold nU at h
    split at h <;> try (exact h.elim; done)
    rename_i p x he
    obtain ⟨hd, hp, hS⟩ := h
    exact uw hr hdst hd (by rw [hop]; exact he) hp fun a' w' h1 h2 => hK _ a' w' hS h1 fun _ _ => h2
  · rename_i t x y hop hdst
    unfold BF at h
    split at h <;> try (exact h.elim; done)
    rename_i p st' he
    obtain ⟨hp, hS⟩ := h
    refine By (d := 0) (st' := st') hr hdst hop (by rw [hop]; exact he) hp fun a' w' h1 => hK _ a' w' hS h1 fun _ hw => ?_
    rw [hop] at hw
    simp [g8] at hw
  · rename_i t m k v hop hdst
    unfold BF at h
    split at h <;> try (exact h.elim; done)
    rename_i p st' he
    obtain ⟨hp, hS⟩ := h
    refine FD (st' := st') hr hdst hop he hp fun a' w' h1 => hK _ a' w' hS h1 fun _ hw => ?_
    rw [hop] at hw
    simp [g8] at hw
  · rename_i t d hop hdst
    unfold iK at h
    split at h <;> try (exact h.elim; done)
    rename_i p st' he
    obtain ⟨hd, hp, hS⟩ := h
    exact Hc (st' := st') hr hdst hd hop he fun a' w' h1 h2 => hK _ a' w' hS h1 fun _ _ => h2
  all_goals
    rename_i hop hdst
    first
      | unfold iK at h
      | unfold nU at h
    split at h <;> try (exact h.elim; done)
    first
      | (rename_i p st' he
         obtain ⟨hd, hp, hS⟩ := h
         exact FC (st' := st') hr hdst hd (by rw [hop]; exact he) hp (by rw [hop]; intro c; simp) (by rw [hop]; intro t x y; simp) fun a' w' h1 h2 => hK _ a' w' hS h1 fun _ _ => h2)
      | (rename_i p x he
         obtain ⟨hd, hp, hS⟩ := h
         exact uw hr (by assumption) hd he hp fun a' w' h1 h2 => hK _ a' w' hS h1 fun _ _ => h2)
theorem fp {ops : Array Oper} {b : Bool} {g : Option (Nat × Bool)} (hr : Rel e k0 N st a w) (hN : N < 1000000) (hgo : g = match o.guard with
    | none => none
    | some (j, want) => some (((ops[j]?).bind (·.dst)).getD 1000000, want)) (h : gd g st = some b) : Region.wanted o (yielded ops a.tmps) = b := by
  unfold gd at h
  split at h
  · obtain rfl := Option.some.inj h
    cases hg : o.guard with
    | none => simp [Region.wanted, hg]
    | some q => rw [hg] at hgo; cases hgo
  rename_i s want
  cases hg : o.guard with
  | none => rw [hg] at hgo; cases hgo
  | some q =>
    obtain ⟨j, want'⟩ := q
    rw [hg] at hgo
    simp only [Option.some.injEq, Prod.mk.injEq] at hgo
    obtain ⟨hs, rfl⟩ := hgo
    split at h <;> try (cases h; done)
    rotate_left
    · rename_i l ht
      obtain rfl := Option.some.inj h
      obtain ⟨σ, _, h2, _⟩ := hr.ex
      have h3 := h2 s
      rw [ht] at h3
      obtain ⟨vs, h4, _⟩ := h3
      have hy : ∀ b, yielded ops a.tmps j ≠ some b := fun b hb => by
        cases hd : (ops[j]?).bind (·.dst) with
        | none => simp [yielded, hd] at hb
        | some s' =>
          have hss : s' = s := by rw [hd] at hs; simpa using hs.symm
          rw [hss] at hd
          by_cases hlt : s < a.tmps.size
          · have h5 : a.tmps[s]? = some (.tuple vs.toArray) := by
              simp only [Array.getD, hlt, dif_pos] at h4
              simp [hlt]; exact h4
            simp [yielded, hd, h5] at hb
          have h5 : a.tmps[s]? = none := Array.getElem?_eq_none (Nat.not_lt.1 hlt)
          simp [yielded, hd, h5] at hb
      simp only [Region.wanted, hg]
      cases hyy : yielded ops a.tmps j with
      | none => rfl
      | some b => exact absurd hyy (hy b)
    rename_i t ht
    obtain rfl := Option.some.inj h
    obtain ⟨σ, _, h2, _⟩ := hr.ex
    have h3 := h2 s
    rw [ht] at h3
    simp only [aY, bl, den] at h3
    have hlt : s < a.tmps.size := by
      rcases Nat.lt_or_ge s a.tmps.size with h | h
      · exact h
      have := h3.1
      simp [Array.getD, Nat.not_lt.2 h, undef] at this
    have hsz := hr.sz
    have hds : (ops[j]?).bind (·.dst) = some s := by
      cases hd : (ops[j]?).bind (·.dst) with
      | none => rw [hd] at hs; simp at hs; omega
      | some s' => rw [hd] at hs; simp at hs; rw [hs]
    have hv : a.tmps[s]? = some (.bool t) := by
      have := h3.1
      simp only [Array.getD, hlt, dif_pos] at this
      simp [hlt]; exact this
    simp [Region.wanted, hg, yielded, hds, hv]
theorem Rel.dead (hr:Rel e k0 N st a w) (dst:Option Nat):Rel e k0 N (fy st dst (.tup [])) (a.put dst undef) w:=by
 obtain ⟨σ,h1,h2,h3⟩:=hr.ex;cases dst with
 |none=>exact hr
 |some d=>
  by_cases hd:d<N
  ·exact hr.put h1 h2 h3 (Ext.refl _) (x:= .tup []) ⟨[],rfl,trivial⟩ d hd
  refine ⟨⟨σ,h1,fun t=>?_,h3⟩,hr.df,by simp [Act.put,hr.sz]⟩;have hsz:=hr.sz;have:a.tmps.setIfInBounds d undef=a.tmps:=by
   apply Array.ext
   ·simp
   intro i h4 h5;rw [Array.getElem_setIfInBounds (by simpa using h4)];rw [if_neg (by omega)]
  simp only [Act.put,this,fy];by_cases htd:t=d
  ·subst htd;rw [bI];exact ⟨[],by simp [Array.getD,hsz,hd,undef],trivial⟩
  rw [cA _ _ htd];exact h2 t
end
def AL (P:Program) (N:Nat) (I:List Nat) (Q:St->Prop):List Oper->List (Option (Nat×Bool))->St->Prop
 |o::os,g::gs,st=>match gd g st with
  |some true=>f7 P N I st o (AL P N I Q os gs)
  |some false=>AL P N I Q os gs (fy st o.dst (.tup []))
  |none=>False
 |[],_,st=>Q st
 |_,_,_=>False
inductive SchO where
 |nil:SchO
 |take:Oper->Option (Nat×Bool)->SchO->SchO
 |eff:Oper->Option (Nat×Bool)->SchO->SchO
 |two:Oper->Oper->SchO->SchO->SchO
def SchO.fits (ops:Array Oper) (gs:List (Option (Nat×Bool))):SchO->Sch->Prop
 | .nil,.nil=>True
 | .take o g r,.cons i true s=>ops[i]? =some o/\gs[i]? =some g/\SchO.fits ops gs r s
 | .eff o g r,.cons i false s=>ops[i]? =some o/\gs[i]? =some g/\SchO.fits ops gs r s
 | .two oi oj r r',.two i j s s'=>ops[i]? =some oi/\gs[i]? =some none/\ops[j]? =some oj/\gs[j]? =some none/\SchO.fits ops gs r s/\SchO.fits ops gs r' s'
 |_,_=>False
def SchO.mk (ops:Array Oper) (gs:List (Option (Nat×Bool))):Sch->Option SchO
 | .nil=>some .nil
 | .cons i b r=>match ops[i]?,gs[i]?,SchO.mk ops gs r with
  |some o,some g,some r'=>some (if b then .take o g r' else .eff o g r')
  |_,_,_=>none
 | .two i j r s=>match ops[i]?,gs[i]?,ops[j]?,gs[j]?,SchO.mk ops gs r,SchO.mk ops gs s with
  |some oi,some none,some oj,some none,some r',some s'=>some (.two oi oj r' s')
  |_,_,_,_,_,_=>none
theorem SchO.mk_fits {ops:Array Oper} {gs:List (Option (Nat×Bool))}:∀{s:Sch} {r:SchO},SchO.mk ops gs s=some r->SchO.fits ops gs r s
 | .nil,r,h=>by simp [SchO.mk] at h;subst h;trivial
 | .cons i b s,r,h=>by
  simp only [SchO.mk] at h;split at h<;>try (cases h;done)
  rename_i o g r' h1 h2 h3;obtain rfl:=Option.some.inj h;cases b
  ·exact ⟨h1,h2,SchO.mk_fits h3⟩
  exact ⟨h1,h2,SchO.mk_fits h3⟩
 | .two i j s s',r,h=>by
  simp only [SchO.mk] at h;split at h<;>try (cases h;done)
  rename_i oi oj r1 r2 h1 h2 h3 h4 h5 h6;obtain rfl:=Option.some.inj h;exact ⟨h1,h2,h3,h4,SchO.mk_fits h5,SchO.mk_fits h6⟩
def AT (P:Program) (N:Nat) (Q:St->Prop):SchO->St->Prop
 | .nil,st=>Q st
 | .take o g r,st=>match gd g st with
  |some true=>match o.dst,fe P st o.op with
   |some d,some (p,x)=>d<N/\p/\AT P N Q r ⟨up st.tm d x,st.H,st.nx,st.nb⟩
   |_,_=>False
  |some false=>AT P N Q r (fy st o.dst (.tup []))
  |none=>False
 | .eff o g r,st=>match gd g st with
  |some true=>f7 P N [] st o (AT P N Q r)
  |some false=>AT P N Q r (fy st o.dst (.tup []))
  |none=>False
 | .two oi oj r s,st=>f7 P N [] st oi (AT P N Q r)/\f7 P N [] st oj (AT P N Q s)
section
variable {P : Program} {e : En} {k0 : Kx} {N : Nat} {st st' : St} {Q : Exit → St → Prop} {ops : Array Oper}
theorem BI {I:List Nat} (hN:N<1000000):∀(l:List Oper) (gs:List (Option (Nat×Bool))) (st:St) (a:Act) (w:World),(gs=l.map fun o=>match o.guard with
  |none=>none
  |some (j,want)=>some (((ops[j]?).bind (·.dst)).getD 1000000,want))->AL P N I (Q .normal) l gs st->Rel e k0 N st a w->wpList P ops (rh e k0 N Q) l a w
 |[],_,st,a,w,_,h,hr=>by
  simp only [AL] at h;exact ⟨fun c=>by simp,st,h,hr⟩
 |o::os,[],_,_,_,hg,_,_=>by simp at hg
 |o::os,g::gs,st,a,w,hgs,h,hr=>by
  simp only [List.map_cons,List.cons.injEq] at hgs;simp only [AL] at h;split at h<;>try (exact h.elim;done)
  ·rename_i hg;refine wpList_step fun K hK=>?_
   rw [if_pos (fp hr hN hgs.1 hg)];exact jp hr h fun st' a' w' hS hr' _=>hK _ _ (BI hN os gs st' a' w' hgs.2 hS hr')
  rename_i hg;refine wpList_step fun K hK=>?_
  rw [if_neg (by rw [fp hr hN hgs.1 hg];simp)];exact hK _ _ (BI hN os gs _ _ _ hgs.2 h (hr.dead o.dst))
def lg (ops:Array Oper) (i:Nat):Bool:=match ops[i]? with
 |some o=> !(g8 o.op)
 |none=>true
theorem dk {i:Nat} {o:Oper} {g:Option (Nat×Bool)} (ho:ops[i]? =some o) (hg:(dj ops)[i]? =some g):g=match o.guard with
  |none=>none
  |some (j,want)=>some (((ops[j]?).bind (·.dst)).getD 1000000,want):=by
 unfold dj at hg;rw [List.getElem?_map,Array.getElem?_toList,ho] at hg;exact (Option.some.inj hg).symm
theorem oM (hN:N<1000000):∀(s:Sch) (r:SchO) (st:St) (a:Act) (w:World),SchO.fits ops (dj ops) r s->AT P N (Q .normal) r st->Rel e k0 N st a w->wpP P ops (rh e k0 N Q) (lg ops) s a w
 | .nil,r,st,a,w,hf,h,hr=>by
  cases r<;>simp only [SchO.fits] at hf;exact ⟨fun c=>by simp,st,h,hr⟩
 | .cons i true s,r,st,a,w,hf,h,hr=>by
  cases r<;>simp only [SchO.fits] at hf;rename_i o g r;obtain ⟨ho,hgi,hf⟩:=hf;have hgo:=dk ho hgi;simp only [AT] at h;obtain ⟨σ,h1,h2,h3⟩:=hr.ex;split at h<;>try (exact h.elim;done)
  ·rename_i hg;split at h<;>try (exact h.elim;done)
   rename_i d p x hdst hs;obtain ⟨hd,hp,hS⟩:=h;obtain ⟨v,k1,k2⟩:=mH h1 h2 hs hp;refine ⟨o,v,ho,.inl ⟨fp hr hN hgo hg,k1⟩,oM hN s r _ _ _ hf hS ?_⟩;rw [hdst];exact hr.put h1 h2 h3 (Ext.refl _) k2 d hd
  rename_i hg;exact ⟨o,undef,ho,.inr ⟨fp hr hN hgo hg,rfl⟩,oM hN s r _ _ _ hf h (hr.dead o.dst)⟩
 | .cons i false s,r,st,a,w,hf,h,hr=>by
  cases r<;>simp only [SchO.fits] at hf;rename_i o g r;obtain ⟨ho,hgi,hf⟩:=hf;have hgo:=dk ho hgi;simp only [AT] at h;show wpOp P ops _ i _ a w;unfold wpOp;simp only [ho];split at h<;>try (exact h.elim;done)
  ·rename_i hg;rw [if_pos (fp hr hN hgo hg)];exact .inl (jp hr h fun st' a' w' hS hr' hF=>⟨fun hk=>hF rfl (by simpa [lg,ho] using hk),oM hN s r _ _ _ hf hS hr'⟩)
  rename_i hg;rw [if_neg (by rw [fp hr hN hgo hg];simp)];exact ⟨fun _=>FL.refl w,oM hN s r _ _ _ hf h (hr.dead o.dst)⟩
 | .two i j s s',r,st,a,w,hf,h,hr=>by
  cases r<;>simp only [SchO.fits] at hf;rename_i oi oj r r';obtain ⟨hi,hgi,hj,hgj,hf1,hf2⟩:=hf;have g1:Region.wanted oi (yielded ops a.tmps)=true:=fp hr hN (dk hi hgi) rfl;have g2:Region.wanted oj (yielded ops a.tmps)=true:=fp hr hN (dk hj hgj) rfl;simp only [AT] at h;obtain ⟨s1,s2⟩:=h;refine ⟨?_,?_⟩
  ·show wpOp P ops _ i _ a w;unfold wpOp;simp only [hi];rw [if_pos g1];exact .inl (jp hr s1 fun st' a' w' hS hr' hF=>⟨fun hk=>hF rfl (by simpa [lg,hi] using hk),oM hN s r _ _ _ hf1 hS hr'⟩)
  show wpOp P ops _ j _ a w;unfold wpOp;simp only [hj];rw [if_pos g2];exact .inl (jp hr s2 fun st' a' w' hS hr' hF=>⟨fun hk=>hF rfl (by simpa [lg,hj] using hk),oM hN s' r' _ _ _ hf2 hS hr'⟩)
theorem oN (I:List Nat) {id:Nat} {l:List Oper} {gs:List (Option (Nat×Bool))} (hl:ops.toList=l) (hg:dj ops=gs) (hN:decide (N<1000000)=true) (h:AL P N I (Q .normal) l gs st):Awp P e k0 N (.region id ops false) Q st:=fun a w hr=>by
 subst hl;exact wp_region_list (BI (of_decide_eq_true hN) _ gs _ _ _ hg.symm h hr)
theorem Ar {id:Nat} (hm:P.follows .mixedOrders=true) (s:Sch) (hB:(Region.noSelect ops&&decide (s.len=ops.size)&&fx .any ops (lg ops) s (Array.replicate ops.size false))=true)
  {gs:List (Option (Nat×Bool))} (hg:dj ops=gs) {r:SchO} (hr:SchO.mk ops gs s=some r) (hN:decide (N<1000000)=true) (h:AT P N (Q .normal) r st):Awp P e k0 N (.region id ops true) Q st:=fun a w hr'=>by
 subst hg;exact jm hm s (lg ops) hB (fun c a d v w hq=>(hq.1 c rfl).elim) (oM (of_decide_eq_true hN) s r st a _ (SchO.mk_fits hr) h hr'.drew)
def jf (R:St->Prop) (Q:Exit->St->Prop):Exit->St->Prop
 | .normal,st=>R st
 |ex,st=>Q ex st
def lh (id:Nat) (Q:Exit->St->Prop):Exit->St->Prop
 | .exit i,st=>if i=id then Q .normal st else Q (.exit i) st
 |ex,st=>Q ex st
theorem n8 {x y:Code} (h:Awp P e k0 N x (jf (Awp P e k0 N y Q) Q) st):Awp P e k0 N (.seq x y) Q st:=fun a w hr=>by
 refine wp_seq (wp_mono (h a w hr) fun ex a' w' ⟨hp,st',hq,hr'⟩=>?_);cases ex with
 |normal=>exact hq a' w' hr'
 |panic c=>exact (hp c rfl).elim
 |_=>exact ⟨hp,st',hq,hr'⟩
theorem uz {c:Operand} {x y:Code} (t:Bool) (hc:ev st c= .val (.one (.lit (.bool t)))) (h1:t=true->Awp P e k0 N x Q st) (h2:t=false->Awp P e k0 N y Q st):Awp P e k0 N (.cond c x y) Q st:=fun a w hr=>by
 obtain ⟨σ,k1,k2,k3⟩:=hr.ex;have h3:=bi k2 c;rw [hc] at h3;simp only [aY,bl,den] at h3;exact wp_cond_split h3.1 (fun ht=>h1 ht a w hr) fun ht=>h2 ht a w hr
theorem BJ (h:Q .normal st):Awp P e k0 N .skip Q st:=fun a w hr=>wp_skip ⟨fun c=>by simp,st,h,hr⟩
theorem BL {id:Nat} (h:Q (.exit id) st):Awp P e k0 N (.exit id) Q st:=fun a w hr=>wp_exit ⟨fun c=>by simp,st,h,hr⟩
theorem D8 (h:Q .ret st):Awp P e k0 N .ret Q st:=fun a w hr=>wp_ret ⟨fun c=>by simp,st,h,hr⟩
theorem ri {id:Nat} {c:Code} (h:Awp P e k0 N c (lh id Q) st):Awp P e k0 N (.block id c) Q st:=fun a w hr=>by
 refine wp_block (wp_mono (h a w hr) fun ex a' w' ⟨hp,st',hq,hr'⟩=>?_);cases ex with
 |exit i=>
  simp only [lh] at hq;simp only [Exit.inBlock];split
  ·rename_i hi;rw [if_pos hi] at hq;exact ⟨fun c=>by simp,st',hq,hr'⟩
  rename_i hi;rw [if_neg hi] at hq;exact ⟨fun c=>by simp,st',hq,hr'⟩
 |panic c=>exact (hp c rfl).elim
 |_=>exact ⟨hp,st',hq,hr'⟩
theorem Fi (p:Nat->Prop):∀n,p n->∃m,p m/\∀k,p k->m<=k:=fun n=>by
 induction n using Nat.strongRecOn with
 |_ n ih=>
  intro h;by_cases hk:∃k,k<n/\p k
  ·obtain ⟨k,h1,h2⟩:=hk;exact ih k h1 h2
  exact ⟨n,h,fun k hk'=>Nat.le_of_not_lt fun hlt=>hk ⟨k,hlt,hk'⟩⟩
open Classical in
theorem BM {c:Code} (I:Nat->St->Prop) (n0:Nat) (h0:I n0 st) (round:∀n st,I n st->Awp P e k0 N c (jf (fun st'=>∃m,m<n/\I m st') Q) st):Awp P e k0 N (.loop c) Q st:=fun a w hr=>by
 let p:Act->World->Nat->Prop:=fun a w n=>∃st,I n st/\Rel e k0 N st a w
 let μ:Act->World->Nat:=fun a w=>if h:∃n,p a w n then Classical.choose (Fi (p a w) h.choose h.choose_spec) else 0
 have hμ:∀a w n,p a w n->p a w (μ a w)/\μ a w<=n:=fun a w n hn=>by
  have hex:∃n,p a w n:=⟨n,hn⟩;have:=Classical.choose_spec (Fi (p a w) hex.choose hex.choose_spec);simp only [μ,dif_pos hex];exact ⟨this.1,this.2 n hn⟩
 refine wp_loop (fun a w=>∃n,p a w n) μ ⟨n0,st,h0,hr⟩ fun a w ⟨n,hn⟩=>?_
 obtain ⟨⟨st1,hI,hr1⟩,_⟩:=hμ a w n hn;refine wp_mono (round _ st1 hI a w hr1) fun ex a' w' ⟨hp,st',hq,hr'⟩=>?_
 cases ex with
 |normal=>
  obtain ⟨m,hm,hIm⟩:=hq;exact ⟨⟨m,st',hIm,hr'⟩,Nat.lt_of_le_of_lt (hμ a' w' m ⟨st',hIm,hr'⟩).2 hm⟩
 |panic c=>exact (hp c rfl).elim
 |_=>exact ⟨hp,st',hq,hr'⟩
theorem jT {c:Code} (st2:St) (h:∀a w,Rel e k0 N st a w->Rel e k0 N st2 a w) (h2:Awp P e k0 N c Q st2):Awp P e k0 N c Q st:=fun a w hr=>h2 a w (h a w hr)
theorem lN {c:Code} {Q':Exit->St->Prop} (h:Awp P e k0 N c Q st) (hq:∀ex st,Q ex st->Q' ex st):Awp P e k0 N c Q' st:=fun a w hr=>wp_mono (h a w hr) fun ex a' w' ⟨hp,st',k,hr'⟩=>⟨hp,st',hq _ _ k,hr'⟩
end
def wV (P:Program) (st:St):List ResultVar->Option (Prop×List A1)
 |[]=>some (True,[])
 |r::l=>match Ap P st r,wV P st l with
  |some (p,a),some (q,Jb)=>match lM st a with
   |some (p',b,_)=>some (p/\p'/\q,b::Jb)
   |none=>none
  |_,_=>none
def wW (P:Program) (R:List ResultVar) (res:AV) (st:St):Prop:=
 match wV P st R with
 |some (p,l)=>p/\D5 l=res
 |none=>False
def FG (P:Program) (R:List ResultVar) (res:AV):Exit->St->Prop
 | .normal,st=>wW P R res st
 | .ret,st=>wW P R res st
 |_,_=>False
def ini (args:List A1):St:=⟨sQ 0 args,fun _=>none,0,0⟩
section
variable {P : Program} {e : En} {k0 : Kx} {N : Nat} {st st' : St} {a : Act} {w : World} {σ : Nat → Value}
def wX (e:En) (w:World):Kx:=⟨e.w0.heap.size,e.T,w,fun _=> .slice none 0 0,fun _=>none,0⟩
theorem sR {b:Nat} {H:Hp} {nx:Nat} {σ:Nat->Value} (h:(kx e H nx σ w).S b):(wX e w).S b/\(wX e w).w.heap[b]? =(kx e H nx σ w).w.heap[b]? :=⟨⟨h.1,h.2.1,fun _ _ h=>by cases h⟩,rfl⟩
theorem rj (hW:RW e st.H st.nx σ w) {c d:C} {b:Bool} {p:Prop} {v:Value} (hd:den (kx e st.H st.nx σ w) v c) (h:fK st c=some (p,d,b)) (hp:p):den (wX e w) v d:=by
 cases c with
 |own nm s n sz=>
  simp only [fK] at h;split at h<;>try (cases h;done)
  rename_i hsz;split at h<;>try (cases h;done)
  rename_i B hB;simp only [Option.some.injEq,Prod.mk.injEq] at h;obtain ⟨rfl,rfl,rfl⟩:=h;obtain ⟨hs,hpure⟩:=hp;simp only [den] at hd;obtain ⟨h1,h2,h3⟩:=hd.2.2 B hB hs;subst h2;subst h3;have h1':v=σ nm:=h1;rw [h1'];exact dK (fun b hb=>sR hb) (by simpa [ax] using hpure) (hW.publish hB hsz)
 |lit x=>
  simp only [fK,Option.some.injEq,Prod.mk.injEq] at h;obtain ⟨rfl,rfl,rfl⟩:=h
  exact dK (fun b hb=>sR hb) hp hd
 |sh sz n cs=>
  simp only [fK,Option.some.injEq,Prod.mk.injEq] at h;obtain ⟨rfl,rfl,rfl⟩:=h
  exact dK (fun b hb=>sR hb) hp hd
 |sp cs=>
  simp only [fK,Option.some.injEq,Prod.mk.injEq] at h;obtain ⟨rfl,rfl,rfl⟩:=h
  exact dK (fun b hb=>sR hb) hp hd
 |ptr nm s off=>simp only [fK] at h;cases h
 |dead=>simp only [fK] at h;cases h
theorem oO (hW:RW e st.H st.nx σ w):∀{cs ds:List C} {b:Bool} {vs:List Value} {p:Prop},denVs (kx e st.H st.nx σ w) vs cs->gY st cs=some (p,ds,b)->p->denVs (wX e w) vs ds
 |[],ds,b,[],p,_,h,hp=>by
  simp only [gY,Option.some.injEq,Prod.mk.injEq] at h;obtain ⟨rfl,rfl,rfl⟩:=h;trivial
 |[],_,_,_::_,_,hd,_,_=>hd.elim
 |_::_,_,_,[],_,hd,_,_=>hd.elim
 |c::cs,ds,b,v::vs,p,hd,h,hp=>by
  simp only [gY] at h;split at h<;>try (cases h;done)
  rename_i p1 d1 b1 p2 d2 b2 h1 h2;simp only [Option.some.injEq,Prod.mk.injEq] at h;obtain ⟨rfl,rfl,rfl⟩:=h;exact ⟨rj hW hd.1 h1 hp.1,oO hW hd.2 h2 hp.2⟩
theorem As (hW:RW e st.H st.nx σ w) {x y:A1} {b:Bool} {p:Prop} {v:Value} (hd:bl (kx e st.H st.nx σ w) v x) (h:lM st x=some (p,y,b)) (hp:p):bl (wX e w) v y:=by
 cases x with
 |one c=>
  simp only [lM] at h;split at h<;>try (cases h;done)
  rename_i p1 d1 b1 h1;simp only [Option.some.injEq,Prod.mk.injEq] at h;obtain ⟨rfl,rfl,rfl⟩:=h;exact rj hW hd h1 hp
 |agg cs=>
  simp only [lM] at h;split at h<;>try (cases h;done)
  rename_i p1 d1 b1 h1;simp only [Option.some.injEq,Prod.mk.injEq] at h;obtain ⟨rfl,rfl,rfl⟩:=h;obtain ⟨vs,g1,g2⟩:=hd;exact ⟨vs,g1,oO hW g2 h1 hp⟩
theorem yL (hW:RW e st.H st.nx σ w) (ht:∀t,aY (kx e st.H st.nx σ w) (a.tmps.getD t undef) (st.tm t)):∀{l:List ResultVar} {p:Prop} {xs:List A1},wV P st l=some (p,xs)->p->
  ∃vs,(l.mapM (wR a.tmps)).run P w= .ok vs w/\dh (wX e w) vs xs
 |[],p,xs,h,_=>by
  simp only [wV,Option.some.injEq,Prod.mk.injEq] at h;obtain ⟨rfl,rfl⟩:=h;exact ⟨[],rfl,trivial⟩
 |r::l,p,xs,h,hp=>by
  simp only [wV] at h;split at h<;>try (cases h;done)
  rename_i p1 a1 q Jb h1 h2;split at h<;>try (cases h;done)
  rename_i p2 b b' h3;simp only [Option.some.injEq,Prod.mk.injEq] at h;obtain ⟨rfl,rfl⟩:=h;obtain ⟨hp1,hp2,hq⟩:=hp;obtain ⟨v,k1,k2⟩:=yF hW ht h1 hp1;obtain ⟨vs,k3,k4⟩:=yL hW ht h2 hq;refine ⟨v::vs,?_,As hW k2 h3 hp2,k4⟩;rw [List.mapM_cons];simp only [Sem.run_bind,k1,k3,Result.andThen_ok,Sem.run_pure]
theorem oP {fn:Func} {res:AV} (hW:RW e st.H st.nx σ w) (ht:∀t,aY (kx e st.H st.nx σ w) (a.tmps.getD t undef) (st.tm t)) (h:wW P fn.results.toList res st):
  ∃v,(results fn a.tmps).run P w= .ok v w/\aY (wX e w) v res:=by
 unfold wW at h;split at h<;>try (exact h.elim;done)
 rename_i p l hl;obtain ⟨hp,rfl⟩:=h;obtain ⟨vs,k1,k2⟩:=yL hW ht hl hp;exact yI k1 k2
theorem aP {f : FuncId} {fn : Func} {c : Code} {args : List A1} {res : AV} (hf : P.funcs[f]? = some fn) (hb : fn.body = some c) (hn : fn.name ≠ "runtime.NumGoroutine") {N : Nat} (hNt : fn.ntmps = N) (hN : args.length ≤ N) {R : List ResultVar} (hR : fn.results.toList = R)
  (h:∀e k0,Awp P e k0 N c (FG P R res) (ini args)):aR P f args res:=by
 subst hNt hR;refine ⟨⟨fn,hf,hn,by rw [hb];rfl⟩,fun w T vs hT hd=>?_⟩;refine calls_of_wp hf hb ?_;obtain ⟨t1,t2⟩:=oL (n:=fn.ntmps) hd hN;have hrel:Rel ⟨w,T⟩ (kIn w T w) fn.ntmps (ini args) {tmps:=vs.toArray++Array.replicate (fn.ntmps-vs.toArray.size) undef,defers:=[]} w:=
  ⟨⟨fun _=> .slice none 0 0,⟨Below.refl _ _,hT,(fun _ _ h=>by cases h),(fun _ _ _ _ h=>by cases h)⟩,t1,Ext.refl _⟩,rfl,t2⟩
 refine wp_mono (h ⟨w,T⟩ (kIn w T w) _ w hrel) fun ex a' w' ⟨hp,st',hq,hr'⟩=>?_
 obtain ⟨σ,h1,h2,_⟩:=hr'.ex;cases ex with
 |normal=>
  obtain ⟨v,k1,k2⟩:=oP h1 h2 hq;exact ⟨hr'.df,v,k1,v,rfl,h1.bel,k2⟩
 |ret=>
  obtain ⟨v,k1,k2⟩:=oP h1 h2 hq;exact ⟨hr'.df,v,k1,v,rfl,h1.bel,k2⟩
 |panic c=>exact (hp c rfl).elim
 |exit i=>exact hq.elim
 |goto l=>exact hq.elim
 |outgrown=>exact hq.elim
theorem sS {R:St->Prop} {Q:Exit->St->Prop} {st:St}:jf R Q .normal st=R st:=rfl
theorem wY {R:St->Prop} {Q:Exit->St->Prop} {st:St} {i:Nat}:jf R Q (.exit i) st=Q (.exit i) st:=rfl
theorem At {R:St->Prop} {Q:Exit->St->Prop} {st:St}:jf R Q .ret st=Q .ret st:=rfl
theorem qJ {i:Nat} {Q:Exit->St->Prop} {st:St}:lh i Q .normal st=Q .normal st:=rfl
theorem wZ {i:Nat} {Q:Exit->St->Prop} {st:St}:lh i Q .ret st=Q .ret st:=rfl
theorem uA {i j:Nat} {Q:Exit->St->Prop} {st:St}:lh i Q (.exit j) st=if j=i then Q .normal st else Q (.exit j) st:=rfl
theorem uB {P:Program} {R:List ResultVar} {res:AV} {st:St}:FG P R res .normal st=wW P R res st:=rfl
theorem xb {P:Program} {Rl:List ResultVar} {R:AV->Hp->Nat->Prop} {st:St}:ArI P Rl R .normal st=wU P Rl R st:=rfl
theorem D9 {P:Program} {Rl:List ResultVar} {R:AV->Hp->Nat->Prop} {st:St}:ArI P Rl R .ret st=wU P Rl R st:=rfl
theorem BO {P:Program} {R:List ResultVar} {res:AV} {st:St}:FG P R res .ret st=wW P R res st:=rfl
def ALg (P:Program) (N:Nat) (I:List Nat) (Q:St->Prop) (g:Option Bool) (o:Oper) (os:List Oper) (gs:List (Option (Nat×Bool))) (st:St):Prop:=
 match g with
 |some true=>f7 P N I st o (AL P N I Q os gs)
 |some false=>AL P N I Q os gs (fy st o.dst (.tup []))
 |none=>False
def ATt (P:Program) (N:Nat) (Q:St->Prop) (g:Option Bool) (o:Oper) (r:SchO) (st:St):Prop:=
 match g with
 |some true=>match o.dst with
  |some d=>nU (fe P st o.op) d N (AT P N Q r) st
  |none=>False
 |some false=>AT P N Q r (fy st o.dst (.tup []))
 |none=>False
def ATe (P:Program) (N:Nat) (Q:St->Prop) (g:Option Bool) (o:Oper) (r:SchO) (st:St):Prop:=
 match g with
 |some true=>f7 P N [] st o (AT P N Q r)
 |some false=>AT P N Q r (fy st o.dst (.tup []))
 |none=>False
section
variable {P : Program} {N : Nat} {I : List Nat} {Q : St → Prop} {st : St} {o oi oj : Oper} {os : List Oper} {g : Option (Nat × Bool)} {gs : List (Option (Nat × Bool))} {r s : SchO}
theorem FH:AL P N I Q [] gs st=Q st:=by cases gs<;>rfl
theorem Ea:AL P N I Q (o::os) (g::gs) st=ALg P N I Q (gd g st) o os gs st:=rfl
theorem Hf:ALg P N I Q (some true) o os gs st=f7 P N I st o (AL P N I Q os gs):=rfl
theorem Hg:ALg P N I Q (some false) o os gs st=AL P N I Q os gs (fy st o.dst (.tup [])):=rfl
theorem FI:AT P N Q .nil st=Q st:=rfl
theorem Eb:AT P N Q (.take o g r) st=ATt P N Q (gd g st) o r st:=by
 simp only [AT,ATt];cases gd g st with
 |none=>rfl
 |some b=>
  cases b with
  |false=>rfl
  |true=>
   cases o.dst with
   |none=>rfl
   |some d=>
    simp only [nU];cases fe P st o.op with
    |none=>rfl
    |some q=>rfl
theorem FJ:AT P N Q (.eff o g r) st=ATe P N Q (gd g st) o r st:=rfl
theorem Hh {d:Nat} {op:Op} {t:TypeId} {ps:String} {af:Array Edge} {gg:Option (Nat×Bool)}:ATt P N Q (some true) ⟨some d,op,t,ps,af,gg⟩ r st=nU (fe P st op) d N (AT P N Q r) st:=rfl
theorem Hi:ATt P N Q (some false) o r st=AT P N Q r (fy st o.dst (.tup [])):=rfl
theorem Hj:ATe P N Q (some true) o r st=f7 P N [] st o (AT P N Q r):=rfl
theorem Hk:ATe P N Q (some false) o r st=AT P N Q r (fy st o.dst (.tup [])):=rfl
theorem FK:AT P N Q (.two oi oj r s) st=(f7 P N [] st oi (AT P N Q r)/\f7 P N [] st oj (AT P N Q s)):=rfl
theorem Au {p:Prop} {x:AV} {d:Nat} {K:St->Prop}:nU (some (p,x)) d N K st=(d<N/\p/\K ⟨up st.tm d x,st.H,st.nx,st.nb⟩):=rfl
theorem Av {p:Prop} {st':St} {d:Nat} {K:St->Prop}:iK (some (p,st')) d N K=(d<N/\p/\K st'):=rfl
theorem xd {x:Prop×St} {r:Option (Prop×St)} {d:Nat} {K:St->Prop}:yJ (some x) r d N K=iK (some x) d N K:=rfl
theorem xe {r:Option (Prop×St)} {d:Nat} {K:St->Prop}:yJ none r d N K=iK r d N K:=rfl
theorem xh {x:Prop×St} {r:Option (Prop×AV)} {d:Nat} {K:St->Prop}:yK (some x) r d N K st=iK (some x) d N K:=rfl
theorem xi {r:Option (Prop×AV)} {d:Nat} {K:St->Prop}:yK none r d N K st=nU r d N K st:=rfl
theorem BP {x:Prop×AV} {r:Option (Prop×AV)}:orS (some x) r=some x:=rfl
theorem BQ {r:Option (Prop×AV)}:orS none r=r:=rfl
theorem Aw {p:Prop} {st':St} {K:St->Prop}:BF (some (p,st')) K=(p/\K st'):=rfl
theorem Ax {f:FuncId} {p:Prop} {ys:List A1} {b:Bool} {d:Nat} {K:St->Prop}:D6 P f (some (p,ys,b)) d N K st=(d<N/\p/\∃res,aR P f ys res/\aU (if b then nC else aD) res=true/\ak K ⟨up st.tm d res,st.H,st.nx,st.nb⟩):=rfl
end
theorem FM {P:Program} {f:FuncId} {xs:List AV} {d N:Nat} {K:St->Prop} {st:St}:BH P f true xs d N K st=D7 P f (oK xs) d N K st:=rfl
theorem FN {P:Program} {f:FuncId} {xs:List AV} {d N:Nat} {K:St->Prop} {st:St}:BH P f false xs d N K st=D6 P f (jo st xs) d N K st:=rfl
theorem Ay {P:Program} {f:FuncId} {b:Bool} {xs:List AV} {d N:Nat} {K:St->Prop} {st:St}:FF P (some f) b xs d N K st=BH P f b xs d N K st:=rfl
theorem Az {P:Program} {f:FuncId} {ys:List A1} {d N:Nat} {K:St->Prop} {st:St}:D7 P f (some ys) d N K st=(d<N/\∃R,cT P f ys st.H st.nx R/\BG R d K st.tm st.nb):=rfl
theorem FO {α:Type} (a b:α):(if true=true then a else b)=a:=rfl
theorem FP {α:Type} (a b:α):(if false=true then a else b)=b:=rfl
theorem FQ:(false==true)=false:=rfl
theorem FR:(true==false)=false:=rfl
theorem FS:(false==false)=true:=rfl
theorem FT:(true==true)=true:=rfl
theorem jq (tm':Nat->AV) (H':Hp) (ht:∀t,tm' t=st.tm t∨tm' t= .dead) (hH:∀nm B,H' nm=some B->st.H nm=some B) (hr:Rel e k0 N st a w):Rel e k0 N ⟨tm',H',st.nx,st.nb⟩ a w:=by
 obtain ⟨σ,h1,h2,h3⟩:=hr.ex;have hext:Ext (kx e st.H st.nx σ w) (kx e H' st.nx σ w):=
  ⟨Nat.le_refl _,fun b hb=>⟨⟨hb.1,hb.2.1,fun nm B hB=>hb.2.2 nm B (hH nm B hB)⟩,rfl⟩,fun nm B hB=> .inr ⟨B,hH nm B hB,rfl,rfl,rfl,rfl⟩⟩
 refine ⟨⟨σ,⟨h1.bel,h1.hT,fun nm B hB=>?_,fun nm nm' B B' hB hB'=>h1.inj nm nm' B B' (hH nm B hB) (hH nm' B' hB')⟩,fun t=>?_,h3.trans hext⟩,hr.df,hr.sz⟩
 ·exact ⟨(h1.blk nm B (hH nm B hB)).1,(h1.blk nm B (hH nm B hB)).2.kept (row:=none) ⟨rfl,rfl,rfl,Nat.le_refl _,fun _ _ _=>rfl⟩ (Classical.em _) rfl rfl hext⟩
 rcases ht t with h|h
 ·show aY _ _ (tm' t);rw [h];exact dY hext (h2 t)
 show aY _ _ (tm' t);rw [h];trivial
theorem uC {t nm s n sz:Nat} {B:Blk} (hB:st.H nm=some B) (hsz:sz≠0) (hs:B.st=s) (htm:st.tm t= .val (.one (.own nm s n sz))) (hr:Rel e k0 N st a w):
  Rel e k0 N ⟨up st.tm t (.val (.one (.sh sz n B.cs))),up st.H nm none,st.nx,st.nb⟩ a w:=by
 obtain ⟨σ,h1,h2,h3⟩:=hr.ex;obtain ⟨k1,k2⟩:=h1.drop nm;refine ⟨⟨σ,k1,fun t'=>?_,h3.trans k2⟩,hr.df,hr.sz⟩;show aY _ _ (up st.tm t _ t');by_cases htt:t'=t
 ·subst htt;rw [bI];have h4:=h2 t';rw [htm] at h4;simp only [aY,bl,den] at h4;obtain ⟨g1,g2,g3⟩:=h4.2.2 B hB hs;have g1':a.tmps.getD t' undef=σ nm:=g1;show den (kx e (up st.H nm none) st.nx σ w) _ _;rw [g1',←g2,←g3];exact h1.publish hB (by rw [g3];exact hsz)
 rw [cA _ _ htt];exact dY k2 (h2 t')
theorem Ec {t d:Nat} (E:TypeId) (sz:Nat) (hsz:sz≠0) (htm:st.tm t= .val (.one (.lit (.slice none 0 0)))) (hr:Rel e k0 N st a w):
  Rel e k0 N ⟨up st.tm t (.val (.one (.own d st.nx 0 sz))),up st.H d (some ⟨st.nx,E,sz,0,[]⟩),st.nx+1,st.nb⟩ a w:=by
 obtain ⟨σ,h1,h2,h3⟩:=hr.ex;obtain ⟨k1,k2⟩:=RW.new (nm0:=d) (d:=d) (row:=none) h1 (w':=w) ⟨rfl,rfl,rfl,Nat.le_refl _,fun _ _ _=>rfl⟩ (B':=⟨st.nx,E,sz,0,[]⟩) (v':= .slice none 0 0) (xs:=[]) rfl hsz (by simp) (by simp) (by simp [obk]) (w.ownsRow_nil _ _ _) trivial;rw [qY] at k1 k2;refine ⟨⟨_,k1,fun t'=>?_,h3.trans k2⟩,hr.df,hr.sz⟩;show aY _ _ (up st.tm t _ t');by_cases htt:t'=t
 ·subst htt;rw [bI];have h4:=h2 t';rw [htm] at h4;simp only [aY,bl,den] at h4;rw [h4.1];exact cc d σ w rfl
 rw [cA _ _ htt];exact dY k2 (h2 t')
theorem lO {nm off d:Nat} {B:Blk} (E:TypeId) (sz:Nat) (hsz':sz≠0) (hB:st.H nm=some B) (hne:nm≠d) (hsz:B.sz≠0) (hc:B.cs[off]? =some (.lit (.slice none 0 0))) (hr:Rel e k0 N st a w):
  Rel e k0 N ⟨st.tm,up (up st.H d (some ⟨st.nx,E,sz,0,[]⟩)) nm (some {B with cs:=B.cs.set off (.own d st.nx 0 sz)}),st.nx+1,st.nb⟩ a w:=by
 obtain ⟨σ,h1,h2,h3⟩:=hr.ex;obtain ⟨k1,k2⟩:=RW.new (nm0:=d) (d:=d) (row:=none) h1 (w':=w) ⟨rfl,rfl,rfl,Nat.le_refl _,fun _ _ _=>rfl⟩ (B':=⟨st.nx,E,sz,0,[]⟩) (v':= .slice none 0 0) (xs:=[]) rfl hsz' (by simp) (by simp) (by simp [obk]) (w.ownsRow_nil _ _ _) trivial;rw [qY] at k1 k2;have hB':up st.H d (some ⟨st.nx,E,sz,0,[]⟩) nm=some B:=by rw [cA _ _ hne];exact hB
 obtain ⟨g1,g2,xs,g3,g4⟩:=k1.rowOf hB' (.inl hsz);obtain ⟨u,q1,q2⟩:=g4.get off hc;simp only [den] at q2;have hlt:off<xs.length:=(List.getElem?_eq_some_iff.1 q1).1;have hxu:xs[off]= .slice none 0 0:=by
  have:=(List.getElem?_eq_some_iff.1 q1).2;rw [this];exact q2.1
 have hset:xs.set off (.slice none 0 0)=xs:=by rw [←hxu];exact List.set_getElem_self hlt
 have hown:=cc (e:=e) (H:=st.H) (nx:=st.nx) (E:=E) (sz:=sz) (n:=0) (cs:=[]) d (v:= .slice none 0 0) σ w rfl;have hd:=g4.set off (v:= .slice none 0 0) (c:= .own d st.nx 0 sz) hown;rw [hset] at hd;obtain ⟨m1,m2⟩:=k1.upd (w':=w) hB' ⟨rfl,rfl,rfl,Nat.le_refl _,fun _ _ _=>rfl⟩ (cs:=B.cs.set off (.own d st.nx 0 sz)) hsz (by simpa using g2) g3 hd;exact ⟨⟨_,m1,fun t'=>dY (k2.trans m2) (h2 t'),h3.trans (k2.trans m2)⟩,hr.df,hr.sz⟩
end
end Go.Proofs.YtokmkopihhnggaaGreatDoor
