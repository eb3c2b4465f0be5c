/- The reference: debt; walked by the abstract machine. -/
import Derived.Test.YtokmkopihhnggaaGreatDoorRw2M
set_option linter.unusedVariables false
set_option linter.unusedSimpArgs false
namespace Go.Proofs.YtokmkopihhnggaaGreatDoor
open Go Go.RowKit



def CW (tk:List Bool) (E:Int->Bool):Prop:=∀c:Int,0<=c->c<tk.length->tk.getD c.toNat false=E c
theorem px {tk:List Bool} {E:Int->Bool} (hE:CW tk E):∀l:List GPart,dv tk l=agT tk.length E l
 |[]=>rfl
 |p::l=>by
  simp only [dv,agT];rw [px hE l];by_cases h1:p.claim= -1
  ·have a1:¬(p.claim< -1∨(tk.length:Int)<=p.claim):=by omega
   rw [if_neg (by simp [h1]),if_neg a1];simp [h1]
  by_cases h2:p.claim<0∨(tk.length:Int)<=p.claim
  ·rw [if_pos ⟨h1,h2⟩,if_pos (show p.claim< -1∨(tk.length:Int)<=p.claim by omega)]
  rw [if_neg (fun h=>h2 h.2),if_neg (show ¬(p.claim< -1∨(tk.length:Int)<=p.claim) by omega),hE p.claim (by omega) (by omega)]
theorem py (n:Int) (E:Int->Bool):∀l m:List GPart,agT n E (l++m)=if agT n E l≠0 then agT n E l else agT n E m
 |[],m=>by simp [agT]
 |p::l,m=>by
  simp only [List.cons_append,agT];rw [py n E l m];split
  ·simp
  split
  ·simp
  split
  ·simp
  split<;>simp
theorem vw (n:Int) (E:Int->Bool):∀a:bR,agA n E a=agT n E a.flatten
 |[]=>rfl
 |t::a=>by rw [List.flatten_cons,py,agA,vw n E a]
theorem xM {tk:List Bool} {E:Int->Bool} (hE:CW tk E) (a:bR):eP a tk=agS tk.length E a:=by
 unfold eP agS;rw [px hE,vw];by_cases h1:24<a.length<;>by_cases h2:a.any eb=true<;>simp [h1,h2]
theorem f5 {d:Array Int} {x:Int}:∀m,m<=d.size->(∃j,j<m/\d[j]! =x)->x∈Lib.compactUpTo d m
 |0,_,⟨j,h,_⟩=>by omega
 |m+1,hm,⟨j,hj,hx⟩=>by
  rw [Lib.compactUpTo_succ,List.mem_append];by_cases hjm:j<m
  ·exact .inl (f5 m (by omega) ⟨j,hjm,hx⟩)
  obtain rfl:j=m:=by omega
  cases hk:Lib.keeps d j with
  |true=>right;simp [hx]
  |false=>
   left;have h2:¬(j=0∨d[j]!≠d[j-1]!):=by simpa [Lib.keeps] using hk
   have h3:j≠0:=fun h=>h2 (.inl h)
   have h4:d[j]! =d[j-1]! :=Classical.byContradiction fun h=>h2 (.inr h)
   exact f5 j (by omega) ⟨j-1,by omega,by rw [←h4];exact hx⟩
theorem za {a:bR} {i:Int}:i∈mem a↔i∈dF a.flatten:=by
 refine ⟨ka,fun h=>?_⟩;have h1:i∈cN (dF a.flatten):=by simpa [cN] using h
 obtain ⟨j,hj,hx⟩:=List.getElem_of_mem h1;exact f5 _ (by simp) ⟨j,hj,by rw [getElem!_pos _ j (by simpa using hj)];simpa using hx⟩
theorem vz:∀(ms:List Int) (tk:List Bool),(∀i∈ms,0<=i/\i<tk.length)->∀c:Int,0<=c->c<tk.length->(lZ tk ms).getD c.toNat false=(tk.getD c.toNat false||decide (c∈ms))
 |[],tk,_,c,_,_=>by simp [lZ]
 |i::ms,tk,h,c,h0,h1=>by
  have hi:=h i (by simp);rw [lZ,vz ms _ (fun j hj=>by rw [List.length_set];exact h j (List.mem_cons_of_mem _ hj)) c h0 (by rw [List.length_set];exact h1)];by_cases hci:c=i
  ·subst hci;simp [List.getD,show c.toNat<tk.length by omega]
  have:i.toNat≠c.toNat:=by omega
  simp [List.getD,this,hci]
theorem tH (c:Int) (hc:c≠ -1):∀l:List GPart,mbT c l=decide (c∈dF l)
 |[]=>by simp [mbT,dF]
 |p::l=>by
  simp only [mbT,dF,tH c hc l];by_cases h:p.claim= -1
  ·have:p.claim≠c:=fun e=>hc (by rw [←e,h])
   simp [h,Ne.symm hc]
  by_cases h2:p.claim=c
  ·simp [h2,hc]
  simp [h,h2,Ne.symm h2]
theorem pA (c:Int):∀l m:List GPart,mbT c (l++m)=(mbT c l||mbT c m)
 |[],m=>by simp [mbT]
 |p::l,m=>by simp [mbT,pA c l m,Bool.or_assoc]
theorem pB (c:Int):∀a:bR,mbA c a=mbT c a.flatten
 |[]=>rfl
 |t::a=>by rw [List.flatten_cons,pA,mbA,pB c a]
theorem vA (c:Int) (a:bR):∀l:List bR,mbE c (l++[a])=(mbE c l||mbA c a)
 |[]=>by simp [mbE]
 |b::l=>by simp [mbE,vA c a l,Bool.or_assoc]
theorem rS (g:GEst):∀(l:List bR) (i:Nat) (tk:List Bool),l=g.agrs.drop i->tk.length=g.claims.length->CW tk (fun c=>mbE c (g.agrs.take i))->f4 tk l=jB g i l
 |[],_,_,_,_,_=>rfl
 |a::l,i,tk,hl,hn,hE=>by
  have h1:=xM hE a;rw [hn] at h1;simp only [f4,jB,←h1];by_cases h0:eP a tk=0
  ·rw [if_neg (by simp [h0]),if_neg (by simp [h0])];have hi:i<g.agrs.length:=by
    rcases Nat.lt_or_ge i g.agrs.length with h|h
    ·exact h
    rw [List.drop_eq_nil_of_le h] at hl;cases hl
   rw [List.drop_eq_getElem_cons hi] at hl;obtain ⟨rfl,hl'⟩:=List.cons.inj hl;refine rS g l (i+1) _ hl' (by rw [gU];exact hn) fun c c0 c1=>?_
   rw [gU] at c1;have hm:=(mQ h0).2.2;rw [vz _ _ hm c c0 c1,hE c c0 c1,List.take_succ_eq_append_getElem hi];show (mbE c (List.take i g.agrs)||decide (c∈mem g.agrs[i]))=mbE c (List.take i g.agrs++[g.agrs[i]]);rw [vA,pB,tH c (by omega)];congr 1;simp [za]
  rw [if_pos h0,if_pos h0]
theorem vB (e:GEst):bv e=tG e:=by
 unfold bv tG;rw [rS e e.agrs 0 _ (by simp) (by simp) fun c c0 c1=>by simp only [mbE,List.take_zero,List.getD,List.getElem?_replicate];split<;>rfl]

end Go.Proofs.YtokmkopihhnggaaGreatDoor
