/- waterfall.checkAgreement; walked by the abstract machine. -/
import Derived.Test.YtokmkopihhnggaaGreatDoorLawM
set_option linter.unusedVariables false
set_option maxHeartbeats 4000000
set_option linter.unusedSimpArgs false
set_option linter.defProp false
namespace Go.Proofs.YtokmkopihhnggaaGreatDoor
open Go Go.RowKit Go.Proofs.Tryz
def cB (b:Bool):List C:=[.lit (.bool b)]
theorem CS (b:Bool):(cB b).length=1:=rfl
theorem y7 (b:Bool):al (cB b)=true:=rfl
noncomputable def dv (tk:List Bool):List GPart->Int
 |[]=>0
 |p::l=>if p.claim≠ -1/\(p.claim<0∨(tk.length:Int)<=p.claim) then 1 else if p.claim= -1/\p.capped=false then 21 else if p.capped=true/\cU (qOf p.cap)<0 then 7
  else if p.claim≠ -1/\tk.getD p.claim.toNat false=true then 20 else dv tk l
noncomputable def eP (a:bR) (tk:List Bool):Int:=if 24<a.length∨a.any eb=true then 2 else dv tk a.flatten
theorem ie:∀(a:bR),a.any eb=false->a.flatten.length<=a.length*24
 |[],_=>by simp
 |t::a,h=>by
  simp only [List.any_cons,Bool.or_eq_false_iff] at h;have:=ie a h.2;have h1:t.length<=24:=by have:=of_decide_eq_false h.1;omega
  simp only [List.flatten_cons,List.length_append,List.length_cons];omega
def F14:=And.intro zS (And.intro tf6 (And.intro AX (And.intro tf2 (And.intro tf0 (And.intro xF (And.intro tf8 (And.intro tf9 (And.intro Hs (And.intro ic (And.intro KB (And.intro AU (And.intro pr (And.intro Es (And.intro jz (tf5)))))))))))))))
theorem F15:type_of%F14:=F14
theorem mP (a:bR) (tk:List Bool) (ht:∀t∈a,t.length<=1000000000000) (hn:tk.length<=1000000000000) (hcp:∀p∈a.flatten,p.cap.num.size<=500000000000/\p.cap.den.size<=500000000000):
  aR prog 75 [.agg (bu a),.one (.sh 1 tk.length (aA cB tk))] (one (.int .i64 (eP a tk))):=by
 refine aP func75 rfl (by decide) (N:=70) rfl (by simp) (R:=[.tmp 4]) rfl fun en k0=>?_
 have hlong:True:=trivial;unfold eP;by_cases h24:24<a.length
 ·have hI:(24:Int)<(a.length:Int):=by omega
  refine awN ?_;simp only [F15,seval,bu];refine awR [] [0,0,0,0,0,26,26,26,0] ?_;simp only [F15,seval,hI];refine awT ?_;refine awN ?_;simp only [F15,seval];refine awX ?_;simp only [F15,seval,h24]
 have hI:¬(24:Int)<(a.length:Int):=by omega
 have hCF:=pu a (by omega) ht;cases hany:a.any eb
 ·rw [hany] at hCF;have hfl:=ie a hany;have hCC:=vl a (by omega) (by omega);simp only [h24,false_or,Bool.false_eq_true,if_false];refine awN ?_;simp only [F15,seval,bu];refine awR [] [0,0,0,0,0,26,26,26,0] ?_;simp only [F15,seval,hI];refine ⟨ab bF a,_,hCF,rfl,?_⟩;simp only [ak,F15,seval];refine awF ?_;refine awK ?_;simp only [F15,seval];refine awN ?_;simp only [F15,seval];refine ⟨ab bF a,_,hCC,by simp [al,ax,ab d9],?_⟩;simp only [ak,F15,seval];refine aQ [1,19,20,21] [] ?_;simp only [F15,seval];repeat' first|apply awS|apply awB
  refine aM (fun n st=>∃k nx,k<=a.flatten.length/\n=a.flatten.length-k/\dv tk (a.flatten.drop k)=dv tk a.flatten/\st=⟨mkT [(1,.val (.one (.sh 1 tk.length (aA cB tk)))),(19,.val (.one (.sh 5 a.flatten.length (aA bT a.flatten)))),(20,one (.int .i64 a.flatten.length)),(21,one (.int .i64 k))],mkH [],nx,0⟩) a.flatten.length ⟨0,_,by omega,by omega,rfl,rfl⟩ ?_;rintro n st ⟨k,nx,hk,rfl,hL,rfl⟩;have hcaps:∀p∈a.flatten,p.cap.num.size<=500000000000/\p.cap.den.size<=500000000000:=hcp;generalize a.flatten=l at *
  by_cases hlt:k<l.length
  ·have hI:(k:Int)<(l.length:Int):=by omega
   have hat:=aO eX l k hlt;rw [List.drop_eq_getElem_cons hlt] at hL;have hS:=yZ l[k].cap (hcaps _ (List.getElem_mem hlt)).1 (hcaps _ (List.getElem_mem hlt)).2;generalize l[k]=p at *
   simp only [dv] at hL;by_cases hc:p.claim= -1
   ·cases hcap:p.capped
    ·repeat' first|apply awS|apply awB
     refine awN ?_;simp only [F15,seval,hI];refine awT ?_;refine awK ?_;simp only [F15,seval];refine awN ?_;simp only [F15,seval,hat,bT];repeat refine ob ?_
     refine awN ?_;simp only [F15,seval,hc];refine awR [] [0,0,0,65,65,65,65,72,72,72,72,72,65,0,0] ?_;simp only [F15,seval,];refine awF ?_;refine awR [] [0,0,93,93,93,0,0] ?_;simp only [F15,seval,hcap];refine awT ?_;refine awN ?_;simp only [F15,seval];have hR:dv tk l=21:=by rw [←hL];simp [hc,hcap]
     refine awX ?_;simp only [F15,seval,hR]
    by_cases hsg:cU (qOf p.cap)<0
    ·repeat' first|apply awS|apply awB
     refine awN ?_;simp only [F15,seval,hI];refine awT ?_;refine awK ?_;simp only [F15,seval];refine awN ?_;simp only [F15,seval,hat,bT];repeat refine ob ?_
     refine awN ?_;simp only [F15,seval,hc];refine awR [] [0,0,0,65,65,65,65,72,72,72,72,72,65,0,0] ?_;simp only [F15,seval,];refine awF ?_;refine awR [] [0,0,93,93,93,0,0] ?_;simp only [F15,seval,hcap];refine awF ?_;refine awR [] [0,0,0,109,109,109,109,0,0] ?_;simp only [F15,seval];refine ⟨_,hS,rfl,?_⟩;simp only [ak,F15,seval,hsg];refine awT ?_;refine awN ?_;simp only [F15,seval];have hR:dv tk l=7:=by rw [←hL];simp [hc,hcap,hsg]
     refine awX ?_;simp only [F15,seval,hR]
    repeat' first|apply awS|apply awB
    refine awN ?_;simp only [F15,seval,hI];refine awT ?_;refine awK ?_;simp only [F15,seval];refine awN ?_;simp only [F15,seval,hat,bT];repeat refine ob ?_
    refine awN ?_;simp only [F15,seval,hc];refine awR [] [0,0,0,65,65,65,65,72,72,72,72,72,65,0,0] ?_;simp only [F15,seval,];refine awF ?_;refine awR [] [0,0,93,93,93,0,0] ?_;simp only [F15,seval,hcap];refine awF ?_;refine awR [] [0,0,0,109,109,109,109,0,0] ?_;simp only [F15,seval];refine ⟨_,hS,rfl,?_⟩;simp only [ak,F15,seval,hsg];refine awF ?_;refine awR [] [0,0,0,127,127,127,127,127,0,0] ?_;simp only [F15,seval];refine awF ?_;refine awK ?_;simp only [F15,seval];refine awN ?_;simp only [F15,seval];repeat refine ob ?_
    refine ⟨_,aI [1,19,20,21] [],l.length-(k+1),by omega,k+1,nx+1,by omega,rfl,?_,?_⟩
    ·rw [←hL];simp [hc,hcap,hsg]
    simp only [F15,seval];try rfl
   by_cases p1:p.claim<0
   ·repeat' first|apply awS|apply awB
    refine awN ?_;simp only [F15,seval,hI];refine awT ?_;refine awK ?_;simp only [F15,seval];refine awN ?_;simp only [F15,seval,hat,bT];repeat refine ob ?_
    refine awN ?_;simp only [F15,seval,hc];refine awR [] [0,0,0,65,65,65,65,72,72,72,72,72,65,0,0] ?_;simp only [F15,seval,p1];refine awT ?_;refine awN ?_;simp only [F15,seval];have hR:dv tk l=1:=by rw [←hL];simp [hc,p1]
    refine awX ?_;simp only [F15,seval,hR]
   by_cases p2:(tk.length:Int)<=p.claim
   ·repeat' first|apply awS|apply awB
    refine awN ?_;simp only [F15,seval,hI];refine awT ?_;refine awK ?_;simp only [F15,seval];refine awN ?_;simp only [F15,seval,hat,bT];repeat refine ob ?_
    refine awN ?_;simp only [F15,seval,hc];refine awR [] [0,0,0,65,65,65,65,72,72,72,72,72,65,0,0] ?_;simp only [F15,seval,p1,p2];refine awT ?_;refine awN ?_;simp only [F15,seval];have hR:dv tk l=1:=by rw [←hL];simp [hc,p2]
    refine awX ?_;simp only [F15,seval,hR]
   have a1:=CR CS tk p.claim false (by omega) (by omega);rw [Nat.mul_one] at a1;generalize hget:tk.getD p.claim.toNat false=bt at *
   cases hcap:p.capped
   ·cases bt
    ·repeat' first|apply awS|apply awB
     refine awN ?_;simp only [F15,seval,hI];refine awT ?_;refine awK ?_;simp only [F15,seval];refine awN ?_;simp only [F15,seval,hat,bT];repeat refine ob ?_
     refine awN ?_;simp only [F15,seval,hc];refine awR [] [0,0,0,65,65,65,65,72,72,72,72,72,65,0,0] ?_;simp only [F15,seval,p1,p2];refine awF ?_;refine awR [] [0,0,93,93,93,0,0] ?_;simp only [F15,seval,hcap];refine awF ?_;refine awR [] [0,0,0,109,109,109,109,0,0] ?_;simp only [F15,seval];refine awF ?_;refine awR [] [0,0,0,127,127,127,127,127,0,0] ?_;simp only [F15,seval,a1,cB];repeat refine ob ?_
     refine awF ?_;refine awK ?_;simp only [F15,seval];refine awN ?_;simp only [F15,seval];repeat refine ob ?_
     refine ⟨_,aI [1,19,20,21] [],l.length-(k+1),by omega,k+1,nx+1,by omega,rfl,?_,?_⟩
     ·rw [←hL];simp [hc,p1,p2,hcap]
     simp only [F15,seval];try rfl
    repeat' first|apply awS|apply awB
    refine awN ?_;simp only [F15,seval,hI];refine awT ?_;refine awK ?_;simp only [F15,seval];refine awN ?_;simp only [F15,seval,hat,bT];repeat refine ob ?_
    refine awN ?_;simp only [F15,seval,hc];refine awR [] [0,0,0,65,65,65,65,72,72,72,72,72,65,0,0] ?_;simp only [F15,seval,p1,p2];refine awF ?_;refine awR [] [0,0,93,93,93,0,0] ?_;simp only [F15,seval,hcap];refine awF ?_;refine awR [] [0,0,0,109,109,109,109,0,0] ?_;simp only [F15,seval];refine awF ?_;refine awR [] [0,0,0,127,127,127,127,127,0,0] ?_;simp only [F15,seval,a1,cB];repeat refine ob ?_
    refine awT ?_;refine awN ?_;simp only [F15,seval];have hR:dv tk l=20:=by rw [←hL];simp [hc,p1,p2,hcap]
    refine awX ?_;simp only [F15,seval,hR]
   by_cases hsg:cU (qOf p.cap)<0
   ·repeat' first|apply awS|apply awB
    refine awN ?_;simp only [F15,seval,hI];refine awT ?_;refine awK ?_;simp only [F15,seval];refine awN ?_;simp only [F15,seval,hat,bT];repeat refine ob ?_
    refine awN ?_;simp only [F15,seval,hc];refine awR [] [0,0,0,65,65,65,65,72,72,72,72,72,65,0,0] ?_;simp only [F15,seval,p1,p2];refine awF ?_;refine awR [] [0,0,93,93,93,0,0] ?_;simp only [F15,seval,hcap];refine awF ?_;refine awR [] [0,0,0,109,109,109,109,0,0] ?_;simp only [F15,seval];refine ⟨_,hS,rfl,?_⟩;simp only [ak,F15,seval,hsg];refine awT ?_;refine awN ?_;simp only [F15,seval];have hR:dv tk l=7:=by rw [←hL];simp [hc,p1,p2,hcap,hsg]
    refine awX ?_;simp only [F15,seval,hR]
   cases bt
   ·repeat' first|apply awS|apply awB
    refine awN ?_;simp only [F15,seval,hI];refine awT ?_;refine awK ?_;simp only [F15,seval];refine awN ?_;simp only [F15,seval,hat,bT];repeat refine ob ?_
    refine awN ?_;simp only [F15,seval,hc];refine awR [] [0,0,0,65,65,65,65,72,72,72,72,72,65,0,0] ?_;simp only [F15,seval,p1,p2];refine awF ?_;refine awR [] [0,0,93,93,93,0,0] ?_;simp only [F15,seval,hcap];refine awF ?_;refine awR [] [0,0,0,109,109,109,109,0,0] ?_;simp only [F15,seval];refine ⟨_,hS,rfl,?_⟩;simp only [ak,F15,seval,hsg];refine awF ?_;refine awR [] [0,0,0,127,127,127,127,127,0,0] ?_;simp only [F15,seval,a1,cB];repeat refine ob ?_
    refine awF ?_;refine awK ?_;simp only [F15,seval];refine awN ?_;simp only [F15,seval];repeat refine ob ?_
    refine ⟨_,aI [1,19,20,21] [],l.length-(k+1),by omega,k+1,nx+1,by omega,rfl,?_,?_⟩
    ·rw [←hL];simp [hc,p1,p2,hcap,hsg]
    simp only [F15,seval];try rfl
   repeat' first|apply awS|apply awB
   refine awN ?_;simp only [F15,seval,hI];refine awT ?_;refine awK ?_;simp only [F15,seval];refine awN ?_;simp only [F15,seval,hat,bT];repeat refine ob ?_
   refine awN ?_;simp only [F15,seval,hc];refine awR [] [0,0,0,65,65,65,65,72,72,72,72,72,65,0,0] ?_;simp only [F15,seval,p1,p2];refine awF ?_;refine awR [] [0,0,93,93,93,0,0] ?_;simp only [F15,seval,hcap];refine awF ?_;refine awR [] [0,0,0,109,109,109,109,0,0] ?_;simp only [F15,seval];refine ⟨_,hS,rfl,?_⟩;simp only [ak,F15,seval,hsg];refine awF ?_;refine awR [] [0,0,0,127,127,127,127,127,0,0] ?_;simp only [F15,seval,a1,cB];repeat refine ob ?_
   refine awT ?_;refine awN ?_;simp only [F15,seval];have hR:dv tk l=20:=by rw [←hL];simp [hc,p1,p2,hcap,hsg]
   refine awX ?_;simp only [F15,seval,hR]
  obtain rfl:k=l.length:=by omega
  have hI:¬(l.length:Int)<(l.length:Int):=by omega
  rw [List.drop_length] at hL;simp only [dv] at hL;refine awN ?_;simp only [F15,seval,hI];refine awF ?_;refine awQ ?_;simp only [F15,seval];refine awN ?_;simp only [F15,seval];refine awX ?_;simp only [F15,seval,←hL]
 rw [hany] at hCF;refine awN ?_;simp only [F15,seval,bu];refine awR [] [0,0,0,0,0,26,26,26,0] ?_;simp only [F15,seval,hI];refine ⟨ab bF a,_,hCF,rfl,?_⟩;simp only [ak,F15,seval];refine awT ?_;refine awN ?_;simp only [F15,seval];refine awX ?_;simp only [F15,seval]
def jh (q:GRat):Prop:=q.num.size<=500000000000/\q.den.size<=500000000000
def y8 (e:GEst):Prop:=jh e.cash/\(∀c∈e.claims,jh c.amount)/\e.claims.length<=1000000000000/\∀a∈e.agrs,(∀t∈a,t.length<=1000000000000)/\∀p∈a.flatten,jh p.cap
noncomputable def bq:List GClaim->Int
 |[]=>0
 |c::l=>if c.holder< -1∨8<=c.holder then 19 else if c.rank<0∨7<c.rank then 1 else if cU (qOf c.amount)<0 then 7 else bq l
def lZ (tk:List Bool):List Int->List Bool
 |[]=>tk
 |i::l=>lZ (tk.set i.toNat true) l
theorem gU:∀(l:List Int) (tk:List Bool),(lZ tk l).length=tk.length
 |[],_=>rfl
 |i::l,tk=>by rw [lZ,gU l,List.length_set]
noncomputable def f4 (tk:List Bool):List bR->Int
 |[]=>0
 |a::l=>if eP a tk≠0 then eP a tk else f4 (lZ tk (mem a)) l
noncomputable def bv (e:GEst):Int:=if 24<e.claims.length∨12<e.agrs.length then 2 else if cU (qOf e.cash)<0 then 7 else if bq e.claims≠0 then bq e.claims
 else f4 (List.replicate e.claims.length false) e.agrs
theorem ji {d:Array Int} {x:Int}:∀m,m<=d.size->x∈Lib.compactUpTo d m->x∈d.toList
 |0,_,h=>by simp [Lib.compactUpTo] at h
 |m+1,hm,h=>by
  rw [Lib.compactUpTo_succ,List.mem_append] at h;rcases h with h|h
  ·exact ji m (by omega) h
  split at h
  ·simp only [List.mem_singleton] at h;subst h;rw [getElem!_pos d m (by omega)];simp
  cases h
theorem ka {a:bR} {i:Int} (h:i∈mem a):i∈dF a.flatten:=by
 have h1:=ji _ (by simp) h;simpa [cN] using h1
theorem iS:∀{l:List GPart} {i:Int},i∈dF l->∃p∈l,p.claim=i/\p.claim≠ -1
 |p::l,i,h=>by
  simp only [dF] at h;by_cases hc:p.claim= -1
  ·rw [if_pos hc] at h;obtain ⟨q,h1,h2⟩:=iS h;exact ⟨q,List.mem_cons_of_mem _ h1,h2⟩
  rw [if_neg hc] at h;rcases List.mem_cons.1 h with rfl|h
  ·exact ⟨p,by simp,rfl,hc⟩
  obtain ⟨q,h1,h2⟩:=iS h;exact ⟨q,List.mem_cons_of_mem _ h1,h2⟩
theorem rP {tk:List Bool}:∀{l:List GPart},dv tk l=0->∀p∈l,p.claim≠ -1->0<=p.claim/\p.claim<tk.length
 |q::l,h,p,hp,hc=>by
  simp only [dv] at h;split at h
  ·cases h
  rename_i h1;split at h
  ·cases h
  split at h
  ·cases h
  split at h
  ·cases h
  rcases List.mem_cons.1 hp with rfl|hp
  ·have:=fun h2=>h1 ⟨hc,h2⟩
   omega
  exact rP h p hp hc
theorem mQ {a:bR} {tk:List Bool} (h:eP a tk=0):a.length<=24/\a.flatten.length<=576/\∀i∈mem a,0<=i/\i<tk.length:=by
 unfold eP at h;split at h
 ·cases h
 rename_i h1;have h2:a.any eb=false:=by simpa using fun h=>h1 (.inr h)
 have h3:=ie a h2;refine ⟨by omega,by omega,fun i hi=>?_⟩;obtain ⟨p,k1,k2,k3⟩:=iS (ka hi);subst k2;exact rP h p k1 k3
theorem xI (a:bR):(mem a).length<=a.flatten.length:=by
 have h1:=Lib.compact_length_le (cN (dF a.flatten));have h2:∀l:List GPart,(dF l).length<=l.length:=fun l=>by
  induction l with
  |nil=>simp [dF]
  |cons p l ih=>simp only [dF];split<;>simp<;>omega
 have h3:=h2 a.flatten;rw [eH] at h1;exact Nat.le_trans h1 h3
theorem Gv (tk:List Bool) (k:Nat) (h:k<tk.length):spl (aA cB tk) k [.lit (.bool true)]=aA cB (tk.set k true):=by
 induction tk generalizing k with
 |nil=>simp at h
 |cons b tk ih=>
  cases k with
  |zero=>simp [cf,cB,rL,y5]
  |succ k=>simp only [cf,cB,List.cons_append,List.nil_append,vd,List.set_cons_succ];rw [ih k (by simpa using h)]
theorem EE (n:Nat):dq n [C.lit (.bool false)]=aA cB (List.replicate n false):=by
 induction n with
 |zero=>rfl
 |succ n ih=>rw [j9,List.replicate_succ,cf,ih];rfl
def F16:=And.intro zS (And.intro IY (And.intro Gc (And.intro AX (And.intro Et (And.intro IZ (And.intro Ep (And.intro xF (And.intro tf7 (And.intro cD (And.intro gH (And.intro dN (And.intro I0 (And.intro tu (And.intro Ht (And.intro Gf (And.intro tv (And.intro Gg (And.intro Eu (And.intro pr (And.intro Es (And.intro jz (And.intro Gh (And.intro I1 (Gi))))))))))))))))))))))))
theorem F17:type_of%F16:=F16
theorem iv (g:GEst) (hg:y8 g):aR prog 28 [.agg (aJ g)] (one (.int .i64 (bv g))):=by
 obtain ⟨⟨hq1,hq2⟩,hcl,hcn,hag⟩:=hg;have hS0:=yZ g.cash hq1 hq2;unfold bv;refine aP func28 rfl (by decide) (N:=87) rfl (by simp) (R:=[.tmp 2]) rfl fun en k0=>?_
 refine awN ?_;simp only [F17,seval,aJ];by_cases h24:24<g.claims.length
 ·have hI:(24:Int)<(g.claims.length:Int):=by omega
  refine awR [] [0,0,0,0,0,34,34,34,34,0,0] ?_;simp only [F17,seval,hI];refine awT ?_;refine awN ?_;simp only [F17,seval];refine awX ?_;simp only [F17,seval,h24]
 have hI24:¬(24:Int)<(g.claims.length:Int):=by omega
 by_cases h12:12<g.agrs.length
 ·have hI:(12:Int)<(g.agrs.length:Int):=by omega
  refine awR [] [0,0,0,0,0,34,34,34,34,0,0] ?_;simp only [F17,seval,hI24,hI];refine awT ?_;refine awN ?_;simp only [F17,seval];refine awX ?_;simp only [F17,seval,h12]
 have hI12:¬(12:Int)<(g.agrs.length:Int):=by omega
 by_cases hq:cU (qOf g.cash)<0
 ·repeat' first|apply awS|apply awB
  refine awR [] [0,0,0,0,0,34,34,34,34,0,0] ?_;simp only [F17,seval,hI24,hI12];refine awF ?_;refine awN ?_;simp only [F17,seval];refine ⟨_,hS0,rfl,?_⟩;simp only [ak,F17,seval,hq];refine awT ?_;refine awN ?_;simp only [F17,seval];refine awX ?_;simp only [F17,seval,h24,h12,or_self]
 refine awR [] [0,0,0,0,0,34,34,34,34,0,0] ?_;simp only [F17,seval,hI24,hI12];refine awF ?_;refine awN ?_;simp only [F17,seval];refine ⟨_,hS0,rfl,?_⟩;simp only [ak,F17,seval,hq];refine awF ?_;refine awK ?_;simp only [F17,seval];refine awN ?_;simp only [F17,seval];refine aQ [1,28,29,30] [1] ?_;simp only [F17,seval];refine lY (M:=fun st=>bq g.claims=0/\∃nx,st=⟨mkT [(1,.val (.one (.ptr 1 0 0)))],mkH [(1,⟨0,36,5,1,aJ g⟩)],nx,0⟩) ?_ ?_
 ·repeat' first|apply awS|apply awB
  refine aM (fun n st=>∃k nx,k<=g.claims.length/\n=g.claims.length-k/\bq (g.claims.drop k)=bq g.claims/\st=⟨mkT [(1,.val (.one (.ptr 1 0 0))),(28,.val (.one (.sh 5 g.claims.length (aA b0 g.claims)))),(29,one (.int .i64 g.claims.length)),(30,one (.int .i64 k))],mkH [(1,⟨0,36,5,1,aJ g⟩)],nx,0⟩) g.claims.length ⟨0,_,by omega,by omega,rfl,rfl⟩ ?_;rintro n st ⟨k,nx,hk,rfl,hL,rfl⟩;generalize hcc:g.claims=cl at *
  by_cases hlt:k<cl.length
  ·have hI:(k:Int)<(cl.length:Int):=by omega
   have hat:=aO cK cl k hlt;rw [List.drop_eq_getElem_cons hlt] at hL;have hS:=yZ cl[k].amount (hcl _ (List.getElem_mem hlt)).1 (hcl _ (List.getElem_mem hlt)).2;generalize cl[k]=c at *
   simp only [bq] at hL;by_cases p1:c.holder< -1
   ·repeat' first|apply awS|apply awB
    refine awN ?_;simp only [F17,seval,hI];refine awT ?_;refine awK ?_;simp only [F17,seval];refine awN ?_;simp only [F17,seval,hat,b0];repeat refine ob ?_
    refine awR [] [0,0,0,0,78,78,78,0,0] ?_;simp only [F17,seval,p1];refine awT ?_;refine awN ?_;simp only [F17,seval];have hR:bq cl=19:=by rw [←hL];simp [p1]
    refine awX ?_;simp only [F17,seval,h24,h12,or_self,hR,Int.reduceEq]
   by_cases p2:8<=c.holder
   ·repeat' first|apply awS|apply awB
    refine awN ?_;simp only [F17,seval,hI];refine awT ?_;refine awK ?_;simp only [F17,seval];refine awN ?_;simp only [F17,seval,hat,b0];repeat refine ob ?_
    refine awR [] [0,0,0,0,78,78,78,0,0] ?_;simp only [F17,seval,p1,p2];refine awT ?_;refine awN ?_;simp only [F17,seval];have hR:bq cl=19:=by rw [←hL];simp [p2]
    refine awX ?_;simp only [F17,seval,h24,h12,or_self,hR,Int.reduceEq]
   by_cases p3:c.rank<0
   ·repeat' first|apply awS|apply awB
    refine awN ?_;simp only [F17,seval,hI];refine awT ?_;refine awK ?_;simp only [F17,seval];refine awN ?_;simp only [F17,seval,hat,b0];repeat refine ob ?_
    refine awR [] [0,0,0,0,78,78,78,0,0] ?_;simp only [F17,seval,p1,p2];refine awF ?_;refine awR [] [0,0,0,0,96,96,96,0,0] ?_;simp only [F17,seval,p3];refine awT ?_;refine awN ?_;simp only [F17,seval];have hR:bq cl=1:=by rw [←hL];simp [p1,p2,p3]
    refine awX ?_;simp only [F17,seval,h24,h12,or_self,hR,Int.reduceEq]
   by_cases p4:7<c.rank
   ·repeat' first|apply awS|apply awB
    refine awN ?_;simp only [F17,seval,hI];refine awT ?_;refine awK ?_;simp only [F17,seval];refine awN ?_;simp only [F17,seval,hat,b0];repeat refine ob ?_
    refine awR [] [0,0,0,0,78,78,78,0,0] ?_;simp only [F17,seval,p1,p2];refine awF ?_;refine awR [] [0,0,0,0,96,96,96,0,0] ?_;simp only [F17,seval,p3,p4];refine awT ?_;refine awN ?_;simp only [F17,seval];have hR:bq cl=1:=by rw [←hL];simp [p1,p2,p4]
    refine awX ?_;simp only [F17,seval,h24,h12,or_self,hR,Int.reduceEq]
   by_cases hsg:cU (qOf c.amount)<0
   ·repeat' first|apply awS|apply awB
    refine awN ?_;simp only [F17,seval,hI];refine awT ?_;refine awK ?_;simp only [F17,seval];refine awN ?_;simp only [F17,seval,hat,b0];repeat refine ob ?_
    refine awR [] [0,0,0,0,78,78,78,0,0] ?_;simp only [F17,seval,p1,p2];refine awF ?_;refine awR [] [0,0,0,0,96,96,96,0,0] ?_;simp only [F17,seval,p3,p4];refine awF ?_;refine awN ?_;simp only [F17,seval];refine ⟨_,hS,rfl,?_⟩;simp only [ak,F17,seval,hsg];refine awT ?_;refine awN ?_;simp only [F17,seval];have hR:bq cl=7:=by rw [←hL];simp [p1,p2,p3,p4,hsg]
    refine awX ?_;simp only [F17,seval,h24,h12,or_self,hR,Int.reduceEq]
   repeat' first|apply awS|apply awB
   refine awN ?_;simp only [F17,seval,hI];refine awT ?_;refine awK ?_;simp only [F17,seval];refine awN ?_;simp only [F17,seval,hat,b0];repeat refine ob ?_
   refine awR [] [0,0,0,0,78,78,78,0,0] ?_;simp only [F17,seval,p1,p2];refine awF ?_;refine awR [] [0,0,0,0,96,96,96,0,0] ?_;simp only [F17,seval,p3,p4];refine awF ?_;refine awN ?_;simp only [F17,seval];refine ⟨_,hS,rfl,?_⟩;simp only [ak,F17,seval,hsg];refine awF ?_;refine awK ?_;simp only [F17,seval];refine awN ?_;simp only [F17,seval];repeat refine ob ?_
   refine ⟨_,aI [1,28,29,30] [1],cl.length-(k+1),by omega,k+1,nx+1,by omega,rfl,?_,?_⟩
   ·rw [←hL];simp [p1,p2,p3,p4,hsg]
   simp only [F17,seval];try rfl
  obtain rfl:k=cl.length:=by omega
  have hI:¬(cl.length:Int)<(cl.length:Int):=by omega
  rw [List.drop_length] at hL;simp only [bq] at hL;refine awN ?_;simp only [F17,seval,hI];refine awF ?_;refine awQ ?_;simp only [F17,seval];refine ⟨_,aI [1] [1],hL.symm,nx,?_⟩;simp only [F17,seval]
 rintro st ⟨hw0,nx,rfl⟩;simp only [h24,h12,or_self,if_false,hw0,ne_eq,not_true_eq_false];refine awN ?_;simp only [F17,seval,aJ];repeat refine ob ?_
 refine awN ?_;simp only [F17,seval];refine aQ [5,63,64,65] [61] ?_;simp only [F17,seval,EE];repeat' first|apply awS|apply awB
 refine aM (fun n st=>∃k nx s tk,k<=g.agrs.length/\n=g.agrs.length-k/\tk.length=g.claims.length/\f4 tk (g.agrs.drop k)=f4 (List.replicate g.claims.length false) g.agrs/\st=⟨mkT [(5,.val (.one (.own 61 s tk.length 1))),(63,.val (.one (.sh 1 g.agrs.length (aA bu g.agrs)))),(64,one (.int .i64 g.agrs.length)),(65,one (.int .i64 k))],mkH [(61,⟨s,4,1,tk.length,aA cB tk⟩)],nx,0⟩) g.agrs.length ⟨0,_,_,List.replicate g.claims.length false,by omega,by omega,by simp,rfl,by simp only [List.length_replicate];rfl⟩ ?_;rintro n st ⟨k,nx,s,tk,hk,rfl,htk,hL,rfl⟩;by_cases hlt:k<g.agrs.length
 ·have hI:(k:Int)<(g.agrs.length:Int):=by omega
  have hat:=aO gI g.agrs k hlt;rw [Nat.mul_one] at hat;rw [List.drop_eq_getElem_cons hlt] at hL;obtain ⟨ha1,ha2⟩:=hag g.agrs[k] (List.getElem_mem hlt);generalize g.agrs[k]=a at *
  have hCA:=mP a tk ha1 (by omega) ha2;simp only [f4] at hL;by_cases he:eP a tk=0
  ·obtain ⟨b1,b2,b3⟩:=mQ he;have hM:=rN a (by omega) (by omega);have hml:=xI a;rw [if_neg (by simp [he])] at hL;refine awN ?_;simp only [F17,seval,hI];refine awT ?_;refine awK ?_;simp only [F17,seval];refine awN ?_;simp only [F17,seval,hat,bu];repeat refine ob ?_
   refine awN ?_;simp only [F17,seval,ab bF,ab y7];refine ⟨_,hCA,rfl,?_⟩;simp only [ak,F17,seval,he];refine awN ?_;simp only [F17,seval];refine awF ?_;refine awK ?_;simp only [F17,seval];refine awN ?_;simp only [F17,seval,ab bF];refine ⟨_,hM,by simp [al,ax,ab bg],?_⟩;simp only [ak,F17,seval];refine aQ [5,63,64,65,76,77,78] [61] ?_;simp only [F17,seval];repeat' first|apply awS|apply awB
   refine aM (fun n st=>∃j nx tk2,j<=(mem a).length/\n=(mem a).length-j/\tk2.length=g.claims.length/\lZ tk2 ((mem a).drop j)=lZ tk (mem a)/\st=⟨mkT [(5,.val (.one (.own 61 s tk2.length 1))),(63,.val (.one (.sh 1 g.agrs.length (aA bu g.agrs)))),(64,one (.int .i64 g.agrs.length)),(65,one (.int .i64 k)),(76,.val (.one (.sh 1 (mem a).length (aA cI (mem a))))),(77,one (.int .i64 (mem a).length)),(78,one (.int .i64 j))],mkH [(61,⟨s,4,1,tk2.length,aA cB tk2⟩)],nx,0⟩) (mem a).length ⟨0,_,tk,by omega,by omega,htk,rfl,rfl⟩ ?_;rintro n2 st ⟨j,nx2,tk2,hj,rfl,htk2,hm,rfl⟩;have hlen:=bo CS tk2;rw [Nat.mul_one] at hlen;by_cases hjt:j<(mem a).length
   ·have hJ:(j:Int)<((mem a).length:Int):=by omega
    have hat2:=aO mO (mem a) j hjt;rw [Nat.mul_one] at hat2;rw [List.drop_eq_getElem_cons hjt] at hm;have hb:=b3 _ (List.getElem_mem hjt);generalize (mem a)[j]=i at *
    have hset:=Gv tk2 i.toNat (by omega);refine awN ?_;simp only [F17,seval,hJ];refine awT ?_;refine awK ?_;simp only [F17,seval];refine awN ?_;simp only [F17,seval,hat2,cI];repeat refine ob ?_
    refine awN ?_;simp only [F17,seval,hset,hlen];repeat refine ob ?_
    refine awN ?_;simp only [F17,seval];repeat refine ob ?_
    refine ⟨_,aI [5,63,64,65,76,77,78] [61],(mem a).length-(j+1),by omega,j+1,nx2,tk2.set i.toNat true,by omega,rfl,by simpa using htk2,hm,?_⟩;simp only [F17,seval,List.length_set];try rfl
   obtain rfl:j=(mem a).length:=by omega
   have hJ:¬((mem a).length:Int)<((mem a).length:Int):=by omega
   rw [List.drop_length] at hm;simp only [lZ] at hm;refine awN ?_;simp only [F17,seval,hJ];refine awF ?_;refine awQ ?_;simp only [F17,seval];refine awN ?_;simp only [F17,seval];repeat refine ob ?_
   refine ⟨_,aI [5,63,64,65] [61],g.agrs.length-(k+1),by omega,k+1,nx2,s,tk2,by omega,rfl,htk2,?_,?_⟩
   ·rw [hm];exact hL
   simp only [F17,seval];try rfl
  rw [if_pos he] at hL;refine awN ?_;simp only [F17,seval,hI];refine awT ?_;refine awK ?_;simp only [F17,seval];refine awN ?_;simp only [F17,seval,hat,bu];repeat refine ob ?_
  refine awN ?_;simp only [F17,seval,ab bF,ab y7];refine ⟨_,hCA,rfl,?_⟩;simp only [ak,F17,seval];refine awN ?_;simp only [F17,seval,he];refine awT ?_;refine awN ?_;simp only [F17,seval];refine awX ?_;simp only [F17,seval,hL]
 obtain rfl:k=g.agrs.length:=by omega
 have hI:¬(g.agrs.length:Int)<(g.agrs.length:Int):=by omega
 rw [List.drop_length] at hL;simp only [f4] at hL;refine awN ?_;simp only [F17,seval,hI];refine awF ?_;refine awQ ?_;simp only [F17,seval];refine awN ?_;simp only [F17,seval];refine awX ?_;simp only [F17,seval,←hL]
noncomputable def ud:List GEst->Int
 |[]=>0
 |e::l=>if bv e≠0 then bv e else ud l
def uy (n i:Int):List GClaim->Bool
 |[]=>false
 |c::l=>decide (c.holder=i)||decide (n<=c.holder)||uy n i l
def km (n:Int) (i:Int):List GEst->Bool
 |[]=>false
 |e::l=>uy n i e.claims||km n (i+1) l
noncomputable def tr (g:GGrp):List GDebt->List Leg->Int
 |[],_=>0
 |d::l,T=>if (mt g d T).1≠0 then (mt g d T).1 else tr g l (mt g d T).2
noncomputable def kR (g:GGrp):Int:=if 8<g.ests.length∨16<g.debts.length then 2 else if ud g.ests≠0 then ud g.ests
 else if km g.ests.length 0 g.ests=true then 19 else tr g g.debts []
def Lo (g:GGrp):Prop:=(∀e∈g.ests,y8 e)/\∀d∈g.debts,jh d.whole
def F18:=And.intro zS (And.intro Gc (And.intro pt (And.intro Gd (And.intro Ep (And.intro ll (And.intro CF (And.intro cD (And.intro tu (And.intro BK (And.intro AY (And.intro tv (And.intro Gj (And.intro mN (And.intro Eu (And.intro nX (And.intro CH (And.intro tw (And.intro jz (And.intro I1 (And.intro AZ (Ev)))))))))))))))))))))
theorem F19:type_of%F18:=F18
theorem Mh (g:GGrp) (hg:Lo g):aR prog 16 [.agg (am g)] (one (.int .i64 (kR g))):=by
 obtain ⟨hge,hgd⟩:=hg;unfold kR;refine aP func16 rfl (by decide) (N:=82) rfl (by simp) (R:=[.tmp 2]) rfl fun en k0=>?_
 refine awN ?_;simp only [F19,seval,am];by_cases h8:8<g.ests.length
 ·have hI:(8:Int)<(g.ests.length:Int):=by omega
  refine awR [] [0,0,0,0,0,38,38,38,38,0] ?_;simp only [F19,seval,hI];refine awT ?_;refine awN ?_;simp only [F19,seval];refine awX ?_;simp only [F19,seval,h8]
 have hI8:¬(8:Int)<(g.ests.length:Int):=by omega
 by_cases h16:16<g.debts.length
 ·have hI:(16:Int)<(g.debts.length:Int):=by omega
  refine awR [] [0,0,0,0,0,38,38,38,38,0] ?_;simp only [F19,seval,hI8,hI];refine awT ?_;refine awN ?_;simp only [F19,seval];refine awX ?_;simp only [F19,seval,h16]
 have hI16:¬(16:Int)<(g.debts.length:Int):=by omega
 refine awR [] [0,0,0,0,0,38,38,38,38,0] ?_;simp only [F19,seval,hI8,hI16];refine awF ?_;refine awK ?_;simp only [F19,seval];refine awN ?_;simp only [F19,seval];refine aQ [1,25,26,27] [1] ?_;simp only [F19,seval];refine lY (M:=fun st=>ud g.ests=0/\∃nx,st=⟨mkT [(1,.val (.one (.ptr 1 0 0)))],mkH [(1,⟨0,28,2,1,am g⟩)],nx,0⟩) ?_ ?_
 ·repeat' first|apply awS|apply awB
  refine aM (fun n st=>∃k nx,k<=g.ests.length/\n=g.ests.length-k/\ud (g.ests.drop k)=ud g.ests/\st=⟨mkT [(1,.val (.one (.ptr 1 0 0))),(25,.val (.one (.sh 5 g.ests.length (aA aJ g.ests)))),(26,one (.int .i64 g.ests.length)),(27,one (.int .i64 k))],mkH [(1,⟨0,28,2,1,am g⟩)],nx,0⟩) g.ests.length ⟨0,_,by omega,by omega,rfl,rfl⟩ ?_;rintro n st ⟨k,nx,hk,rfl,hL,rfl⟩;by_cases hlt:k<g.ests.length
  ·have hI:(k:Int)<(g.ests.length:Int):=by omega
   have hat:=aO i4 g.ests k hlt;rw [List.drop_eq_getElem_cons hlt] at hL;have hW:=iv g.ests[k] (hge _ (List.getElem_mem hlt));generalize g.ests[k]=e at *
   simp only [ud] at hL;by_cases he:bv e=0
   ·repeat' first|apply awS|apply awB
    refine awN ?_;simp only [F19,seval,hI];refine awT ?_;refine awK ?_;simp only [F19,seval];refine awN ?_;simp only [F19,seval,hat,aJ];repeat refine ob ?_
    refine awN ?_;simp only [F19,seval,ab ao,ab au];refine ⟨_,hW,rfl,?_⟩;simp only [ak,F19,seval,he];refine awN ?_;simp only [F19,seval];refine awF ?_;refine awK ?_;simp only [F19,seval];refine awN ?_;simp only [F19,seval];repeat refine ob ?_
    refine ⟨_,aI [1,25,26,27] [1],g.ests.length-(k+1),by omega,k+1,nx+1,by omega,rfl,?_,?_⟩
    ·rw [if_neg (by simp [he])] at hL;exact hL
    simp only [F19,seval];try rfl
   repeat' first|apply awS|apply awB
   refine awN ?_;simp only [F19,seval,hI];refine awT ?_;refine awK ?_;simp only [F19,seval];refine awN ?_;simp only [F19,seval,hat,aJ];repeat refine ob ?_
   refine awN ?_;simp only [F19,seval,ab ao,ab au];refine ⟨_,hW,rfl,?_⟩;simp only [ak,F19,seval];refine awN ?_;simp only [F19,seval,he];refine awT ?_;refine awN ?_;simp only [F19,seval];rw [if_pos he] at hL;refine awX ?_;simp only [F19,seval,h8,h16,or_self,←hL,he]
  obtain rfl:k=g.ests.length:=by omega
  have hI:¬(g.ests.length:Int)<(g.ests.length:Int):=by omega
  rw [List.drop_length] at hL;simp only [ud] at hL;refine awN ?_;simp only [F19,seval,hI];refine awF ?_;refine awQ ?_;simp only [F19,seval];refine ⟨_,aI [1] [1],hL.symm,nx,?_⟩;simp only [F19,seval]
 rintro st ⟨hw0,nx,rfl⟩;simp only [h8,h16,or_self,if_false,hw0,ne_eq,not_true_eq_false];refine awN ?_;simp only [F19,seval,am];refine aQ [1,38,39,40] [1] ?_;simp only [F19,seval];refine lY (M:=fun st=>km g.ests.length 0 g.ests=false/\∃nx,st=⟨mkT [(1,.val (.one (.ptr 1 0 0)))],mkH [(1,⟨0,28,2,1,am g⟩)],nx,0⟩) ?_ ?_
 ·repeat' first|apply awS|apply awB
  refine aM (fun n st=>∃k nx,k<=g.ests.length/\n=g.ests.length-k/\km g.ests.length k (g.ests.drop k)=km g.ests.length 0 g.ests/\st=⟨mkT [(1,.val (.one (.ptr 1 0 0))),(38,.val (.one (.sh 5 g.ests.length (aA aJ g.ests)))),(39,one (.int .i64 g.ests.length)),(40,one (.int .i64 k))],mkH [(1,⟨0,28,2,1,am g⟩)],nx,0⟩) g.ests.length ⟨0,_,by omega,by omega,rfl,rfl⟩ ?_;rintro n st ⟨k,nx,hk,rfl,hL,rfl⟩;by_cases hlt:k<g.ests.length
  ·have hI:(k:Int)<(g.ests.length:Int):=by omega
   have hat:=aO i4 g.ests k hlt;rw [List.drop_eq_getElem_cons hlt] at hL;have hcn:=(hge _ (List.getElem_mem hlt)).2.2.1;generalize g.ests[k]=e at *
   simp only [km] at hL;refine awN ?_;simp only [F19,seval,hI];refine awT ?_;refine awK ?_;simp only [F19,seval];refine awN ?_;simp only [F19,seval,hat,aJ];repeat refine ob ?_
   refine awN ?_;simp only [F19,seval];refine aQ [1,6,38,39,40,46,47,48] [1] ?_;simp only [F19,seval];repeat' first|apply awS|apply awB
   refine aM (fun n st=>∃j nx,j<=e.claims.length/\n=e.claims.length-j/\uy g.ests.length k (e.claims.drop j)=uy g.ests.length k e.claims/\st=⟨mkT [(1,.val (.one (.ptr 1 0 0))),(6,one (.int .i64 k)),(38,.val (.one (.sh 5 g.ests.length (aA aJ g.ests)))),(39,one (.int .i64 g.ests.length)),(40,one (.int .i64 k)),(46,.val (.one (.sh 5 e.claims.length (aA b0 e.claims)))),(47,one (.int .i64 e.claims.length)),(48,one (.int .i64 j))],mkH [(1,⟨0,28,2,1,am g⟩)],nx,0⟩) e.claims.length ⟨0,_,by omega,by omega,rfl,rfl⟩ ?_;rintro n2 st ⟨j,nx2,hj,rfl,hM,rfl⟩;generalize hecl:e.claims=cl at *
   by_cases hjt:j<cl.length
   ·have hJ:(j:Int)<(cl.length:Int):=by omega
    have hat2:=aO cK cl j hjt;rw [List.drop_eq_getElem_cons hjt] at hM;generalize cl[j]=c at *
    simp only [uy] at hM;by_cases p1:c.holder=(k:Int)
    ·have hh:km g.ests.length 0 g.ests=true:=by rw [←hL,←hM];simp [p1]
     refine awN ?_;simp only [F19,seval,hJ];refine awT ?_;refine awK ?_;simp only [F19,seval];refine awN ?_;simp only [F19,seval,hat2,b0];repeat refine ob ?_
     refine awR [] [0,0,0,0,0,114,114,114,114,114,114,0] ?_;simp only [F19,seval,p1,am];refine awT ?_;refine awN ?_;simp only [F19,seval];refine awX ?_;simp only [F19,seval,hh]
    by_cases p2:(g.ests.length:Int)<=c.holder
    ·have hh:km g.ests.length 0 g.ests=true:=by rw [←hL,←hM];simp [p2]
     refine awN ?_;simp only [F19,seval,hJ];refine awT ?_;refine awK ?_;simp only [F19,seval];refine awN ?_;simp only [F19,seval,hat2,b0];repeat refine ob ?_
     refine awR [] [0,0,0,0,0,114,114,114,114,114,114,0] ?_;simp only [F19,seval,p1,p2,am];refine awT ?_;refine awN ?_;simp only [F19,seval];refine awX ?_;simp only [F19,seval,hh]
    refine awN ?_;simp only [F19,seval,hJ];refine awT ?_;refine awK ?_;simp only [F19,seval];refine awN ?_;simp only [F19,seval,hat2,b0];repeat refine ob ?_
    refine awR [] [0,0,0,0,0,114,114,114,114,114,114,0] ?_;simp only [F19,seval,p1,p2,am];refine awF ?_;refine awK ?_;simp only [F19,seval];refine awN ?_;simp only [F19,seval];repeat refine ob ?_
    refine ⟨_,aI [1,6,38,39,40,46,47,48] [1],cl.length-(j+1),by omega,j+1,nx2+1,by omega,rfl,?_,?_⟩
    ·rw [←hM];simp [p1,p2]
    simp only [F19,seval];try rfl
   obtain rfl:j=cl.length:=by omega
   have hJ:¬(cl.length:Int)<(cl.length:Int):=by omega
   rw [List.drop_length] at hM;simp only [uy] at hM;refine awN ?_;simp only [F19,seval,hJ];refine awF ?_;refine awQ ?_;simp only [F19,seval];refine awN ?_;simp only [F19,seval];repeat refine ob ?_
   refine ⟨_,aI [1,38,39,40] [1],g.ests.length-(k+1),by omega,k+1,nx2,by omega,rfl,?_,?_⟩
   ·rw [←hM] at hL;simpa using hL
   simp only [F19,seval];try rfl
  obtain rfl:k=g.ests.length:=by omega
  have hI:¬(g.ests.length:Int)<(g.ests.length:Int):=by omega
  rw [List.drop_length] at hL;simp only [km] at hL;refine awN ?_;simp only [F19,seval,hI];refine awF ?_;refine awQ ?_;simp only [F19,seval];refine ⟨_,aI [1] [1],hL.symm,nx,?_⟩;simp only [F19,seval]
 rintro st ⟨hh0,nx,rfl⟩;simp only [hh0,Bool.false_eq_true,if_false];refine awN ?_;simp only [F19,seval];refine awN ?_;simp only [F19,seval,am];refine aQ [1,10,68,69,70] [1,66] ?_;simp only [F19,seval];repeat' first|apply awS|apply awB
 refine aM (fun n st=>∃k nx s T,k<=g.debts.length/\n=g.debts.length-k/\tr g (g.debts.drop k) T=tr g g.debts []/\st=⟨mkT [(1,.val (.one (.ptr 1 0 0))),(10,.val (.one (.own 66 s 0 0))),(68,.val (.one (.sh 4 g.debts.length (aA fu g.debts)))),(69,one (.int .i64 g.debts.length)),(70,one (.int .i64 k))],mkH [(1,⟨0,28,2,1,am g⟩),(66,xP s T)],nx,0⟩) g.debts.length ⟨0,_,_,[],by omega,by omega,rfl,rfl⟩ ?_;rintro n st ⟨k,nx,s,T,hk,rfl,hL,rfl⟩;by_cases hlt:k<g.debts.length
 ·have hI:(k:Int)<(g.debts.length:Int):=by omega
  have hat:=aO gb g.debts k hlt;rw [List.drop_eq_getElem_cons hlt] at hL;obtain ⟨hd1,hd2⟩:=hgd g.debts[k] (List.getElem_mem hlt);generalize g.debts[k]=d at *
  simp only [tr] at hL;refine awN ?_;simp only [F19,seval,hI];refine awT ?_;refine awK ?_;simp only [F19,seval];refine awN ?_;simp only [F19,seval,hat,fu];repeat refine ob ?_
  refine awR [77] [0,0,0,0,0] ?_;simp only [F19,seval,am];refine ⟨_,KG g d T _ _ s ?_ (by rfl) hd1 hd2,?_⟩
  ·intro x B hB;simp only [aB] at hB;split at hB
   ·omega
   split at hB
   ·omega
   split at hB
   ·omega
   cases hB
  rintro res H' nx' ⟨rfl,h66,hrest⟩;have hB1:=hrest 1 (by omega) (by omega);simp only [aB,F19,seval] at hB1;by_cases he:(mt g d T).1=0
  ·rw [if_neg (by simp [he])] at hL;simp only [F19,seval];refine awN ?_;simp only [F19,seval,he];refine awF ?_;refine awK ?_;simp only [F19,seval];refine awN ?_;simp only [F19,seval];repeat refine ob ?_
   refine ⟨_,aI [1,10,68,69,70] [1,66],g.debts.length-(k+1),by omega,k+1,nx',s,(mt g d T).2,by omega,rfl,hL,?_⟩;simp only [F19,seval,h66,hB1];try rfl
  rw [if_pos he] at hL;simp only [F19,seval];refine awN ?_;simp only [F19,seval,he];refine awT ?_;refine awN ?_;simp only [F19,seval];refine awX ?_;simp only [F19,seval,hL]
 obtain rfl:k=g.debts.length:=by omega
 have hI:¬(g.debts.length:Int)<(g.debts.length:Int):=by omega
 rw [List.drop_length] at hL;simp only [tr] at hL;refine awN ?_;simp only [F19,seval,hI];refine awF ?_;refine awQ ?_;simp only [F19,seval];refine awN ?_;simp only [F19,seval];refine awX ?_;simp only [F19,seval,←hL]
def mbT (c:Int):List GPart->Bool
 |[]=>false
 |p::l=>decide (p.claim=c)||mbT c l
def mbA (c:Int):bR->Bool
 |[]=>false
 |t::a=>mbT c t||mbA c a
def mbE (c:Int):List bR->Bool
 |[]=>false
 |a::l=>mbA c a||mbE c l
def F20:=And.intro zS (And.intro tf1 (And.intro tf6 (And.intro tf2 (And.intro tf0 (And.intro tf8 (And.intro tf9 (And.intro KB (And.intro tf3 (jz)))))))))
theorem F21:type_of%F20:=F20
theorem jA (a:bR) (c:Int) (hn:a.length<=1000000000000) (ht:∀t∈a,t.length<=1000000000000):aR prog 183 [.agg (bu a),.one (.lit (.int .i64 c))] (one (.bool (mbA c a))):=by
 refine aP func183 rfl (by decide) (N:=35) rfl (by simp) (R:=[.tmp 4]) rfl fun en k0=>?_
 refine awN ?_;simp only [F21,seval,bu];refine awN ?_;simp only [F21,seval];refine aQ [1,2,5] [2] ?_;simp only [F21,seval];repeat' first|apply awS|apply awB
 refine aM (fun n st=>∃k nx,k<=a.length/\n=a.length-k/\mbA c (a.drop k)=mbA c a/\st=⟨mkT [(1,one (.int .i64 c)),(2,.val (.one (.ptr 2 0 0))),(5,one (.int .i64 k))],mkH [(2,⟨0,50,1,1,bu a⟩)],nx,0⟩) a.length ⟨0,_,by omega,by omega,rfl,rfl⟩ ?_;rintro n st ⟨k,nx,hk,rfl,hL,rfl⟩;by_cases hlt:k<a.length
 ·have hI:(k:Int)<(a.length:Int):=by omega
  have hat:=aO eA a k hlt;rw [Nat.mul_one] at hat;rw [List.drop_eq_getElem_cons hlt] at hL;have htl:=ht _ (List.getElem_mem hlt);generalize a[k]=t at *
  simp only [mbA] at hL;refine awN ?_;simp only [F21,seval,hI,bu];refine awT ?_;refine awK ?_;simp only [F21,seval];refine awN ?_;simp only [F21,seval];refine aQ [1,2,5,6] [2] ?_;simp only [F21,seval];repeat' first|apply awS|apply awB
  refine aM (fun n st=>∃j nx,j<=t.length/\n=t.length-j/\mbT c (t.drop j)=mbT c t/\st=⟨mkT [(1,one (.int .i64 c)),(2,.val (.one (.ptr 2 0 0))),(5,one (.int .i64 k)),(6,one (.int .i64 j))],mkH [(2,⟨0,50,1,1,bu a⟩)],nx,0⟩) t.length ⟨0,_,by omega,by omega,rfl,rfl⟩ ?_;rintro n2 st ⟨j,nx2,hj,rfl,hM,rfl⟩;by_cases hjt:j<t.length
  ·have hJ:(j:Int)<(t.length:Int):=by omega
   have hat2:=aO eX t j hjt;rw [List.drop_eq_getElem_cons hjt] at hM;generalize t[j]=p at *
   simp only [mbT] at hM;by_cases hc:p.claim=c
   ·have hh:mbA c a=true:=by rw [←hL,←hM];simp [hc]
    refine awN ?_;simp only [F21,seval,hat,hJ,bu,bD];repeat refine ob ?_
    refine awT ?_;refine awK ?_;simp only [F21,seval];refine awN ?_;simp only [F21,seval,hat,hat2,bD,bT,hc];repeat refine ob ?_
    refine awT ?_;refine awN ?_;simp only [F21,seval];refine awX ?_;simp only [F21,seval,hh]
   skip;refine awN ?_;simp only [F21,seval,hat,hJ,bu,bD];repeat refine ob ?_
   refine awT ?_;refine awK ?_;simp only [F21,seval];refine awN ?_;simp only [F21,seval,hat,hat2,bD,bT,hc];repeat refine ob ?_
   refine awF ?_;refine awK ?_;simp only [F21,seval];refine awN ?_;simp only [F21,seval];repeat refine ob ?_
   refine ⟨_,aI [1,2,5,6] [2],t.length-(j+1),by omega,j+1,nx2,by omega,rfl,?_,?_⟩
   ·rw [←hM];simp [hc]
   simp only [F21,seval];try rfl
  obtain rfl:j=t.length:=by omega
  have hJ:¬(t.length:Int)<(t.length:Int):=by omega
  rw [List.drop_length] at hM;simp only [mbT] at hM;refine awN ?_;simp only [F21,seval,hat,hJ,bu,bD];repeat refine ob ?_
  refine awF ?_;refine awQ ?_;simp only [F21,seval];refine awN ?_;simp only [F21,seval];repeat refine ob ?_
  refine ⟨_,aI [1,2,5] [2],a.length-(k+1),by omega,k+1,nx2,by omega,rfl,?_,?_⟩
  ·rw [←hM] at hL;simpa using hL
  simp only [F21,seval];try rfl
 obtain rfl:k=a.length:=by omega
 have hI:¬(a.length:Int)<(a.length:Int):=by omega
 rw [List.drop_length] at hL;simp only [mbA] at hL;refine awN ?_;simp only [F21,seval,hI,bu];refine awF ?_;refine awQ ?_;simp only [F21,seval];refine awN ?_;simp only [F21,seval];refine awX ?_;simp only [F21,seval,←hL]
def F22:=And.intro zS (And.intro IY (And.intro IZ (And.intro Ht (And.intro Gf (Gg)))))
theorem F23:type_of%F22:=F22
theorem A7 (g:GEst) (i:Nat) (c:Int) (hi:i<=g.agrs.length) (hi2:i<=1000000000000) (ha:∀a∈g.agrs,a.length<=1000000000000/\∀t∈a,t.length<=1000000000000):aR prog 154 [.agg (aJ g),.one (.lit (.int .i64 i)),.one (.lit (.int .i64 c))] (one (.bool (mbE c (g.agrs.take i)))):=by
 refine aP func154 rfl (by decide) (N:=20) rfl (by simp) (R:=[.tmp 6]) rfl fun en k0=>?_
 refine awN ?_;simp only [F23,seval,aJ];refine awN ?_;simp only [F23,seval];refine aQ [1,2,3,7] [3] ?_;simp only [F23,seval];repeat' first|apply awS|apply awB
 refine aM (fun n st=>∃k nx,k<=i/\n=i-k/\mbE c ((g.agrs.take i).drop k)=mbE c (g.agrs.take i)/\st=⟨mkT [(1,one (.int .i64 i)),(2,one (.int .i64 c)),(3,.val (.one (.ptr 3 0 0))),(7,one (.int .i64 k))],mkH [(3,⟨0,36,5,1,aJ g⟩)],nx,0⟩) i ⟨0,_,by omega,by omega,rfl,rfl⟩ ?_;rintro n st ⟨k,nx,hk,rfl,hL,rfl⟩;by_cases hlt:k<i
 ·have hI:(k:Int)<(i:Int):=by omega
  have hlt2:k<g.agrs.length:=by omega
  have hlt3:k<(g.agrs.take i).length:=by simp;omega
  have hat:=aO gI g.agrs k hlt2;rw [Nat.mul_one] at hat;rw [List.drop_eq_getElem_cons hlt3,List.getElem_take] at hL;have hM:=jA g.agrs[k] c (ha _ (List.getElem_mem hlt2)).1 (ha _ (List.getElem_mem hlt2)).2;generalize g.agrs[k]=a at *
  simp only [mbE] at hL;cases hb:mbA c a
  ·rw [hb] at hM hL;refine awN ?_;simp only [F23,seval,hI];refine awT ?_;refine awK ?_;simp only [F23,seval];refine awN ?_;simp only [F23,seval,hat,aJ,bu,ab bF];repeat refine ob ?_
   refine ⟨_,hM,rfl,?_⟩;simp only [ak,F23,seval];refine awF ?_;refine awK ?_;simp only [F23,seval];refine awN ?_;simp only [F23,seval];repeat refine ob ?_
   refine ⟨_,aI [1,2,3,7] [3],i-(k+1),by omega,k+1,nx,by omega,rfl,?_,?_⟩
   ·simpa using hL
   simp only [F23,seval];try rfl
  rw [hb] at hM hL;have hh:mbE c (g.agrs.take i)=true:=by rw [←hL];simp
  refine awN ?_;simp only [F23,seval,hI];refine awT ?_;refine awK ?_;simp only [F23,seval];refine awN ?_;simp only [F23,seval,hat,aJ,bu,ab bF];repeat refine ob ?_
  refine ⟨_,hM,rfl,?_⟩;simp only [ak,F23,seval];refine awT ?_;refine awN ?_;simp only [F23,seval];refine awX ?_;simp only [F23,seval,hh]
 obtain rfl:k=i:=by omega
 have hI:¬(k:Int)<(k:Int):=by omega
 rw [List.drop_eq_nil_of_le (by simp;omega)] at hL;simp only [mbE] at hL;refine awN ?_;simp only [F23,seval,hI];refine awF ?_;refine awQ ?_;simp only [F23,seval];refine awN ?_;simp only [F23,seval];refine awX ?_;simp only [F23,seval,←hL]
end Go.Proofs.YtokmkopihhnggaaGreatDoor
