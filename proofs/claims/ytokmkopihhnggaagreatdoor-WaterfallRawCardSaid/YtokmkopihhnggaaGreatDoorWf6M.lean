/- waterfall.Check; walked by the abstract machine. -/
import Derived.Test.YtokmkopihhnggaaGreatDoorWf1M
import Derived.Test.YtokmkopihhnggaaGreatDoorJfM
import Derived.ProofKit
import Derived.OpenShut
import Derived.Deep.Slices
import Derived.Test.YtokmkopihhnggaaGreatDoorProg
import Derived.Deep.Strs
import Derived.Test.YtokmkopihhnggaaGreatDoorAbGM
set_option linter.unusedVariables false
set_option maxHeartbeats 4000000
set_option maxRecDepth 100000
set_option linter.unusedSimpArgs false
set_option linter.defProp false
namespace Go.Proofs.YtokmkopihhnggaaGreatDoor
open Go Go.RowKit Go.Proofs.Tryz
def jh (q:GRat):Prop:=q.num.size<=500000000000/\q.den.size<=500000000000
def y8 (e:GEst):Prop:=jh e.cash/\(∀c∈e.claims,jh c.amount)/\e.claims.length<=1000000000000/\∀a∈e.agrs,(∀t∈a,t.length<=1000000000000)/\∀p∈a.flatten,jh p.cap
noncomputable def bq:List GClaim->Int
 |[]=>0
 |c::l=>if c.holder< -1∨8<=c.holder then 19 else if c.rank<0∨7<c.rank then 1 else if cU (qOf c.amount)<0 then 7 else bq l
def lZ (tk:List Bool):List Int->List Bool
 |[]=>tk
 |i::l=>lZ (tk.set i.toNat true) l
theorem gU:∀(l:List Int) (tk:List Bool),(lZ tk l).length=tk.length
 |[],_=>rfl
 |i::l,tk=>by rw [lZ,gU l,List.length_set]
noncomputable def f4 (tk:List Bool):List bR->Int
 |[]=>0
 |a::l=>if eP a tk≠0 then eP a tk else f4 (lZ tk (mem a)) l
noncomputable def bv (e:GEst):Int:=if 24<e.claims.length∨12<e.agrs.length then 2 else if cU (qOf e.cash)<0 then 7 else if bq e.claims≠0 then bq e.claims
 else f4 (List.replicate e.claims.length false) e.agrs
theorem ji {d:Array Int} {x:Int}:∀m,m<=d.size->x∈Lib.compactUpTo d m->x∈d.toList
 |0,_,h=>by simp [Lib.compactUpTo] at h
 |m+1,hm,h=>by
  rw [Lib.compactUpTo_succ,List.mem_append] at h;rcases h with h|h
  ·exact ji m (by omega) h
  split at h
  ·simp only [List.mem_singleton] at h;subst h;rw [getElem!_pos d m (by omega)];simp
  cases h
theorem ka {a:bR} {i:Int} (h:i∈mem a):i∈dF a.flatten:=by
 have h1:=ji _ (by simp) h;simpa [cN] using h1
theorem iS:∀{l:List GPart} {i:Int},i∈dF l->∃p∈l,p.claim=i/\p.claim≠ -1
 |p::l,i,h=>by
  simp only [dF] at h;by_cases hc:p.claim= -1
  ·rw [if_pos hc] at h;obtain ⟨q,h1,h2⟩:=iS h;exact ⟨q,List.mem_cons_of_mem _ h1,h2⟩
  rw [if_neg hc] at h;rcases List.mem_cons.1 h with rfl|h
  ·exact ⟨p,by simp,rfl,hc⟩
  obtain ⟨q,h1,h2⟩:=iS h;exact ⟨q,List.mem_cons_of_mem _ h1,h2⟩
theorem rP {tk:List Bool}:∀{l:List GPart},dv tk l=0->∀p∈l,p.claim≠ -1->0<=p.claim/\p.claim<tk.length
 |q::l,h,p,hp,hc=>by
  simp only [dv] at h;split at h
  ·cases h
  rename_i h1;split at h
  ·cases h
  split at h
  ·cases h
  split at h
  ·cases h
  rcases List.mem_cons.1 hp with rfl|hp
  ·have:=fun h2=>h1 ⟨hc,h2⟩
   omega
  exact rP h p hp hc
theorem mQ {a:bR} {tk:List Bool} (h:eP a tk=0):a.length<=24/\a.flatten.length<=576/\∀i∈mem a,0<=i/\i<tk.length:=by
 unfold eP at h;split at h
 ·cases h
 rename_i h1;have h2:a.any eb=false:=by simpa using fun h=>h1 (.inr h)
 have h3:=ie a h2;refine ⟨by omega,by omega,fun i hi=>?_⟩;obtain ⟨p,k1,k2,k3⟩:=iS (ka hi);subst k2;exact rP h p k1 k3
theorem xI (a:bR):(mem a).length<=a.flatten.length:=by
 have h1:=Lib.compact_length_le (cN (dF a.flatten));have h2:∀l:List GPart,(dF l).length<=l.length:=fun l=>by
  induction l with
  |nil=>simp [dF]
  |cons p l ih=>simp only [dF];split<;>simp<;>omega
 have h3:=h2 a.flatten;rw [eH] at h1;exact Nat.le_trans h1 h3
theorem Gv (tk:List Bool) (k:Nat) (h:k<tk.length):spl (aA cB tk) k [.lit (.bool true)]=aA cB (tk.set k true):=by
 induction tk generalizing k with
 |nil=>simp at h
 |cons b tk ih=>
  cases k with
  |zero=>simp [cf,cB,rL,y5]
  |succ k=>simp only [cf,cB,List.cons_append,List.nil_append,vd,List.set_cons_succ];rw [ih k (by simpa using h)]
theorem EE (n:Nat):dq n [C.lit (.bool false)]=aA cB (List.replicate n false):=by
 induction n with
 |zero=>rfl
 |succ n ih=>rw [j9,List.replicate_succ,cf,ih];rfl
def F12:=And.intro zS (And.intro AW (And.intro vg (And.intro Gc (And.intro Eq (And.intro tv (And.intro mN (And.intro Gd (And.intro tf7 (And.intro Hr (And.intro Er (And.intro vh (And.intro Ge (And.intro pq (And.intro tw (And.intro tz (And.intro pr (And.intro vi (And.intro CG (And.intro cD (And.intro tu (And.intro jz (And.intro AX (And.intro xF (Hs))))))))))))))))))))))))
theorem F13:type_of%F12:=F12
theorem iv (g:GEst) (hg:y8 g):aR prog 28 [.agg (aJ g)] (one (.int .i64 (bv g))):=by
 obtain ⟨⟨hq1,hq2⟩,hcl,hcn,hag⟩:=hg;have hS0:=yZ g.cash hq1 hq2;unfold bv;refine aP func28 rfl (by decide) (N:=87) rfl (by simp) (R:=[.tmp 2]) rfl fun en k0=>?_
 refine awN ?_;simp only [F13,seval,aJ];by_cases h24:24<g.claims.length
 ·have hI:(24:Int)<(g.claims.length:Int):=by omega
  refine awR [] [0,0,0,0,0,34,34,34,34,0,0] ?_;simp only [F13,seval,hI];refine awT ?_;refine awN ?_;simp only [F13,seval];refine awX ?_;simp only [F13,seval,h24]
 have hI24:¬(24:Int)<(g.claims.length:Int):=by omega
 by_cases h12:12<g.agrs.length
 ·have hI:(12:Int)<(g.agrs.length:Int):=by omega
  refine awR [] [0,0,0,0,0,34,34,34,34,0,0] ?_;simp only [F13,seval,hI24,hI];refine awT ?_;refine awN ?_;simp only [F13,seval];refine awX ?_;simp only [F13,seval,h12]
 have hI12:¬(12:Int)<(g.agrs.length:Int):=by omega
 by_cases hq:cU (qOf g.cash)<0
 ·repeat' first|apply awS|apply awB
  refine awR [] [0,0,0,0,0,34,34,34,34,0,0] ?_;simp only [F13,seval,hI24,hI12];refine awF ?_;refine awN ?_;simp only [F13,seval];refine ⟨_,hS0,rfl,?_⟩;simp only [ak,F13,seval,hq];refine awT ?_;refine awN ?_;simp only [F13,seval];refine awX ?_;simp only [F13,seval,h24,h12,or_self]
 refine awR [] [0,0,0,0,0,34,34,34,34,0,0] ?_;simp only [F13,seval,hI24,hI12];refine awF ?_;refine awN ?_;simp only [F13,seval];refine ⟨_,hS0,rfl,?_⟩;simp only [ak,F13,seval,hq];refine awF ?_;refine awK ?_;simp only [F13,seval];refine awN ?_;simp only [F13,seval];refine aQ [1,28,29,30] [1] ?_;simp only [F13,seval];refine lY (M:=fun st=>bq g.claims=0/\∃nx,st=⟨mkT [(1,.val (.one (.ptr 1 0 0)))],mkH [(1,⟨0,36,5,1,aJ g⟩)],nx,0⟩) ?_ ?_
 ·repeat' first|apply awS|apply awB
  refine aM (fun n st=>∃k nx,k<=g.claims.length/\n=g.claims.length-k/\bq (g.claims.drop k)=bq g.claims/\st=⟨mkT [(1,.val (.one (.ptr 1 0 0))),(28,.val (.one (.sh 5 g.claims.length (aA b0 g.claims)))),(29,one (.int .i64 g.claims.length)),(30,one (.int .i64 k))],mkH [(1,⟨0,36,5,1,aJ g⟩)],nx,0⟩) g.claims.length ⟨0,_,by omega,by omega,rfl,rfl⟩ ?_;rintro n st ⟨k,nx,hk,rfl,hL,rfl⟩;generalize hcc:g.claims=cl at *
  by_cases hlt:k<cl.length
  ·have hI:(k:Int)<(cl.length:Int):=by omega
   have hat:=aO cK cl k hlt;rw [List.drop_eq_getElem_cons hlt] at hL;have hS:=yZ cl[k].amount (hcl _ (List.getElem_mem hlt)).1 (hcl _ (List.getElem_mem hlt)).2;generalize cl[k]=c at *
   simp only [bq] at hL;by_cases p1:c.holder< -1
   ·repeat' first|apply awS|apply awB
    refine awN ?_;simp only [F13,seval,hI];refine awT ?_;refine awK ?_;simp only [F13,seval];refine awN ?_;simp only [F13,seval,hat,b0];repeat refine ob ?_
    refine awR [] [0,0,0,0,78,78,78,0,0] ?_;simp only [F13,seval,p1];refine awT ?_;refine awN ?_;simp only [F13,seval];have hR:bq cl=19:=by rw [←hL];simp [p1]
    refine awX ?_;simp only [F13,seval,h24,h12,or_self,hR,Int.reduceEq]
   by_cases p2:8<=c.holder
   ·repeat' first|apply awS|apply awB
    refine awN ?_;simp only [F13,seval,hI];refine awT ?_;refine awK ?_;simp only [F13,seval];refine awN ?_;simp only [F13,seval,hat,b0];repeat refine ob ?_
    refine awR [] [0,0,0,0,78,78,78,0,0] ?_;simp only [F13,seval,p1,p2];refine awT ?_;refine awN ?_;simp only [F13,seval];have hR:bq cl=19:=by rw [←hL];simp [p2]
    refine awX ?_;simp only [F13,seval,h24,h12,or_self,hR,Int.reduceEq]
   by_cases p3:c.rank<0
   ·repeat' first|apply awS|apply awB
    refine awN ?_;simp only [F13,seval,hI];refine awT ?_;refine awK ?_;simp only [F13,seval];refine awN ?_;simp only [F13,seval,hat,b0];repeat refine ob ?_
    refine awR [] [0,0,0,0,78,78,78,0,0] ?_;simp only [F13,seval,p1,p2];refine awF ?_;refine awR [] [0,0,0,0,96,96,96,0,0] ?_;simp only [F13,seval,p3];refine awT ?_;refine awN ?_;simp only [F13,seval];have hR:bq cl=1:=by rw [←hL];simp [p1,p2,p3]
    refine awX ?_;simp only [F13,seval,h24,h12,or_self,hR,Int.reduceEq]
   by_cases p4:7<c.rank
   ·repeat' first|apply awS|apply awB
    refine awN ?_;simp only [F13,seval,hI];refine awT ?_;refine awK ?_;simp only [F13,seval];refine awN ?_;simp only [F13,seval,hat,b0];repeat refine ob ?_
    refine awR [] [0,0,0,0,78,78,78,0,0] ?_;simp only [F13,seval,p1,p2];refine awF ?_;refine awR [] [0,0,0,0,96,96,96,0,0] ?_;simp only [F13,seval,p3,p4];refine awT ?_;refine awN ?_;simp only [F13,seval];have hR:bq cl=1:=by rw [←hL];simp [p1,p2,p4]
    refine awX ?_;simp only [F13,seval,h24,h12,or_self,hR,Int.reduceEq]
   by_cases hsg:cU (qOf c.amount)<0
   ·repeat' first|apply awS|apply awB
    refine awN ?_;simp only [F13,seval,hI];refine awT ?_;refine awK ?_;simp only [F13,seval];refine awN ?_;simp only [F13,seval,hat,b0];repeat refine ob ?_
    refine awR [] [0,0,0,0,78,78,78,0,0] ?_;simp only [F13,seval,p1,p2];refine awF ?_;refine awR [] [0,0,0,0,96,96,96,0,0] ?_;simp only [F13,seval,p3,p4];refine awF ?_;refine awN ?_;simp only [F13,seval];refine ⟨_,hS,rfl,?_⟩;simp only [ak,F13,seval,hsg];refine awT ?_;refine awN ?_;simp only [F13,seval];have hR:bq cl=7:=by rw [←hL];simp [p1,p2,p3,p4,hsg]
    refine awX ?_;simp only [F13,seval,h24,h12,or_self,hR,Int.reduceEq]
   repeat' first|apply awS|apply awB
   refine awN ?_;simp only [F13,seval,hI];refine awT ?_;refine awK ?_;simp only [F13,seval];refine awN ?_;simp only [F13,seval,hat,b0];repeat refine ob ?_
   refine awR [] [0,0,0,0,78,78,78,0,0] ?_;simp only [F13,seval,p1,p2];refine awF ?_;refine awR [] [0,0,0,0,96,96,96,0,0] ?_;simp only [F13,seval,p3,p4];refine awF ?_;refine awN ?_;simp only [F13,seval];refine ⟨_,hS,rfl,?_⟩;simp only [ak,F13,seval,hsg];refine awF ?_;refine awK ?_;simp only [F13,seval];refine awN ?_;simp only [F13,seval];repeat refine ob ?_
   refine ⟨_,aI [1,28,29,30] [1],cl.length-(k+1),by omega,k+1,nx+1,by omega,rfl,?_,?_⟩
   ·rw [←hL];simp [p1,p2,p3,p4,hsg]
   simp only [F13,seval];try rfl
  obtain rfl:k=cl.length:=by omega
  have hI:¬(cl.length:Int)<(cl.length:Int):=by omega
  rw [List.drop_length] at hL;simp only [bq] at hL;refine awN ?_;simp only [F13,seval,hI];refine awF ?_;refine awQ ?_;simp only [F13,seval];refine ⟨_,aI [1] [1],hL.symm,nx,?_⟩;simp only [F13,seval]
 rintro st ⟨hw0,nx,rfl⟩;simp only [h24,h12,or_self,if_false,hw0,ne_eq,not_true_eq_false];refine awN ?_;simp only [F13,seval,aJ];repeat refine ob ?_
 refine awN ?_;simp only [F13,seval];refine aQ [5,63,64,65] [61] ?_;simp only [F13,seval,EE];repeat' first|apply awS|apply awB
 refine aM (fun n st=>∃k nx s tk,k<=g.agrs.length/\n=g.agrs.length-k/\tk.length=g.claims.length/\f4 tk (g.agrs.drop k)=f4 (List.replicate g.claims.length false) g.agrs/\st=⟨mkT [(5,.val (.one (.own 61 s tk.length 1))),(63,.val (.one (.sh 1 g.agrs.length (aA bu g.agrs)))),(64,one (.int .i64 g.agrs.length)),(65,one (.int .i64 k))],mkH [(61,⟨s,4,1,tk.length,aA cB tk⟩)],nx,0⟩) g.agrs.length ⟨0,_,_,List.replicate g.claims.length false,by omega,by omega,by simp,rfl,by simp only [List.length_replicate];rfl⟩ ?_;rintro n st ⟨k,nx,s,tk,hk,rfl,htk,hL,rfl⟩;by_cases hlt:k<g.agrs.length
 ·have hI:(k:Int)<(g.agrs.length:Int):=by omega
  have hat:=aO gI g.agrs k hlt;rw [Nat.mul_one] at hat;rw [List.drop_eq_getElem_cons hlt] at hL;obtain ⟨ha1,ha2⟩:=hag g.agrs[k] (List.getElem_mem hlt);generalize g.agrs[k]=a at *
  have hCA:=mP a tk ha1 (by omega) ha2;simp only [f4] at hL;by_cases he:eP a tk=0
  ·obtain ⟨b1,b2,b3⟩:=mQ he;have hM:=rN a (by omega) (by omega);have hml:=xI a;rw [if_neg (by simp [he])] at hL;refine awN ?_;simp only [F13,seval,hI];refine awT ?_;refine awK ?_;simp only [F13,seval];refine awN ?_;simp only [F13,seval,hat,bu];repeat refine ob ?_
   refine awN ?_;simp only [F13,seval,ab bF,ab y7];refine ⟨_,hCA,rfl,?_⟩;simp only [ak,F13,seval,he];refine awN ?_;simp only [F13,seval];refine awF ?_;refine awK ?_;simp only [F13,seval];refine awN ?_;simp only [F13,seval,ab bF];refine ⟨_,hM,by simp [al,ax,ab bg],?_⟩;simp only [ak,F13,seval];refine aQ [5,63,64,65,76,77,78] [61] ?_;simp only [F13,seval];repeat' first|apply awS|apply awB
   refine aM (fun n st=>∃j nx tk2,j<=(mem a).length/\n=(mem a).length-j/\tk2.length=g.claims.length/\lZ tk2 ((mem a).drop j)=lZ tk (mem a)/\st=⟨mkT [(5,.val (.one (.own 61 s tk2.length 1))),(63,.val (.one (.sh 1 g.agrs.length (aA bu g.agrs)))),(64,one (.int .i64 g.agrs.length)),(65,one (.int .i64 k)),(76,.val (.one (.sh 1 (mem a).length (aA cI (mem a))))),(77,one (.int .i64 (mem a).length)),(78,one (.int .i64 j))],mkH [(61,⟨s,4,1,tk2.length,aA cB tk2⟩)],nx,0⟩) (mem a).length ⟨0,_,tk,by omega,by omega,htk,rfl,rfl⟩ ?_;rintro n2 st ⟨j,nx2,tk2,hj,rfl,htk2,hm,rfl⟩;have hlen:=bo CS tk2;rw [Nat.mul_one] at hlen;by_cases hjt:j<(mem a).length
   ·have hJ:(j:Int)<((mem a).length:Int):=by omega
    have hat2:=aO mO (mem a) j hjt;rw [Nat.mul_one] at hat2;rw [List.drop_eq_getElem_cons hjt] at hm;have hb:=b3 _ (List.getElem_mem hjt);generalize (mem a)[j]=i at *
    have hset:=Gv tk2 i.toNat (by omega);refine awN ?_;simp only [F13,seval,hJ];refine awT ?_;refine awK ?_;simp only [F13,seval];refine awN ?_;simp only [F13,seval,hat2,cI];repeat refine ob ?_
    refine awN ?_;simp only [F13,seval,hset,hlen];repeat refine ob ?_
    refine awN ?_;simp only [F13,seval];repeat refine ob ?_
    refine ⟨_,aI [5,63,64,65,76,77,78] [61],(mem a).length-(j+1),by omega,j+1,nx2,tk2.set i.toNat true,by omega,rfl,by simpa using htk2,hm,?_⟩;simp only [F13,seval,List.length_set];try rfl
   obtain rfl:j=(mem a).length:=by omega
   have hJ:¬((mem a).length:Int)<((mem a).length:Int):=by omega
   rw [List.drop_length] at hm;simp only [lZ] at hm;refine awN ?_;simp only [F13,seval,hJ];refine awF ?_;refine awQ ?_;simp only [F13,seval];refine awN ?_;simp only [F13,seval];repeat refine ob ?_
   refine ⟨_,aI [5,63,64,65] [61],g.agrs.length-(k+1),by omega,k+1,nx2,s,tk2,by omega,rfl,htk2,?_,?_⟩
   ·rw [hm];exact hL
   simp only [F13,seval];try rfl
  rw [if_pos he] at hL;refine awN ?_;simp only [F13,seval,hI];refine awT ?_;refine awK ?_;simp only [F13,seval];refine awN ?_;simp only [F13,seval,hat,bu];repeat refine ob ?_
  refine awN ?_;simp only [F13,seval,ab bF,ab y7];refine ⟨_,hCA,rfl,?_⟩;simp only [ak,F13,seval];refine awN ?_;simp only [F13,seval,he];refine awT ?_;refine awN ?_;simp only [F13,seval];refine awX ?_;simp only [F13,seval,hL]
 obtain rfl:k=g.agrs.length:=by omega
 have hI:¬(g.agrs.length:Int)<(g.agrs.length:Int):=by omega
 rw [List.drop_length] at hL;simp only [f4] at hL;refine awN ?_;simp only [F13,seval,hI];refine awF ?_;refine awQ ?_;simp only [F13,seval];refine awN ?_;simp only [F13,seval];refine awX ?_;simp only [F13,seval,←hL]
end Go.Proofs.YtokmkopihhnggaaGreatDoor
namespace Go.Proofs.YtokmkopihhnggaaGreatDoor
open Go.RowKit Go.ChangeShapes Go.WideShapes Go.ChangeAt Go.Proofs.Tryz
theorem qT {H:Type} {enc:TypeId×Value->H} {P:Program} (hl:laidOutB P=true) {W W':World} (hb:Below W.heap.size W W'):
  ∀(ts:List TypeId) (vs:List Value) (ds:List (DataW H)) (ps:List MemPlace),(∀t∈ts,P.readableRec t=true/\t<P.types.size)->(∀p∈ps,p.block<W.heap.size)->
   DataW.TrodAll enc P W 0 (fun _=>true) true ts vs ds ps->DataW.TrodAll enc P W' 0 (fun b=>decide (b<W.heap.size)) true ts vs ds ps:=by
 intro ts;induction ts with
 |nil=>
  intro vs ds ps _ _ h;obtain ⟨rfl,rfl,rfl⟩:=trodAll_nil h;exact trodAll_mk0
 |cons t ts ih=>
  intro vs ds ps hts hps h;obtain ⟨v,vs',d,ds',p,q,rfl,rfl,rfl,h0,h1⟩:=trodAll_cons h;have ht:=hts t (by simp);refine trodAll_cons_mk ?_ (ih _ _ _ (fun t' ht'=>hts t' (by simp [ht'])) (fun x hx=>hps x (by simp [hx])) h1);exact Below.trod hl ht.1 ht.2 h0 hb (fun x hx=>hps x (by simp [hx]))
theorem CT {H:Type} {enc:TypeId×Value->H} {P:Program} {fn:Func} {s:ChangeSpec} {W W':World} {args:Array Value} {ds:List (DataW H)} {before:List MemPlace} {bt:TypeId}
  (hl:laidOutB P=true) (hts:fn.params.toList.all (fun t=>P.readableRec t&&decide (t<P.types.size))=true) (hvars:s.vars=[])
  (hW:DataW.Whole enc P fn.params.toList s.vars false W args.toList ds [] before)
  (hres:(s.fn H (ds++[])).results=[.lit (.bool true)]) (hargs:(s.fn H (ds++[])).args=ds) (hrv:(s.fn H (ds++[])).vars=[])
  (hrt:fn.resultTypes= #[bt]) (hbt:P.underlying bt=some .bool) (hb:Below W.heap.size W W'):s.post enc P fn false true false false W args (.bool true) W':=by
 have hW0:=hW;obtain ⟨p,q,hA,hV,rfl,_,_⟩:=hW;rw [hvars] at hV;obtain ⟨_,hq⟩:=trodVars_none hV;have hlt:=hW0.lt;refine ⟨ds,[],p++q,[],p,[],hW0,?_,?_,?_,?_,fun h=>by cases h⟩
 ·rw [hres,hrt];exact trodAll_mk1 (shut_bool hbt true)
 ·rw [hargs];exact qT hl hb _ _ _ _ (fun t ht=>by have:=List.all_eq_true.1 hts t ht;simpa using this) (fun x hx=>hlt x (by simp [hx])) hA
 ·rw [hrv,hvars];rfl
 exact hb.frame _
def eI (P:Program) (t:TypeId) {α:Type} (R:fo α):Prop:=
 ∀(H:Type) (enc:TypeId×Value->H) (W:World) (fuel:Nat) (cs:List Value) (x:DataW H×List MemPlace),DataW.trod enc P W 0 (fun _=>true) true fuel t cs=some x->∃a,R W (LT W.heap.size) cs a
theorem vn {P:Program} {t e:TypeId} {α:Type} {R:fo α} {sz:Nat} (ht:P.underlying t=some (.slice e)) (hc:P.cellsOf e=sz) (hsz:0<sz) (he:eI P e R):eI P t (aH sz R):=by
 intro H enc W fuel cs x h;rcases Deep.open_slice ht h with ⟨rfl,_⟩|⟨a,len,cap,m,n,D,Pl,rfl,hb,hl,hm,hmm,_,hx⟩
 ·exact ⟨[],none,0,rfl,by simp,by unfold maxLen;omega,fun _=>rfl,.inl rfl⟩
 rw [if_pos rfl] at hmm;subst hmm;rw [hc] at hx;have hel:∀i,i<len->∃cs,cs.length=sz/\(∀c,c<sz->W.cell? ((a.add (i*sz)).add c)=cs[c]?)/\∃y,R W (LT W.heap.size) cs y:=by
  intro i hi;obtain ⟨cs',h1,h2⟩:=hx i (by omega);obtain ⟨_,h3,h4⟩:=World.cells?_some h1;exact ⟨cs',h3,h4,he H enc W n cs' _ h2⟩
 rcases Nat.eq_zero_or_pos len with hlen|hlen
 ·subst hlen;exact ⟨[],some a,_,rfl,by simp,hm,by simp,.inl rfl⟩
 obtain ⟨cs0,e1,e2,_⟩:=hel 0 hlen;have e3:=e2 0 hsz;rw [List.getElem?_eq_getElem (by omega)] at e3;simp only [Nat.zero_mul,Addr.add,if_pos] at e3;have hspot:a.spot=none:=by
  unfold World.cell? at e3;cases hsp:a.spot with
  |none=>rfl
  |some s=>rw [hsp] at e3;split at e3<;>simp at e3
 have hblk:=World.block_lt_of_cell? _ _ e3;obtain ⟨b,off,sp⟩:=a;simp only at hspot hblk;subst hspot;have hadd:∀i c,((⟨b,off,none⟩:Addr).add (i*sz)).add c=⟨b,off+i*sz+c,none⟩:=by
  intro i c;unfold Addr.add;by_cases hi:i*sz=0<;>by_cases hcc:c=0<;>simp [hi,hcc]
 let f:Fin len->α:=fun i=>(hel i.1 i.2).choose_spec.2.2.choose
 refine ⟨List.ofFn f,some ⟨b,off,none⟩,_,by simp,by simpa using hl,hm,by simp,.inr ⟨b,off,rfl,hblk,fun j hj=>?_⟩⟩;have hj':j<len:=by simpa using hj
 have h5:=(hel j hj').choose_spec;refine ⟨_,h5.1,fun c hc=>by rw [←hadd];exact h5.2.1 c hc,?_⟩;have h6:=h5.2.2.choose_spec;simpa [f] using h6
theorem A5 {P:Program} {t:TypeId} (ht:P.underlying t=some (.int .i64)):eI P t IV:=by
 intro H enc W fuel cs x h;obtain ⟨n,rfl,_,hw⟩:=DataW.trod_int ht h;have:nv n:=by simpa [Lit.wf,IntKind.min,IntKind.max,IntKind.signed,IntKind.bits,nv] using hw
 exact ⟨n,rfl,this⟩
theorem fj {P:Program} {t:TypeId} {fs:Array Field} {α:Type} {R:fo α} (ht:P.underlying t=some (.struct fs))
  (h:∀(H:Type) (enc:TypeId×Value->H) (W:World) (n:Nat) (cs:List Value),cs.length=P.cellsOf t->
   (∀(i:Nat) (f:Field) (k:Nat),fs[i]? =some f->P.cellsOf f.type=k->∃x,DataW.trod enc P W 0 (fun _=>true) true n f.type ((cs.drop f.offset).take k)=some x)->∃a,R W (LT W.heap.size) cs a):eI P t R:=by
 intro H enc W fuel cs x hx;obtain ⟨xs,n,_,_,hl,hxs,hf⟩:=DataW.trod_struct ht hx;refine h H enc W n cs hl fun i f k hi hk=>?_
 subst hk;have hlt:i<xs.length:=by rw [hxs];exact (Array.getElem?_eq_some_iff.1 hi).1
 exact ⟨xs[i],by rw [hf i f hi,List.getElem?_eq_getElem hlt]⟩
theorem l5 {P:Program} {t:TypeId} {fs:Array Field} {α:Type} {R:fo α} {H:Type} {enc:TypeId×Value->H} {W:World} {v:Value} {d:DataW H} {p:List MemPlace} {base:Nat} {rc:Reach}
  (ht:P.underlying t=some (.struct fs)) (hok:Value.okWide P W rc base t v) (ho:eI P t R) (h:DataW.Trod enc P W 0 (fun _=>true) true t v d p):∃l,∃cs:Array Value,v= .agg cs/\R W (LT W.heap.size) cs.toList l:=by
 obtain ⟨cs,rfl,_⟩:=okWide_struct ht hok;obtain ⟨fuel,h⟩:=h;obtain ⟨a,ha⟩:=ho H enc W fuel _ _ h;exact ⟨a,cs,rfl,ha⟩
theorem Tryz.cellsRat:prog.cellsOf 32=3:=by kernel_rfl
theorem Tryz.cellsBool:prog.cellsOf 4=1:=by kernel_rfl
theorem Tryz.cellsString:prog.cellsOf 9=1:=by kernel_rfl
theorem A6:eI prog 32 IW:=by
 refine fj underlying32 fun H enc W n cs hl hf=>?_
 rw [Tryz.cellsRat] at hl;match cs,hl with
 |[c0,c1,c2],_=>
  obtain ⟨x0,h0⟩:=hf 0 _ 1 rfl Tryz.cellsBool;obtain ⟨x1,h1⟩:=hf 1 _ 1 rfl Tryz.cellsString;obtain ⟨x2,h2⟩:=hf 2 _ 1 rfl Tryz.cellsString;obtain ⟨b,e0,_⟩:=DataW.trod_bool underlying4 h0;obtain ⟨s1,e1,_,k1⟩:=DataW.trod_string underlying9 h1;obtain ⟨s2,e2,_,k2⟩:=DataW.trod_string underlying9 h2;replace e0:[c0]=[.bool b]:=e0;replace e1:[c1]=[.string s1]:=e1;replace e2:[c2]=[.string s2]:=e2;simp only [List.cons.injEq,and_true] at e0 e1 e2;subst e0 e1 e2;exact ⟨⟨b,s1,s2⟩,rfl,k1,k2⟩
end Go.Proofs.YtokmkopihhnggaaGreatDoor
namespace Go.Proofs.YtokmkopihhnggaaGreatDoor
open Go.RowKit Go.ChangeShapes Go.WideShapes Go.ChangeAt Go Go.Proofs.Tryz
def rC {α:Type} (enc:α->List C) (ok:α->Prop):fo α:=fun W T cs a=>denVs (kIn W T W) cs (enc a)/\ok a
def cSl {α:Type} (sz:Nat) (enc:α->List C) (l:List α):List C:=[.sh sz l.length (aA enc l)]
def qU {α:Type} (ok:α->Prop) (l:List α):Prop:=l.length<=maxLen/\∀a∈l,ok a
theorem nK {κ:Kx} {b:Nat}:∀{xs ys:List C} {off:Nat},denM κ b off xs->denM κ b (off+xs.length) ys->denM κ b off (xs++ys)
 |[],ys,off,_,h=>by simpa using h
 |x::xs,ys,off,h,k=>by
  simp only [denM,List.cons_append] at h ⊢;refine ⟨h.1,nK h.2 ?_⟩;rw [List.length_cons] at k;rwa [Nat.add_assoc,Nat.add_comm 1]
theorem rQ {α:Type} {enc:α->List C} {sz:Nat} (hlen:∀a,(enc a).length=sz) {κ:Kx} {b:Nat}:
  ∀(l:List α) (off:Nat),(∀j (h:j<l.length),∃cs,cs.length=sz/\(∀c,c<sz->κ.w.cell? ⟨b,off+j*sz+c,none⟩=cs[c]?)/\denVs κ cs (enc l[j]))->denM κ b off (aA enc l)
 |[],_,_=>by simp [aA,denM]
 |a::l,off,h=>by
  rw [cf];refine nK ?_ ?_
  ·obtain ⟨cs,h1,h2,h3⟩:=h 0 (by simp);refine denM.of_vals h3 fun j u hj=>?_
   have hlt:j<sz:=by rw [←h1];exact (List.getElem?_eq_some_iff.1 hj).1
   have:=h2 j hlt;rw [←hj,←this];simp
  rw [hlen];refine rQ hlen l (off+sz) fun j hj=>?_
  obtain ⟨cs,h1,h2,h3⟩:=h (j+1) (by simpa using hj);refine ⟨cs,h1,fun c hc=>?_,by simpa using h3⟩;rw [←h2 c hc];congr 2;rw [Nat.succ_mul];omega
theorem l6 {P:Program} {t e:TypeId} {α:Type} {enc:α->List C} {ok:α->Prop} {sz:Nat} (ht:P.underlying t=some (.slice e)) (hc:P.cellsOf e=sz) (hsz:0<sz) (hlen:∀a,(enc a).length=sz)
  (he:eI P e (rC enc ok)):eI P t (rC (cSl sz enc) (qU ok)):=by
 intro H nc W fuel cs x h;obtain ⟨l,a,cap,rfl,h1,h2,h3,h4⟩:=vn ht hc hsz he H nc W fuel cs x h;have hl:l.length<=maxLen:=Nat.le_trans h1 h2;rcases h4 with rfl|⟨b,off,rfl,hb,hall⟩
 ·exact ⟨[],⟨⟨a,cap,rfl,h1,h2,h3,by simp [aA],.inl rfl⟩,trivial⟩,hl,fun _ h=>by cases h⟩
 refine ⟨l,⟨⟨_,cap,rfl,h1,h2,h3,bo hlen l,.inr ⟨b,off,rfl,oJ hb,rQ hlen l off fun j hj=>?_⟩⟩,trivial⟩,hl,fun y hy=>?_⟩
 ·obtain ⟨cs,k1,k2,k3⟩:=hall j hj;exact ⟨cs,k1,k2,k3.1⟩
 obtain ⟨j,hj,rfl⟩:=List.getElem_of_mem hy;obtain ⟨cs,k1,k2,k3⟩:=hall j hj;exact k3.2
theorem xJ {P:Program} {t:TypeId} (ht:P.underlying t=some (.int .i64)):eI P t (rC cI nv):=by
 intro H enc W fuel cs x h;obtain ⟨n,rfl,hn⟩:=A5 ht H enc W fuel cs x h;exact ⟨n,⟨⟨rfl,rfl⟩,trivial⟩,hn⟩
def cBo (b:Bool):List C:=[.lit (.bool b)]
theorem vo {P:Program} {t:TypeId} (ht:P.underlying t=some .bool):eI P t (rC cBo fun _=>True):=by
 intro H enc W fuel cs x h;obtain ⟨b,e0,_⟩:=DataW.trod_bool ht h;subst e0;exact ⟨b,⟨⟨rfl,rfl⟩,trivial⟩,trivial⟩
def rR (r:GRat):Prop:=r.num.size<=maxLen/\r.den.size<=maxLen
theorem iT:eI prog 32 (rC ai rR):=by
 intro H enc W fuel cs x h;obtain ⟨r,rfl,h1,h2⟩:=A6 H enc W fuel cs x h;exact ⟨r,⟨⟨rfl,rfl⟩,⟨rfl,rfl⟩,⟨rfl,rfl⟩,trivial⟩,h1,h2⟩
theorem Tryz.cellsIntC:prog.cellsOf 3=1:=by kernel_rfl
theorem lm:eI prog 3 (rC cI nv):=xJ underlying3
theorem tA:eI prog 4 (rC cBo fun _=>True):=vo underlying4
theorem Tryz.cellsCClaim:prog.cellsOf 38=5:=by kernel_rfl
def tB (x:GClaim):Prop:=nv x.holder/\nv x.rank/\rR x.amount
theorem tC:eI prog 38 (rC b0 tB):=by
 refine fj underlying38 fun H enc W n cs hl hf=>?_
 rw [Tryz.cellsCClaim] at hl;match cs,hl with
 |[c0,c1,c2,c3,c4],_=>
  obtain ⟨x0,h0⟩:=hf 0 _ 1 rfl Tryz.cellsIntC;obtain ⟨a0,k0,o0⟩:=lm H enc W _ _ _ h0;replace k0:denVs (fd W) [c0] _:=k0;obtain ⟨x1,h1⟩:=hf 1 _ 1 rfl Tryz.cellsIntC;obtain ⟨a1,k1,o1⟩:=lm H enc W _ _ _ h1;replace k1:denVs (fd W) [c1] _:=k1;obtain ⟨x2,h2⟩:=hf 2 _ 3 rfl Tryz.cellsRat;obtain ⟨a2,k2,o2⟩:=iT H enc W _ _ _ h2;replace k2:denVs (fd W) [c2,c3,c4] _:=k2;exact ⟨⟨a0,a1,a2⟩,(denVs.append k0 (denVs.append k1 k2)),o0,o1,o2⟩
theorem Tryz.cellsCClaims:prog.cellsOf 33=1:=by kernel_rfl
theorem qV:eI prog 33 (rC (cSl 5 b0) (qU tB)):=l6 underlying33 Tryz.cellsCClaim (by decide) cK tC
theorem Tryz.cellsCPart:prog.cellsOf 46=5:=by kernel_rfl
def tD (x:GPart):Prop:=nv x.claim/\True/\rR x.cap
theorem vp:eI prog 46 (rC bT tD):=by
 refine fj underlying46 fun H enc W n cs hl hf=>?_
 rw [Tryz.cellsCPart] at hl;match cs,hl with
 |[c0,c1,c2,c3,c4],_=>
  obtain ⟨x0,h0⟩:=hf 0 _ 1 rfl Tryz.cellsIntC;obtain ⟨a0,k0,o0⟩:=lm H enc W _ _ _ h0;replace k0:denVs (fd W) [c0] _:=k0;obtain ⟨x1,h1⟩:=hf 1 _ 1 rfl Tryz.cellsBool;obtain ⟨a1,k1,o1⟩:=tA H enc W _ _ _ h1;replace k1:denVs (fd W) [c1] _:=k1;obtain ⟨x2,h2⟩:=hf 2 _ 3 rfl Tryz.cellsRat;obtain ⟨a2,k2,o2⟩:=iT H enc W _ _ _ h2;replace k2:denVs (fd W) [c2,c3,c4] _:=k2;exact ⟨⟨a0,a1,a2⟩,(denVs.append k0 (denVs.append k1 k2)),o0,o1,o2⟩
theorem Tryz.cellsCParts:prog.cellsOf 47=1:=by kernel_rfl
theorem tE:eI prog 47 (rC (cSl 5 bT) (qU tD)):=l6 underlying47 Tryz.cellsCPart (by decide) eX vp
theorem Tryz.cellsCTiers:prog.cellsOf 48=1:=by kernel_rfl
theorem tF:eI prog 48 (rC (cSl 1 (cSl 5 bT)) (qU (qU tD))):=l6 underlying48 Tryz.cellsCParts (by decide) (fun _=>rfl) tE
theorem Tryz.cellsCAgr:prog.cellsOf 50=1:=by kernel_rfl
def CU (x:bR):Prop:=qU (qU tD) x
theorem xK:eI prog 50 (rC bu CU):=by
 refine fj underlying50 fun H enc W n cs hl hf=>?_
 rw [Tryz.cellsCAgr] at hl;match cs,hl with
 |[c0],_=>
  obtain ⟨x0,h0⟩:=hf 0 _ 1 rfl Tryz.cellsCTiers;obtain ⟨a0,k0,o0⟩:=tF H enc W _ _ _ h0;replace k0:denVs (fd W) [c0] _:=k0;exact ⟨a0,k0,o0⟩
theorem Tryz.cellsCAgrs:prog.cellsOf 34=1:=by kernel_rfl
theorem vt:eI prog 34 (rC (cSl 1 bu) (qU CU)):=l6 underlying34 Tryz.cellsCAgr (by decide) gI xK
theorem Tryz.cellsCEst:prog.cellsOf 36=5:=by kernel_rfl
def y9 (x:GEst):Prop:=rR x.cash/\qU tB x.claims/\qU CU x.agrs
theorem xL:eI prog 36 (rC aJ y9):=by
 refine fj underlying36 fun H enc W n cs hl hf=>?_
 rw [Tryz.cellsCEst] at hl;match cs,hl with
 |[c0,c1,c2,c3,c4],_=>
  obtain ⟨x0,h0⟩:=hf 0 _ 3 rfl Tryz.cellsRat;obtain ⟨a0,k0,o0⟩:=iT H enc W _ _ _ h0;replace k0:denVs (fd W) [c0,c1,c2] _:=k0;obtain ⟨x1,h1⟩:=hf 1 _ 1 rfl Tryz.cellsCClaims;obtain ⟨a1,k1,o1⟩:=qV H enc W _ _ _ h1;replace k1:denVs (fd W) [c3] _:=k1;obtain ⟨x2,h2⟩:=hf 2 _ 1 rfl Tryz.cellsCAgrs;obtain ⟨a2,k2,o2⟩:=vt H enc W _ _ _ h2;replace k2:denVs (fd W) [c4] _:=k2;exact ⟨⟨a0,a1,a2⟩,(denVs.append k0 (denVs.append k1 k2)),o0,o1,o2⟩
end Go.Proofs.YtokmkopihhnggaaGreatDoor
namespace Go.Proofs.YtokmkopihhnggaaGreatDoor
open Go Go.RowKit Go.Proofs.Tryz

def mbT (c:Int):List GPart->Bool
 |[]=>false
 |p::l=>decide (p.claim=c)||mbT c l
def mbA (c:Int):bR->Bool
 |[]=>false
 |t::a=>mbT c t||mbA c a
def mbE (c:Int):List bR->Bool
 |[]=>false
 |a::l=>mbA c a||mbE c l
def F14:=And.intro zS (And.intro tf1 (And.intro tf6 (And.intro tf2 (And.intro tf0 (And.intro tf8 (And.intro tf9 (And.intro xE (And.intro tf3 (jz)))))))))
theorem F15:type_of%F14:=F14
theorem jA (a:bR) (c:Int) (hn:a.length<=1000000000000) (ht:∀t∈a,t.length<=1000000000000):aR prog 183 [.agg (bu a),.one (.lit (.int .i64 c))] (one (.bool (mbA c a))):=by
 refine aP func183 rfl (by decide) (N:=35) rfl (by simp) (R:=[.tmp 4]) rfl fun en k0=>?_
 refine awN ?_;simp only [F15,seval,bu];refine awN ?_;simp only [F15,seval];refine aQ [1,2,5] [2] ?_;simp only [F15,seval];repeat' first|apply awS|apply awB
 refine aM (fun n st=>∃k nx,k<=a.length/\n=a.length-k/\mbA c (a.drop k)=mbA c a/\st=⟨mkT [(1,one (.int .i64 c)),(2,.val (.one (.ptr 2 0 0))),(5,one (.int .i64 k))],mkH [(2,⟨0,50,1,1,bu a⟩)],nx,0⟩) a.length ⟨0,_,by omega,by omega,rfl,rfl⟩ ?_;rintro n st ⟨k,nx,hk,rfl,hL,rfl⟩;by_cases hlt:k<a.length
 ·have hI:(k:Int)<(a.length:Int):=by omega
  have hat:=aO eA a k hlt;rw [Nat.mul_one] at hat;rw [List.drop_eq_getElem_cons hlt] at hL;have htl:=ht _ (List.getElem_mem hlt);generalize a[k]=t at *
  simp only [mbA] at hL;refine awN ?_;simp only [F15,seval,hI,bu];refine awT ?_;refine awK ?_;simp only [F15,seval];refine awN ?_;simp only [F15,seval];refine aQ [1,2,5,6] [2] ?_;simp only [F15,seval];repeat' first|apply awS|apply awB
  refine aM (fun n st=>∃j nx,j<=t.length/\n=t.length-j/\mbT c (t.drop j)=mbT c t/\st=⟨mkT [(1,one (.int .i64 c)),(2,.val (.one (.ptr 2 0 0))),(5,one (.int .i64 k)),(6,one (.int .i64 j))],mkH [(2,⟨0,50,1,1,bu a⟩)],nx,0⟩) t.length ⟨0,_,by omega,by omega,rfl,rfl⟩ ?_;rintro n2 st ⟨j,nx2,hj,rfl,hM,rfl⟩;by_cases hjt:j<t.length
  ·have hJ:(j:Int)<(t.length:Int):=by omega
   have hat2:=aO eX t j hjt;rw [List.drop_eq_getElem_cons hjt] at hM;generalize t[j]=p at *
   simp only [mbT] at hM;by_cases hc:p.claim=c
   ·have hh:mbA c a=true:=by rw [←hL,←hM];simp [hc]
    refine awN ?_;simp only [F15,seval,hat,hJ,bu,bD];repeat refine ob ?_
    refine awT ?_;refine awK ?_;simp only [F15,seval];refine awN ?_;simp only [F15,seval,hat,hat2,bD,bT,hc];repeat refine ob ?_
    refine awT ?_;refine awN ?_;simp only [F15,seval];refine awX ?_;simp only [F15,seval,hh]
   skip;refine awN ?_;simp only [F15,seval,hat,hJ,bu,bD];repeat refine ob ?_
   refine awT ?_;refine awK ?_;simp only [F15,seval];refine awN ?_;simp only [F15,seval,hat,hat2,bD,bT,hc];repeat refine ob ?_
   refine awF ?_;refine awK ?_;simp only [F15,seval];refine awN ?_;simp only [F15,seval];repeat refine ob ?_
   refine ⟨_,aI [1,2,5,6] [2],t.length-(j+1),by omega,j+1,nx2,by omega,rfl,?_,?_⟩
   ·rw [←hM];simp [hc]
   simp only [F15,seval];try rfl
  obtain rfl:j=t.length:=by omega
  have hJ:¬(t.length:Int)<(t.length:Int):=by omega
  rw [List.drop_length] at hM;simp only [mbT] at hM;refine awN ?_;simp only [F15,seval,hat,hJ,bu,bD];repeat refine ob ?_
  refine awF ?_;refine awQ ?_;simp only [F15,seval];refine awN ?_;simp only [F15,seval];repeat refine ob ?_
  refine ⟨_,aI [1,2,5] [2],a.length-(k+1),by omega,k+1,nx2,by omega,rfl,?_,?_⟩
  ·rw [←hM] at hL;simpa using hL
  simp only [F15,seval];try rfl
 obtain rfl:k=a.length:=by omega
 have hI:¬(a.length:Int)<(a.length:Int):=by omega
 rw [List.drop_length] at hL;simp only [mbA] at hL;refine awN ?_;simp only [F15,seval,hI,bu];refine awF ?_;refine awQ ?_;simp only [F15,seval];refine awN ?_;simp only [F15,seval];refine awX ?_;simp only [F15,seval,←hL]
def F16:=And.intro zS (And.intro AW (And.intro tv (And.intro tw (And.intro tz (vi)))))
theorem F17:type_of%F16:=F16
theorem A7 (g:GEst) (i:Nat) (c:Int) (hi:i<=g.agrs.length) (hi2:i<=1000000000000) (ha:∀a∈g.agrs,a.length<=1000000000000/\∀t∈a,t.length<=1000000000000):aR prog 154 [.agg (aJ g),.one (.lit (.int .i64 i)),.one (.lit (.int .i64 c))] (one (.bool (mbE c (g.agrs.take i)))):=by
 refine aP func154 rfl (by decide) (N:=20) rfl (by simp) (R:=[.tmp 6]) rfl fun en k0=>?_
 refine awN ?_;simp only [F17,seval,aJ];refine awN ?_;simp only [F17,seval];refine aQ [1,2,3,7] [3] ?_;simp only [F17,seval];repeat' first|apply awS|apply awB
 refine aM (fun n st=>∃k nx,k<=i/\n=i-k/\mbE c ((g.agrs.take i).drop k)=mbE c (g.agrs.take i)/\st=⟨mkT [(1,one (.int .i64 i)),(2,one (.int .i64 c)),(3,.val (.one (.ptr 3 0 0))),(7,one (.int .i64 k))],mkH [(3,⟨0,36,5,1,aJ g⟩)],nx,0⟩) i ⟨0,_,by omega,by omega,rfl,rfl⟩ ?_;rintro n st ⟨k,nx,hk,rfl,hL,rfl⟩;by_cases hlt:k<i
 ·have hI:(k:Int)<(i:Int):=by omega
  have hlt2:k<g.agrs.length:=by omega
  have hlt3:k<(g.agrs.take i).length:=by simp;omega
  have hat:=aO gI g.agrs k hlt2;rw [Nat.mul_one] at hat;rw [List.drop_eq_getElem_cons hlt3,List.getElem_take] at hL;have hM:=jA g.agrs[k] c (ha _ (List.getElem_mem hlt2)).1 (ha _ (List.getElem_mem hlt2)).2;generalize g.agrs[k]=a at *
  simp only [mbE] at hL;cases hb:mbA c a
  ·rw [hb] at hM hL;refine awN ?_;simp only [F17,seval,hI];refine awT ?_;refine awK ?_;simp only [F17,seval];refine awN ?_;simp only [F17,seval,hat,aJ,bu,ab bF];repeat refine ob ?_
   refine ⟨_,hM,rfl,?_⟩;simp only [ak,F17,seval];refine awF ?_;refine awK ?_;simp only [F17,seval];refine awN ?_;simp only [F17,seval];repeat refine ob ?_
   refine ⟨_,aI [1,2,3,7] [3],i-(k+1),by omega,k+1,nx,by omega,rfl,?_,?_⟩
   ·simpa using hL
   simp only [F17,seval];try rfl
  rw [hb] at hM hL;have hh:mbE c (g.agrs.take i)=true:=by rw [←hL];simp
  refine awN ?_;simp only [F17,seval,hI];refine awT ?_;refine awK ?_;simp only [F17,seval];refine awN ?_;simp only [F17,seval,hat,aJ,bu,ab bF];repeat refine ob ?_
  refine ⟨_,hM,rfl,?_⟩;simp only [ak,F17,seval];refine awT ?_;refine awN ?_;simp only [F17,seval];refine awX ?_;simp only [F17,seval,hh]
 obtain rfl:k=i:=by omega
 have hI:¬(k:Int)<(k:Int):=by omega
 rw [List.drop_eq_nil_of_le (by simp;omega)] at hL;simp only [mbE] at hL;refine awN ?_;simp only [F17,seval,hI];refine awF ?_;refine awQ ?_;simp only [F17,seval];refine awN ?_;simp only [F17,seval];refine awX ?_;simp only [F17,seval,←hL]
end Go.Proofs.YtokmkopihhnggaaGreatDoor
