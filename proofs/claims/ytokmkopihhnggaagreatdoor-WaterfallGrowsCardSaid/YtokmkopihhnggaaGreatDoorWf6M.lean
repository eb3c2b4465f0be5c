/- waterfall.Check; walked by the abstract machine. -/
import Derived.Test.YtokmkopihhnggaaGreatDoorWf1M
import Derived.Test.YtokmkopihhnggaaGreatDoorJfM
import Derived.ProofKit
import Derived.OpenShut
import Derived.Deep.Slices
import Derived.Test.YtokmkopihhnggaaGreatDoorProg
import Derived.Deep.Strs
import Derived.Test.YtokmkopihhnggaaGreatDoorAbGM
set_option linter.unusedVariables false
set_option maxHeartbeats 4000000
set_option linter.unusedSimpArgs false
set_option linter.defProp false
namespace Go.Proofs.YtokmkopihhnggaaGreatDoor
open Go Go.RowKit Go.Proofs.Tryz
def jh (q:GRat):Prop:=q.num.size<=500000000000/\q.den.size<=500000000000
def y8 (e:GEst):Prop:=jh e.cash/\(∀c∈e.claims,jh c.amount)/\e.claims.length<=1000000000000/\∀a∈e.agrs,(∀t∈a,t.length<=1000000000000)/\∀p∈a.flatten,jh p.cap
noncomputable def bq:List GClaim->Int
 |[]=>0
 |c::l=>if c.holder< -1∨8<=c.holder then 19 else if c.rank<0∨7<c.rank then 1 else if cU (qOf c.amount)<0 then 7 else bq l
def lZ (tk:List Bool):List Int->List Bool
 |[]=>tk
 |i::l=>lZ (tk.set i.toNat true) l
theorem gU:∀(l:List Int) (tk:List Bool),(lZ tk l).length=tk.length
 |[],_=>rfl
 |i::l,tk=>by rw [lZ,gU l,List.length_set]
noncomputable def f4 (tk:List Bool):List bR->Int
 |[]=>0
 |a::l=>if eP a tk≠0 then eP a tk else f4 (lZ tk (mem a)) l
noncomputable def bv (e:GEst):Int:=if 24<e.claims.length∨12<e.agrs.length then 2 else if cU (qOf e.cash)<0 then 7 else if bq e.claims≠0 then bq e.claims
 else f4 (List.replicate e.claims.length false) e.agrs
theorem ji {d:Array Int} {x:Int}:∀m,m<=d.size->x∈Lib.compactUpTo d m->x∈d.toList
 |0,_,h=>by simp [Lib.compactUpTo] at h
 |m+1,hm,h=>by
  rw [Lib.compactUpTo_succ,List.mem_append] at h;rcases h with h|h
  ·exact ji m (by omega) h
  split at h
  ·simp only [List.mem_singleton] at h;subst h;rw [getElem!_pos d m (by omega)];simp
  cases h
theorem ka {a:bR} {i:Int} (h:i∈mem a):i∈dF a.flatten:=by
 have h1:=ji _ (by simp) h;simpa [cN] using h1
theorem iS:∀{l:List GPart} {i:Int},i∈dF l->∃p∈l,p.claim=i/\p.claim≠ -1
 |p::l,i,h=>by
  simp only [dF] at h;by_cases hc:p.claim= -1
  ·rw [if_pos hc] at h;obtain ⟨q,h1,h2⟩:=iS h;exact ⟨q,List.mem_cons_of_mem _ h1,h2⟩
  rw [if_neg hc] at h;rcases List.mem_cons.1 h with rfl|h
  ·exact ⟨p,by simp,rfl,hc⟩
  obtain ⟨q,h1,h2⟩:=iS h;exact ⟨q,List.mem_cons_of_mem _ h1,h2⟩
theorem rP {tk:List Bool}:∀{l:List GPart},dv tk l=0->∀p∈l,p.claim≠ -1->0<=p.claim/\p.claim<tk.length
 |q::l,h,p,hp,hc=>by
  simp only [dv] at h;split at h
  ·cases h
  rename_i h1;split at h
  ·cases h
  split at h
  ·cases h
  split at h
  ·cases h
  rcases List.mem_cons.1 hp with rfl|hp
  ·have:=fun h2=>h1 ⟨hc,h2⟩
   omega
  exact rP h p hp hc
theorem mQ {a:bR} {tk:List Bool} (h:eP a tk=0):a.length<=24/\a.flatten.length<=576/\∀i∈mem a,0<=i/\i<tk.length:=by
 unfold eP at h;split at h
 ·cases h
 rename_i h1;have h2:a.any eb=false:=by simpa using fun h=>h1 (.inr h)
 have h3:=ie a h2;refine ⟨by omega,by omega,fun i hi=>?_⟩;obtain ⟨p,k1,k2,k3⟩:=iS (ka hi);subst k2;exact rP h p k1 k3
theorem xI (a:bR):(mem a).length<=a.flatten.length:=by
 have h1:=Lib.compact_length_le (cN (dF a.flatten));have h2:∀l:List GPart,(dF l).length<=l.length:=fun l=>by
  induction l with
  |nil=>simp [dF]
  |cons p l ih=>simp only [dF];split<;>simp<;>omega
 have h3:=h2 a.flatten;rw [eH] at h1;exact Nat.le_trans h1 h3
theorem Gv (tk:List Bool) (k:Nat) (h:k<tk.length):spl (aA cB tk) k [.lit (.bool true)]=aA cB (tk.set k true):=by
 induction tk generalizing k with
 |nil=>simp at h
 |cons b tk ih=>
  cases k with
  |zero=>simp [cf,cB,rL,y5]
  |succ k=>simp only [cf,cB,List.cons_append,List.nil_append,vd,List.set_cons_succ];rw [ih k (by simpa using h)]
theorem EE (n:Nat):dq n [C.lit (.bool false)]=aA cB (List.replicate n false):=by
 induction n with
 |zero=>rfl
 |succ n ih=>rw [j9,List.replicate_succ,cf,ih];rfl
def F12:=And.intro zS (And.intro BK (And.intro vg (And.intro Gc (And.intro Eq (And.intro tv (And.intro mN (And.intro Gd (And.intro tf7 (And.intro Hr (And.intro Er (And.intro vh (And.intro Ge (And.intro pq (And.intro tw (And.intro tz (And.intro pr (And.intro vi (And.intro CG (And.intro cD (And.intro tu (And.intro jz (And.intro AX (And.intro xF (Hs))))))))))))))))))))))))
theorem F13:type_of%F12:=F12
theorem iv (g:GEst) (hg:y8 g):aR prog 28 [.agg (aJ g)] (one (.int .i64 (bv g))):=by
 obtain ⟨⟨hq1,hq2⟩,hcl,hcn,hag⟩:=hg;have hS0:=yZ g.cash hq1 hq2;unfold bv;refine aP func28 rfl (by decide) (N:=87) rfl (by simp) (R:=[.tmp 2]) rfl fun en k0=>?_
 refine awN ?_;simp only [F13,seval,aJ];by_cases h24:24<g.claims.length
 ·have hI:(24:Int)<(g.claims.length:Int):=by omega
  refine awR [] [0,0,0,0,0,34,34,34,34,0,0] ?_;simp only [F13,seval,hI];refine awT ?_;refine awN ?_;simp only [F13,seval];refine awX ?_;simp only [F13,seval,h24]
 have hI24:¬(24:Int)<(g.claims.length:Int):=by omega
 by_cases h12:12<g.agrs.length
 ·have hI:(12:Int)<(g.agrs.length:Int):=by omega
  refine awR [] [0,0,0,0,0,34,34,34,34,0,0] ?_;simp only [F13,seval,hI24,hI];refine awT ?_;refine awN ?_;simp only [F13,seval];refine awX ?_;simp only [F13,seval,h12]
 have hI12:¬(12:Int)<(g.agrs.length:Int):=by omega
 by_cases hq:cU (qOf g.cash)<0
 ·repeat' first|apply awS|apply awB
  refine awR [] [0,0,0,0,0,34,34,34,34,0,0] ?_;simp only [F13,seval,hI24,hI12];refine awF ?_;refine awN ?_;simp only [F13,seval];refine ⟨_,hS0,rfl,?_⟩;simp only [ak,F13,seval,hq];refine awT ?_;refine awN ?_;simp only [F13,seval];refine awX ?_;simp only [F13,seval,h24,h12,or_self]
 refine awR [] [0,0,0,0,0,34,34,34,34,0,0] ?_;simp only [F13,seval,hI24,hI12];refine awF ?_;refine awN ?_;simp only [F13,seval];refine ⟨_,hS0,rfl,?_⟩;simp only [ak,F13,seval,hq];refine awF ?_;refine awK ?_;simp only [F13,seval];refine awN ?_;simp only [F13,seval];refine aQ [1,28,29,30] [1] ?_;simp only [F13,seval];refine lY (M:=fun st=>bq g.claims=0/\∃nx,st=⟨mkT [(1,.val (.one (.ptr 1 0 0)))],mkH [(1,⟨0,36,5,1,aJ g⟩)],nx,0⟩) ?_ ?_
 ·repeat' first|apply awS|apply awB
  refine aM (fun n st=>∃k nx,k<=g.claims.length/\n=g.claims.length-k/\bq (g.claims.drop k)=bq g.claims/\st=⟨mkT [(1,.val (.one (.ptr 1 0 0))),(28,.val (.one (.sh 5 g.claims.length (aA b0 g.claims)))),(29,one (.int .i64 g.claims.length)),(30,one (.int .i64 k))],mkH [(1,⟨0,36,5,1,aJ g⟩)],nx,0⟩) g.claims.length ⟨0,_,by omega,by omega,rfl,rfl⟩ ?_;rintro n st ⟨k,nx,hk,rfl,hL,rfl⟩;generalize hcc:g.claims=cl at *
  by_cases hlt:k<cl.length
  ·have hI:(k:Int)<(cl.length:Int):=by omega
   have hat:=aO cK cl k hlt;rw [List.drop_eq_getElem_cons hlt] at hL;have hS:=yZ cl[k].amount (hcl _ (List.getElem_mem hlt)).1 (hcl _ (List.getElem_mem hlt)).2;generalize cl[k]=c at *
   simp only [bq] at hL;by_cases p1:c.holder< -1
   ·repeat' first|apply awS|apply awB
    refine awN ?_;simp only [F13,seval,hI];refine awT ?_;refine awK ?_;simp only [F13,seval];refine awN ?_;simp only [F13,seval,hat,b0];repeat refine ob ?_
    refine awR [] [0,0,0,0,78,78,78,0,0] ?_;simp only [F13,seval,p1];refine awT ?_;refine awN ?_;simp only [F13,seval];have hR:bq cl=19:=by rw [←hL];simp [p1]
    refine awX ?_;simp only [F13,seval,h24,h12,or_self,hR,Int.reduceEq]
   by_cases p2:8<=c.holder
   ·repeat' first|apply awS|apply awB
    refine awN ?_;simp only [F13,seval,hI];refine awT ?_;refine awK ?_;simp only [F13,seval];refine awN ?_;simp only [F13,seval,hat,b0];repeat refine ob ?_
    refine awR [] [0,0,0,0,78,78,78,0,0] ?_;simp only [F13,seval,p1,p2];refine awT ?_;refine awN ?_;simp only [F13,seval];have hR:bq cl=19:=by rw [←hL];simp [p2]
    refine awX ?_;simp only [F13,seval,h24,h12,or_self,hR,Int.reduceEq]
   by_cases p3:c.rank<0
   ·repeat' first|apply awS|apply awB
    refine awN ?_;simp only [F13,seval,hI];refine awT ?_;refine awK ?_;simp only [F13,seval];refine awN ?_;simp only [F13,seval,hat,b0];repeat refine ob ?_
    refine awR [] [0,0,0,0,78,78,78,0,0] ?_;simp only [F13,seval,p1,p2];refine awF ?_;refine awR [] [0,0,0,0,96,96,96,0,0] ?_;simp only [F13,seval,p3];refine awT ?_;refine awN ?_;simp only [F13,seval];have hR:bq cl=1:=by rw [←hL];simp [p1,p2,p3]
    refine awX ?_;simp only [F13,seval,h24,h12,or_self,hR,Int.reduceEq]
   by_cases p4:7<c.rank
   ·repeat' first|apply awS|apply awB
    refine awN ?_;simp only [F13,seval,hI];refine awT ?_;refine awK ?_;simp only [F13,seval];refine awN ?_;simp only [F13,seval,hat,b0];repeat refine ob ?_
    refine awR [] [0,0,0,0,78,78,78,0,0] ?_;simp only [F13,seval,p1,p2];refine awF ?_;refine awR [] [0,0,0,0,96,96,96,0,0] ?_;simp only [F13,seval,p3,p4];refine awT ?_;refine awN ?_;simp only [F13,seval];have hR:bq cl=1:=by rw [←hL];simp [p1,p2,p4]
    refine awX ?_;simp only [F13,seval,h24,h12,or_self,hR,Int.reduceEq]
   by_cases hsg:cU (qOf c.amount)<0
   ·repeat' first|apply awS|apply awB
    refine awN ?_;simp only [F13,seval,hI];refine awT ?_;refine awK ?_;simp only [F13,seval];refine awN ?_;simp only [F13,seval,hat,b0];repeat refine ob ?_
    refine awR [] [0,0,0,0,78,78,78,0,0] ?_;simp only [F13,seval,p1,p2];refine awF ?_;refine awR [] [0,0,0,0,96,96,96,0,0] ?_;simp only [F13,seval,p3,p4];refine awF ?_;refine awN ?_;simp only [F13,seval];refine ⟨_,hS,rfl,?_⟩;simp only [ak,F13,seval,hsg];refine awT ?_;refine awN ?_;simp only [F13,seval];have hR:bq cl=7:=by rw [←hL];simp [p1,p2,p3,p4,hsg]
    refine awX ?_;simp only [F13,seval,h24,h12,or_self,hR,Int.reduceEq]
   repeat' first|apply awS|apply awB
   refine awN ?_;simp only [F13,seval,hI];refine awT ?_;refine awK ?_;simp only [F13,seval];refine awN ?_;simp only [F13,seval,hat,b0];repeat refine ob ?_
   refine awR [] [0,0,0,0,78,78,78,0,0] ?_;simp only [F13,seval,p1,p2];refine awF ?_;refine awR [] [0,0,0,0,96,96,96,0,0] ?_;simp only [F13,seval,p3,p4];refine awF ?_;refine awN ?_;simp only [F13,seval];refine ⟨_,hS,rfl,?_⟩;simp only [ak,F13,seval,hsg];refine awF ?_;refine awK ?_;simp only [F13,seval];refine awN ?_;simp only [F13,seval];repeat refine ob ?_
   refine ⟨_,aI [1,28,29,30] [1],cl.length-(k+1),by omega,k+1,nx+1,by omega,rfl,?_,?_⟩
   ·rw [←hL];simp [p1,p2,p3,p4,hsg]
   simp only [F13,seval];try rfl
  obtain rfl:k=cl.length:=by omega
  have hI:¬(cl.length:Int)<(cl.length:Int):=by omega
  rw [List.drop_length] at hL;simp only [bq] at hL;refine awN ?_;simp only [F13,seval,hI];refine awF ?_;refine awQ ?_;simp only [F13,seval];refine ⟨_,aI [1] [1],hL.symm,nx,?_⟩;simp only [F13,seval]
 rintro st ⟨hw0,nx,rfl⟩;simp only [h24,h12,or_self,if_false,hw0,ne_eq,not_true_eq_false];refine awN ?_;simp only [F13,seval,aJ];repeat refine ob ?_
 refine awN ?_;simp only [F13,seval];refine aQ [5,63,64,65] [61] ?_;simp only [F13,seval,EE];repeat' first|apply awS|apply awB
 refine aM (fun n st=>∃k nx s tk,k<=g.agrs.length/\n=g.agrs.length-k/\tk.length=g.claims.length/\f4 tk (g.agrs.drop k)=f4 (List.replicate g.claims.length false) g.agrs/\st=⟨mkT [(5,.val (.one (.own 61 s tk.length 1))),(63,.val (.one (.sh 1 g.agrs.length (aA bu g.agrs)))),(64,one (.int .i64 g.agrs.length)),(65,one (.int .i64 k))],mkH [(61,⟨s,4,1,tk.length,aA cB tk⟩)],nx,0⟩) g.agrs.length ⟨0,_,_,List.replicate g.claims.length false,by omega,by omega,by simp,rfl,by simp only [List.length_replicate];rfl⟩ ?_;rintro n st ⟨k,nx,s,tk,hk,rfl,htk,hL,rfl⟩;by_cases hlt:k<g.agrs.length
 ·have hI:(k:Int)<(g.agrs.length:Int):=by omega
  have hat:=aO gI g.agrs k hlt;rw [Nat.mul_one] at hat;rw [List.drop_eq_getElem_cons hlt] at hL;obtain ⟨ha1,ha2⟩:=hag g.agrs[k] (List.getElem_mem hlt);generalize g.agrs[k]=a at *
  have hCA:=mP a tk ha1 (by omega) ha2;simp only [f4] at hL;by_cases he:eP a tk=0
  ·obtain ⟨b1,b2,b3⟩:=mQ he;have hM:=rN a (by omega) (by omega);have hml:=xI a;rw [if_neg (by simp [he])] at hL;refine awN ?_;simp only [F13,seval,hI];refine awT ?_;refine awK ?_;simp only [F13,seval];refine awN ?_;simp only [F13,seval,hat,bu];repeat refine ob ?_
   refine awN ?_;simp only [F13,seval,ab bF,ab y7];refine ⟨_,hCA,rfl,?_⟩;simp only [ak,F13,seval,he];refine awN ?_;simp only [F13,seval];refine awF ?_;refine awK ?_;simp only [F13,seval];refine awN ?_;simp only [F13,seval,ab bF];refine ⟨_,hM,by simp [al,ax,ab bg],?_⟩;simp only [ak,F13,seval];refine aQ [5,63,64,65,76,77,78] [61] ?_;simp only [F13,seval];repeat' first|apply awS|apply awB
   refine aM (fun n st=>∃j nx tk2,j<=(mem a).length/\n=(mem a).length-j/\tk2.length=g.claims.length/\lZ tk2 ((mem a).drop j)=lZ tk (mem a)/\st=⟨mkT [(5,.val (.one (.own 61 s tk2.length 1))),(63,.val (.one (.sh 1 g.agrs.length (aA bu g.agrs)))),(64,one (.int .i64 g.agrs.length)),(65,one (.int .i64 k)),(76,.val (.one (.sh 1 (mem a).length (aA cI (mem a))))),(77,one (.int .i64 (mem a).length)),(78,one (.int .i64 j))],mkH [(61,⟨s,4,1,tk2.length,aA cB tk2⟩)],nx,0⟩) (mem a).length ⟨0,_,tk,by omega,by omega,htk,rfl,rfl⟩ ?_;rintro n2 st ⟨j,nx2,tk2,hj,rfl,htk2,hm,rfl⟩;have hlen:=bo CS tk2;rw [Nat.mul_one] at hlen;by_cases hjt:j<(mem a).length
   ·have hJ:(j:Int)<((mem a).length:Int):=by omega
    have hat2:=aO mO (mem a) j hjt;rw [Nat.mul_one] at hat2;rw [List.drop_eq_getElem_cons hjt] at hm;have hb:=b3 _ (List.getElem_mem hjt);generalize (mem a)[j]=i at *
    have hset:=Gv tk2 i.toNat (by omega);refine awN ?_;simp only [F13,seval,hJ];refine awT ?_;refine awK ?_;simp only [F13,seval];refine awN ?_;simp only [F13,seval,hat2,cI];repeat refine ob ?_
    refine awN ?_;simp only [F13,seval,hset,hlen];repeat refine ob ?_
    refine awN ?_;simp only [F13,seval];repeat refine ob ?_
    refine ⟨_,aI [5,63,64,65,76,77,78] [61],(mem a).length-(j+1),by omega,j+1,nx2,tk2.set i.toNat true,by omega,rfl,by simpa using htk2,hm,?_⟩;simp only [F13,seval,List.length_set];try rfl
   obtain rfl:j=(mem a).length:=by omega
   have hJ:¬((mem a).length:Int)<((mem a).length:Int):=by omega
   rw [List.drop_length] at hm;simp only [lZ] at hm;refine awN ?_;simp only [F13,seval,hJ];refine awF ?_;refine awQ ?_;simp only [F13,seval];refine awN ?_;simp only [F13,seval];repeat refine ob ?_
   refine ⟨_,aI [5,63,64,65] [61],g.agrs.length-(k+1),by omega,k+1,nx2,s,tk2,by omega,rfl,htk2,?_,?_⟩
   ·rw [hm];exact hL
   simp only [F13,seval];try rfl
  rw [if_pos he] at hL;refine awN ?_;simp only [F13,seval,hI];refine awT ?_;refine awK ?_;simp only [F13,seval];refine awN ?_;simp only [F13,seval,hat,bu];repeat refine ob ?_
  refine awN ?_;simp only [F13,seval,ab bF,ab y7];refine ⟨_,hCA,rfl,?_⟩;simp only [ak,F13,seval];refine awN ?_;simp only [F13,seval,he];refine awT ?_;refine awN ?_;simp only [F13,seval];refine awX ?_;simp only [F13,seval,hL]
 obtain rfl:k=g.agrs.length:=by omega
 have hI:¬(g.agrs.length:Int)<(g.agrs.length:Int):=by omega
 rw [List.drop_length] at hL;simp only [f4] at hL;refine awN ?_;simp only [F13,seval,hI];refine awF ?_;refine awQ ?_;simp only [F13,seval];refine awN ?_;simp only [F13,seval];refine awX ?_;simp only [F13,seval,←hL]
end Go.Proofs.YtokmkopihhnggaaGreatDoor
namespace Go.Proofs.YtokmkopihhnggaaGreatDoor
open Go.RowKit Go.ChangeShapes Go.WideShapes Go.ChangeAt Go.Proofs.Tryz
theorem qT {H:Type} {enc:TypeId×Value->H} {P:Program} (hl:laidOutB P=true) {W W':World} (hb:Below W.heap.size W W'):
  ∀(ts:List TypeId) (vs:List Value) (ds:List (DataW H)) (ps:List MemPlace),(∀t∈ts,P.readableRec t=true/\t<P.types.size)->(∀p∈ps,p.block<W.heap.size)->
   DataW.TrodAll enc P W 0 (fun _=>true) true ts vs ds ps->DataW.TrodAll enc P W' 0 (fun b=>decide (b<W.heap.size)) true ts vs ds ps:=by
 intro ts;induction ts with
 |nil=>
  intro vs ds ps _ _ h;obtain ⟨rfl,rfl,rfl⟩:=trodAll_nil h;exact trodAll_mk0
 |cons t ts ih=>
  intro vs ds ps hts hps h;obtain ⟨v,vs',d,ds',p,q,rfl,rfl,rfl,h0,h1⟩:=trodAll_cons h;have ht:=hts t (by simp);refine trodAll_cons_mk ?_ (ih _ _ _ (fun t' ht'=>hts t' (by simp [ht'])) (fun x hx=>hps x (by simp [hx])) h1);exact Below.trod hl ht.1 ht.2 h0 hb (fun x hx=>hps x (by simp [hx]))
theorem CT {H:Type} {enc:TypeId×Value->H} {P:Program} {fn:Func} {s:ChangeSpec} {W W':World} {args:Array Value} {ds:List (DataW H)} {before:List MemPlace} {bt:TypeId}
  (hl:laidOutB P=true) (hts:fn.params.toList.all (fun t=>P.readableRec t&&decide (t<P.types.size))=true) (hvars:s.vars=[])
  (hW:DataW.Whole enc P fn.params.toList s.vars false W args.toList ds [] before)
  (hres:(s.fn H (ds++[])).results=[.lit (.bool true)]) (hargs:(s.fn H (ds++[])).args=ds) (hrv:(s.fn H (ds++[])).vars=[])
  (hrt:fn.resultTypes= #[bt]) (hbt:P.underlying bt=some .bool) (hb:Below W.heap.size W W'):s.post enc P fn false true false false W args (.bool true) W':=by
 have hW0:=hW;obtain ⟨p,q,hA,hV,rfl,_,_⟩:=hW;rw [hvars] at hV;obtain ⟨_,hq⟩:=trodVars_none hV;have hlt:=hW0.lt;refine ⟨ds,[],p++q,[],p,[],hW0,?_,?_,?_,?_,fun h=>by cases h⟩
 ·rw [hres,hrt];exact trodAll_mk1 (shut_bool hbt true)
 ·rw [hargs];exact qT hl hb _ _ _ _ (fun t ht=>by have:=List.all_eq_true.1 hts t ht;simpa using this) (fun x hx=>hlt x (by simp [hx])) hA
 ·rw [hrv,hvars];rfl
 exact hb.frame _
def eI (P:Program) (t:TypeId) {α:Type} (R:fo α):Prop:=
 ∀(H:Type) (enc:TypeId×Value->H) (W:World) (fuel:Nat) (cs:List Value) (x:DataW H×List MemPlace),DataW.trod enc P W 0 (fun _=>true) true fuel t cs=some x->∃a,R W (LT W.heap.size) cs a
theorem vn {P:Program} {t e:TypeId} {α:Type} {R:fo α} {sz:Nat} (ht:P.underlying t=some (.slice e)) (hc:P.cellsOf e=sz) (hsz:0<sz) (he:eI P e R):eI P t (aH sz R):=by
 intro H enc W fuel cs x h;rcases Deep.open_slice ht h with ⟨rfl,_⟩|⟨a,len,cap,m,n,D,Pl,rfl,hb,hl,hm,hmm,_,hx⟩
 ·exact ⟨[],none,0,rfl,by simp,by unfold maxLen;omega,fun _=>rfl,.inl rfl⟩
 rw [if_pos rfl] at hmm;subst hmm;rw [hc] at hx;have hel:∀i,i<len->∃cs,cs.length=sz/\(∀c,c<sz->W.cell? ((a.add (i*sz)).add c)=cs[c]?)/\∃y,R W (LT W.heap.size) cs y:=by
  intro i hi;obtain ⟨cs',h1,h2⟩:=hx i (by omega);obtain ⟨_,h3,h4⟩:=World.cells?_some h1;exact ⟨cs',h3,h4,he H enc W n cs' _ h2⟩
 rcases Nat.eq_zero_or_pos len with hlen|hlen
 ·subst hlen;exact ⟨[],some a,_,rfl,by simp,hm,by simp,.inl rfl⟩
 obtain ⟨cs0,e1,e2,_⟩:=hel 0 hlen;have e3:=e2 0 hsz;rw [List.getElem?_eq_getElem (by omega)] at e3;simp only [Nat.zero_mul,Addr.add,if_pos] at e3;have hspot:a.spot=none:=by
  unfold World.cell? at e3;cases hsp:a.spot with
  |none=>rfl
  |some s=>rw [hsp] at e3;split at e3<;>simp at e3
 have hblk:=World.block_lt_of_cell? _ _ e3;obtain ⟨b,off,sp⟩:=a;simp only at hspot hblk;subst hspot;have hadd:∀i c,((⟨b,off,none⟩:Addr).add (i*sz)).add c=⟨b,off+i*sz+c,none⟩:=by
  intro i c;unfold Addr.add;by_cases hi:i*sz=0<;>by_cases hcc:c=0<;>simp [hi,hcc]
 let f:Fin len->α:=fun i=>(hel i.1 i.2).choose_spec.2.2.choose
 refine ⟨List.ofFn f,some ⟨b,off,none⟩,_,by simp,by simpa using hl,hm,by simp,.inr ⟨b,off,rfl,hblk,fun j hj=>?_⟩⟩;have hj':j<len:=by simpa using hj
 have h5:=(hel j hj').choose_spec;refine ⟨_,h5.1,fun c hc=>by rw [←hadd];exact h5.2.1 c hc,?_⟩;have h6:=h5.2.2.choose_spec;simpa [f] using h6
theorem LL {P:Program} {t:TypeId} (ht:P.underlying t=some (.int .u16)):eI P t NR:=by
 intro H enc W fuel cs x h;obtain ⟨n,rfl,_,hw⟩:=DataW.trod_int ht h;have:0<=n/\n<=65535:=by simpa [Lit.wf,IntKind.min,IntKind.max,IntKind.signed,IntKind.bits] using hw
 exact ⟨n.toNat,by rw [show ((n.toNat:Nat):Int)=n by omega],by omega⟩
theorem Om {P:Program} {t e:TypeId} {α:Type} {R:fo α} {H:Type} {enc:TypeId×Value->H} {W:World} {v:Value} {d:DataW H} {p:List MemPlace} {base:Nat} {rc:Reach}
  (ht:P.underlying t=some (.slice e)) (hok:Value.okWide P W rc base t v) (ho:eI P t R) (h:DataW.Trod enc P W 0 (fun _=>true) true t v d p):∃l,R W (LT W.heap.size) [v] l:=by
 obtain ⟨a,len,cap,rfl⟩:=okWide_slice ht hok;obtain ⟨fuel,h⟩:=h;exact ho H enc W fuel _ _ h
theorem xl {P:Program} {t:TypeId} {k:IntKind} {α:Type} {R:fo α} {H:Type} {enc:TypeId×Value->H} {W:World} {v:Value} {d:DataW H} {p:List MemPlace} {base:Nat} {rc:Reach}
  (ht:P.underlying t=some (.int k)) (hok:Value.okWide P W rc base t v) (ho:eI P t R) (h:DataW.Trod enc P W 0 (fun _=>true) true t v d p):∃l,R W (LT W.heap.size) [v] l:=by
 obtain ⟨n,rfl⟩:=okWide_int ht hok;obtain ⟨fuel,h⟩:=h;exact ho H enc W fuel _ _ h

end Go.Proofs.YtokmkopihhnggaaGreatDoor
namespace Go.Proofs.YtokmkopihhnggaaGreatDoor
open Go.RowKit Go.ChangeShapes Go.WideShapes Go.ChangeAt Go Go.Proofs.Tryz
def rC {α:Type} (enc:α->List C) (ok:α->Prop):fo α:=fun W T cs a=>denVs (kIn W T W) cs (enc a)/\ok a
def cSl {α:Type} (sz:Nat) (enc:α->List C) (l:List α):List C:=[.sh sz l.length (aA enc l)]
def qU {α:Type} (ok:α->Prop) (l:List α):Prop:=l.length<=maxLen/\∀a∈l,ok a
theorem nK {κ:Kx} {b:Nat}:∀{xs ys:List C} {off:Nat},denM κ b off xs->denM κ b (off+xs.length) ys->denM κ b off (xs++ys)
 |[],ys,off,_,h=>by simpa using h
 |x::xs,ys,off,h,k=>by
  simp only [denM,List.cons_append] at h ⊢;refine ⟨h.1,nK h.2 ?_⟩;rw [List.length_cons] at k;rwa [Nat.add_assoc,Nat.add_comm 1]
theorem rQ {α:Type} {enc:α->List C} {sz:Nat} (hlen:∀a,(enc a).length=sz) {κ:Kx} {b:Nat}:
  ∀(l:List α) (off:Nat),(∀j (h:j<l.length),∃cs,cs.length=sz/\(∀c,c<sz->κ.w.cell? ⟨b,off+j*sz+c,none⟩=cs[c]?)/\denVs κ cs (enc l[j]))->denM κ b off (aA enc l)
 |[],_,_=>by simp [aA,denM]
 |a::l,off,h=>by
  rw [cf];refine nK ?_ ?_
  ·obtain ⟨cs,h1,h2,h3⟩:=h 0 (by simp);refine denM.of_vals h3 fun j u hj=>?_
   have hlt:j<sz:=by rw [←h1];exact (List.getElem?_eq_some_iff.1 hj).1
   have:=h2 j hlt;rw [←hj,←this];simp
  rw [hlen];refine rQ hlen l (off+sz) fun j hj=>?_
  obtain ⟨cs,h1,h2,h3⟩:=h (j+1) (by simpa using hj);refine ⟨cs,h1,fun c hc=>?_,by simpa using h3⟩;rw [←h2 c hc];congr 2;rw [Nat.succ_mul];omega
theorem JL {P:Program} {t e:TypeId} {α:Type} {enc:α->List C} {ok:α->Prop} {sz:Nat} (ht:P.underlying t=some (.slice e)) (hc:P.cellsOf e=sz) (hsz:0<sz) (hlen:∀a,(enc a).length=sz)
  (he:eI P e (rC enc ok)):eI P t (rC (cSl sz enc) (qU ok)):=by
 intro H nc W fuel cs x h;obtain ⟨l,a,cap,rfl,h1,h2,h3,h4⟩:=vn ht hc hsz he H nc W fuel cs x h;have hl:l.length<=maxLen:=Nat.le_trans h1 h2;rcases h4 with rfl|⟨b,off,rfl,hb,hall⟩
 ·exact ⟨[],⟨⟨a,cap,rfl,h1,h2,h3,by simp [aA],.inl rfl⟩,trivial⟩,hl,fun _ h=>by cases h⟩
 refine ⟨l,⟨⟨_,cap,rfl,h1,h2,h3,bo hlen l,.inr ⟨b,off,rfl,oJ hb,rQ hlen l off fun j hj=>?_⟩⟩,trivial⟩,hl,fun y hy=>?_⟩
 ·obtain ⟨cs,k1,k2,k3⟩:=hall j hj;exact ⟨cs,k1,k2,k3.1⟩
 obtain ⟨j,hj,rfl⟩:=List.getElem_of_mem hy;obtain ⟨cs,k1,k2,k3⟩:=hall j hj;exact k3.2
end Go.Proofs.YtokmkopihhnggaaGreatDoor
namespace Go.Proofs.YtokmkopihhnggaaGreatDoor
open Go Go.RowKit Go.Proofs.Tryz

def mbT (c:Int):List GPart->Bool
 |[]=>false
 |p::l=>decide (p.claim=c)||mbT c l
def mbA (c:Int):bR->Bool
 |[]=>false
 |t::a=>mbT c t||mbA c a
def mbE (c:Int):List bR->Bool
 |[]=>false
 |a::l=>mbA c a||mbE c l
end Go.Proofs.YtokmkopihhnggaaGreatDoor
