/- guarantee.Check; walked by the abstract machine. -/
import Derived.Test.YtcgpghifhehlhaaGreatDoorGc1M
set_option linter.unusedVariables false
set_option maxHeartbeats 8000000
set_option linter.unusedSimpArgs false
set_option linter.defProp false
namespace Go.Proofs.YtcgpghifhehlhaaGreatDoor
open Go Go.RowKit Go.Proofs.Tryz
noncomputable def Jw:List GEst->Int
 |[]=>0
 |e::l=>if jb e≠0 then jb e else Jw l
def d6 (n i:Int):List GClaim->Bool
 |[]=>false
 |c::l=>decide (c.holder=i)||decide (n<=c.holder)||d6 n i l
def cM (n:Int) (i:Int):List GEst->Bool
 |[]=>false
 |e::l=>d6 n i e.claims||cM n (i+1) l
noncomputable def fO (g:GGrp):List GDebt->List Leg->Int
 |[],_=>0
 |d::l,T=>if (ew g d T).1≠0 then (ew g d T).1 else fO g l (ew g d T).2
noncomputable def nW (g:GGrp):Int:=if 8<g.ests.length∨16<g.debts.length then 2 else if Jw g.ests≠0 then Jw g.ests
 else if cM g.ests.length 0 g.ests=true then 19 else fO g g.debts []
def xW (g:GGrp):Prop:=(∀e∈g.ests,vJ e)/\∀d∈g.debts,cO d.whole
def F18:=And.intro zS (And.intro Jy (And.intro nN (And.intro KF (And.intro pj (And.intro vd (And.intro u6 (And.intro u7 (And.intro pk (And.intro tv (And.intro qO (And.intro tx (And.intro zZ (And.intro tz (And.intro nK (And.intro zC (And.intro tC (And.intro xh (And.intro xd (And.intro po (And.intro z6 (z7)))))))))))))))))))))
theorem F19:type_of%F18:=F18
theorem Lm (g:GGrp) (hg:xW g):ch prog 14 [.agg (au g)] (one (.int .i64 (nW g))):=by
 obtain ⟨hge,hgd⟩:=hg;unfold nW;refine bF func14 rfl (by decide) (N:=82) rfl (by simp) (R:=[.tmp 2]) rfl fun en k0=>?_
 refine awN ?_;simp only [F19,seval,au];by_cases h8:8<g.ests.length
 ·have hI:(8:Int)<(g.ests.length:Int):=by omega
  refine awR [] [0,0,0,0,0,38,38,38,38,0] ?_;simp only [F19,seval,hI];refine awT ?_;refine awN ?_;simp only [F19,seval];refine awX ?_;simp only [F19,seval,h8]
 have hI8:¬(8:Int)<(g.ests.length:Int):=by omega
 by_cases h16:16<g.debts.length
 ·have hI:(16:Int)<(g.debts.length:Int):=by omega
  refine awR [] [0,0,0,0,0,38,38,38,38,0] ?_;simp only [F19,seval,hI8,hI];refine awT ?_;refine awN ?_;simp only [F19,seval];refine awX ?_;simp only [F19,seval,h16]
 have hI16:¬(16:Int)<(g.debts.length:Int):=by omega
 refine awR [] [0,0,0,0,0,38,38,38,38,0] ?_;simp only [F19,seval,hI8,hI16];refine awF ?_;refine awK ?_;simp only [F19,seval];refine awN ?_;simp only [F19,seval];refine aQ [1,25,26,27] [1] ?_;simp only [F19,seval];refine eY (M:=fun st=>Jw g.ests=0/\∃nx,st=⟨mkT [(1,.val (.one (.ptr 1 0 0)))],mkH [(1,⟨0,28,2,1,au g⟩)],nx,0⟩) ?_ ?_
 ·repeat' first|apply awS|apply awB
  refine aB (fun n st=>∃k nx,k<=g.ests.length/\n=g.ests.length-k/\Jw (g.ests.drop k)=Jw g.ests/\st=⟨mkT [(1,.val (.one (.ptr 1 0 0))),(25,.val (.one (.sh 5 g.ests.length (ar bh g.ests)))),(26,one (.int .i64 g.ests.length)),(27,one (.int .i64 k))],mkH [(1,⟨0,28,2,1,au g⟩)],nx,0⟩) g.ests.length ⟨0,_,by omega,by omega,rfl,rfl⟩ ?_;rintro n st ⟨k,nx,hk,rfl,hL,rfl⟩;by_cases hlt:k<g.ests.length
  ·have hI:(k:Int)<(g.ests.length:Int):=by omega
   have hat:=aO de g.ests k hlt;rw [List.drop_eq_getElem_cons hlt] at hL;have hW:=vK g.ests[k] (hge _ (List.getElem_mem hlt));generalize g.ests[k]=e at *
   simp only [Jw] at hL;by_cases he:jb e=0
   ·repeat' first|apply awS|apply awB
    refine awN ?_;simp only [F19,seval,hI];refine awT ?_;refine awK ?_;simp only [F19,seval];refine awN ?_;simp only [F19,seval,hat,bh];repeat refine ob ?_
    refine awN ?_;simp only [F19,seval,ab bA,ab bg];refine ⟨_,hW,rfl,?_⟩;simp only [aq,F19,seval,he];refine awN ?_;simp only [F19,seval];refine awF ?_;refine awK ?_;simp only [F19,seval];refine awN ?_;simp only [F19,seval];repeat refine ob ?_
    refine ⟨_,aH [1,25,26,27] [1],g.ests.length-(k+1),by omega,k+1,nx+1,by omega,rfl,?_,?_⟩
    ·rw [if_neg (by simp [he])] at hL;exact hL
    simp only [F19,seval];try rfl
   repeat' first|apply awS|apply awB
   refine awN ?_;simp only [F19,seval,hI];refine awT ?_;refine awK ?_;simp only [F19,seval];refine awN ?_;simp only [F19,seval,hat,bh];repeat refine ob ?_
   refine awN ?_;simp only [F19,seval,ab bA,ab bg];refine ⟨_,hW,rfl,?_⟩;simp only [aq,F19,seval];refine awN ?_;simp only [F19,seval,he];refine awT ?_;refine awN ?_;simp only [F19,seval];rw [if_pos he] at hL;refine awX ?_;simp only [F19,seval,h8,h16,or_self,←hL,he]
  obtain rfl:k=g.ests.length:=by omega
  have hI:¬(g.ests.length:Int)<(g.ests.length:Int):=by omega
  rw [List.drop_length] at hL;simp only [Jw] at hL;refine awN ?_;simp only [F19,seval,hI];refine awF ?_;refine awQ ?_;simp only [F19,seval];refine ⟨_,aH [1] [1],hL.symm,nx,?_⟩;simp only [F19,seval]
 rintro st ⟨hw0,nx,rfl⟩;simp only [h8,h16,or_self,if_false,hw0,ne_eq,not_true_eq_false];refine awN ?_;simp only [F19,seval,au];refine aQ [1,38,39,40] [1] ?_;simp only [F19,seval];refine eY (M:=fun st=>cM g.ests.length 0 g.ests=false/\∃nx,st=⟨mkT [(1,.val (.one (.ptr 1 0 0)))],mkH [(1,⟨0,28,2,1,au g⟩)],nx,0⟩) ?_ ?_
 ·repeat' first|apply awS|apply awB
  refine aB (fun n st=>∃k nx,k<=g.ests.length/\n=g.ests.length-k/\cM g.ests.length k (g.ests.drop k)=cM g.ests.length 0 g.ests/\st=⟨mkT [(1,.val (.one (.ptr 1 0 0))),(38,.val (.one (.sh 5 g.ests.length (ar bh g.ests)))),(39,one (.int .i64 g.ests.length)),(40,one (.int .i64 k))],mkH [(1,⟨0,28,2,1,au g⟩)],nx,0⟩) g.ests.length ⟨0,_,by omega,by omega,rfl,rfl⟩ ?_;rintro n st ⟨k,nx,hk,rfl,hL,rfl⟩;by_cases hlt:k<g.ests.length
  ·have hI:(k:Int)<(g.ests.length:Int):=by omega
   have hat:=aO de g.ests k hlt;rw [List.drop_eq_getElem_cons hlt] at hL;have hcn:=(hge _ (List.getElem_mem hlt)).2.2.1;generalize g.ests[k]=e at *
   simp only [cM] at hL;refine awN ?_;simp only [F19,seval,hI];refine awT ?_;refine awK ?_;simp only [F19,seval];refine awN ?_;simp only [F19,seval,hat,bh];repeat refine ob ?_
   refine awN ?_;simp only [F19,seval];refine aQ [1,6,38,39,40,46,47,48] [1] ?_;simp only [F19,seval];repeat' first|apply awS|apply awB
   refine aB (fun n st=>∃j nx,j<=e.claims.length/\n=e.claims.length-j/\d6 g.ests.length k (e.claims.drop j)=d6 g.ests.length k e.claims/\st=⟨mkT [(1,.val (.one (.ptr 1 0 0))),(6,one (.int .i64 k)),(38,.val (.one (.sh 5 g.ests.length (ar bh g.ests)))),(39,one (.int .i64 g.ests.length)),(40,one (.int .i64 k)),(46,.val (.one (.sh 5 e.claims.length (ar aA e.claims)))),(47,one (.int .i64 e.claims.length)),(48,one (.int .i64 j))],mkH [(1,⟨0,28,2,1,au g⟩)],nx,0⟩) e.claims.length ⟨0,_,by omega,by omega,rfl,rfl⟩ ?_;rintro n2 st ⟨j,nx2,hj,rfl,hM,rfl⟩;generalize hecl:e.claims=cl at *
   by_cases hjt:j<cl.length
   ·have hJ:(j:Int)<(cl.length:Int):=by omega
    have hat2:=aO bX cl j hjt;rw [List.drop_eq_getElem_cons hjt] at hM;generalize cl[j]=c at *
    simp only [d6] at hM;by_cases p1:c.holder=(k:Int)
    ·have hh:cM g.ests.length 0 g.ests=true:=by rw [←hL,←hM];simp [p1]
     refine awN ?_;simp only [F19,seval,hJ];refine awT ?_;refine awK ?_;simp only [F19,seval];refine awN ?_;simp only [F19,seval,hat2,aA];repeat refine ob ?_
     refine awR [] [0,0,0,0,0,114,114,114,114,114,114,0] ?_;simp only [F19,seval,p1,au];refine awT ?_;refine awN ?_;simp only [F19,seval];refine awX ?_;simp only [F19,seval,hh]
    by_cases p2:(g.ests.length:Int)<=c.holder
    ·have hh:cM g.ests.length 0 g.ests=true:=by rw [←hL,←hM];simp [p2]
     refine awN ?_;simp only [F19,seval,hJ];refine awT ?_;refine awK ?_;simp only [F19,seval];refine awN ?_;simp only [F19,seval,hat2,aA];repeat refine ob ?_
     refine awR [] [0,0,0,0,0,114,114,114,114,114,114,0] ?_;simp only [F19,seval,p1,p2,au];refine awT ?_;refine awN ?_;simp only [F19,seval];refine awX ?_;simp only [F19,seval,hh]
    refine awN ?_;simp only [F19,seval,hJ];refine awT ?_;refine awK ?_;simp only [F19,seval];refine awN ?_;simp only [F19,seval,hat2,aA];repeat refine ob ?_
    refine awR [] [0,0,0,0,0,114,114,114,114,114,114,0] ?_;simp only [F19,seval,p1,p2,au];refine awF ?_;refine awK ?_;simp only [F19,seval];refine awN ?_;simp only [F19,seval];repeat refine ob ?_
    refine ⟨_,aH [1,6,38,39,40,46,47,48] [1],cl.length-(j+1),by omega,j+1,nx2+1,by omega,rfl,?_,?_⟩
    ·rw [←hM];simp [p1,p2]
    simp only [F19,seval];try rfl
   obtain rfl:j=cl.length:=by omega
   have hJ:¬(cl.length:Int)<(cl.length:Int):=by omega
   rw [List.drop_length] at hM;simp only [d6] at hM;refine awN ?_;simp only [F19,seval,hJ];refine awF ?_;refine awQ ?_;simp only [F19,seval];refine awN ?_;simp only [F19,seval];repeat refine ob ?_
   refine ⟨_,aH [1,38,39,40] [1],g.ests.length-(k+1),by omega,k+1,nx2,by omega,rfl,?_,?_⟩
   ·rw [←hM] at hL;simpa using hL
   simp only [F19,seval];try rfl
  obtain rfl:k=g.ests.length:=by omega
  have hI:¬(g.ests.length:Int)<(g.ests.length:Int):=by omega
  rw [List.drop_length] at hL;simp only [cM] at hL;refine awN ?_;simp only [F19,seval,hI];refine awF ?_;refine awQ ?_;simp only [F19,seval];refine ⟨_,aH [1] [1],hL.symm,nx,?_⟩;simp only [F19,seval]
 rintro st ⟨hh0,nx,rfl⟩;simp only [hh0,Bool.false_eq_true,if_false];refine awN ?_;simp only [F19,seval];refine awN ?_;simp only [F19,seval,au];refine aQ [1,10,68,69,70] [1,66] ?_;simp only [F19,seval];repeat' first|apply awS|apply awB
 refine aB (fun n st=>∃k nx s T,k<=g.debts.length/\n=g.debts.length-k/\fO g (g.debts.drop k) T=fO g g.debts []/\st=⟨mkT [(1,.val (.one (.ptr 1 0 0))),(10,.val (.one (.own 66 s 0 0))),(68,.val (.one (.sh 4 g.debts.length (ar cn g.debts)))),(69,one (.int .i64 g.debts.length)),(70,one (.int .i64 k))],mkH [(1,⟨0,28,2,1,au g⟩),(66,lM s T)],nx,0⟩) g.debts.length ⟨0,_,_,[],by omega,by omega,rfl,rfl⟩ ?_;rintro n st ⟨k,nx,s,T,hk,rfl,hL,rfl⟩;by_cases hlt:k<g.debts.length
 ·have hI:(k:Int)<(g.debts.length:Int):=by omega
  have hat:=aO dT g.debts k hlt;rw [List.drop_eq_getElem_cons hlt] at hL;obtain ⟨hd1,hd2⟩:=hgd g.debts[k] (List.getElem_mem hlt);generalize g.debts[k]=d at *
  simp only [fO] at hL;refine awN ?_;simp only [F19,seval,hI];refine awT ?_;refine awK ?_;simp only [F19,seval];refine awN ?_;simp only [F19,seval,hat,cn];repeat refine ob ?_
  refine awR [77] [0,0,0,0,0] ?_;simp only [F19,seval,au];refine ⟨_,pF g d T _ _ s ?_ (by rfl) hd1 hd2,?_⟩
  ·intro x B hB;simp only [aj] at hB;split at hB
   ·omega
   split at hB
   ·omega
   split at hB
   ·omega
   cases hB
  rintro res H' nx' ⟨rfl,h66,hrest⟩;have hB1:=hrest 1 (by omega) (by omega);simp only [aj,F19,seval] at hB1;by_cases he:(ew g d T).1=0
  ·rw [if_neg (by simp [he])] at hL;simp only [F19,seval];refine awN ?_;simp only [F19,seval,he];refine awF ?_;refine awK ?_;simp only [F19,seval];refine awN ?_;simp only [F19,seval];repeat refine ob ?_
   refine ⟨_,aH [1,10,68,69,70] [1,66],g.debts.length-(k+1),by omega,k+1,nx',s,(ew g d T).2,by omega,rfl,hL,?_⟩;simp only [F19,seval,h66,hB1];try rfl
  rw [if_pos he] at hL;simp only [F19,seval];refine awN ?_;simp only [F19,seval,he];refine awT ?_;refine awN ?_;simp only [F19,seval];refine awX ?_;simp only [F19,seval,hL]
 obtain rfl:k=g.debts.length:=by omega
 have hI:¬(g.debts.length:Int)<(g.debts.length:Int):=by omega
 rw [List.drop_length] at hL;simp only [fO] at hL;refine awN ?_;simp only [F19,seval,hI];refine awF ?_;refine awQ ?_;simp only [F19,seval];refine awN ?_;simp only [F19,seval];refine awX ?_;simp only [F19,seval,←hL]
def mbT (c:Int):List GPart->Bool
 |[]=>false
 |p::l=>decide (p.claim=c)||mbT c l
def mbA (c:Int):cw->Bool
 |[]=>false
 |t::a=>mbT c t||mbA c a
def mbE (c:Int):List cw->Bool
 |[]=>false
 |a::l=>mbA c a||mbE c l
def F20:=And.intro zS (And.intro tf1 (And.intro tf6 (And.intro tf2 (And.intro tf0 (And.intro tf8 (And.intro tf9 (And.intro pi (And.intro tf3 (xd)))))))))
theorem F21:type_of%F20:=F20
theorem vL (a:cw) (c:Int) (hn:a.length<=1000000000000) (ht:∀t∈a,t.length<=1000000000000):ch prog 161 [.agg (aU a),.one (.lit (.int .i64 c))] (one (.bool (mbA c a))):=by
 refine bF func161 rfl (by decide) (N:=35) rfl (by simp) (R:=[.tmp 4]) rfl fun en k0=>?_
 refine awN ?_;simp only [F21,seval,aU];refine awN ?_;simp only [F21,seval];refine aQ [1,2,5] [2] ?_;simp only [F21,seval];repeat' first|apply awS|apply awB
 refine aB (fun n st=>∃k nx,k<=a.length/\n=a.length-k/\mbA c (a.drop k)=mbA c a/\st=⟨mkT [(1,one (.int .i64 c)),(2,.val (.one (.ptr 2 0 0))),(5,one (.int .i64 k))],mkH [(2,⟨0,50,1,1,aU a⟩)],nx,0⟩) a.length ⟨0,_,by omega,by omega,rfl,rfl⟩ ?_;rintro n st ⟨k,nx,hk,rfl,hL,rfl⟩;by_cases hlt:k<a.length
 ·have hI:(k:Int)<(a.length:Int):=by omega
  have hat:=aO eI a k hlt;rw [Nat.mul_one] at hat;rw [List.drop_eq_getElem_cons hlt] at hL;have htl:=ht _ (List.getElem_mem hlt);generalize a[k]=t at *
  simp only [mbA] at hL;refine awN ?_;simp only [F21,seval,hI,aU];refine awT ?_;refine awK ?_;simp only [F21,seval];refine awN ?_;simp only [F21,seval];refine aQ [1,2,5,6] [2] ?_;simp only [F21,seval];repeat' first|apply awS|apply awB
  refine aB (fun n st=>∃j nx,j<=t.length/\n=t.length-j/\mbT c (t.drop j)=mbT c t/\st=⟨mkT [(1,one (.int .i64 c)),(2,.val (.one (.ptr 2 0 0))),(5,one (.int .i64 k)),(6,one (.int .i64 j))],mkH [(2,⟨0,50,1,1,aU a⟩)],nx,0⟩) t.length ⟨0,_,by omega,by omega,rfl,rfl⟩ ?_;rintro n2 st ⟨j,nx2,hj,rfl,hM,rfl⟩;by_cases hjt:j<t.length
  ·have hJ:(j:Int)<(t.length:Int):=by omega
   have hat2:=aO gj t j hjt;rw [List.drop_eq_getElem_cons hjt] at hM;generalize t[j]=p at *
   simp only [mbT] at hM;by_cases hc:p.claim=c
   ·have hh:mbA c a=true:=by rw [←hL,←hM];simp [hc]
    refine awN ?_;simp only [F21,seval,hat,hJ,aU,bo];repeat refine ob ?_
    refine awT ?_;refine awK ?_;simp only [F21,seval];refine awN ?_;simp only [F21,seval,hat,hat2,bo,aT,hc];repeat refine ob ?_
    refine awT ?_;refine awN ?_;simp only [F21,seval];refine awX ?_;simp only [F21,seval,hh]
   skip;refine awN ?_;simp only [F21,seval,hat,hJ,aU,bo];repeat refine ob ?_
   refine awT ?_;refine awK ?_;simp only [F21,seval];refine awN ?_;simp only [F21,seval,hat,hat2,bo,aT,hc];repeat refine ob ?_
   refine awF ?_;refine awK ?_;simp only [F21,seval];refine awN ?_;simp only [F21,seval];repeat refine ob ?_
   refine ⟨_,aH [1,2,5,6] [2],t.length-(j+1),by omega,j+1,nx2,by omega,rfl,?_,?_⟩
   ·rw [←hM];simp [hc]
   simp only [F21,seval];try rfl
  obtain rfl:j=t.length:=by omega
  have hJ:¬(t.length:Int)<(t.length:Int):=by omega
  rw [List.drop_length] at hM;simp only [mbT] at hM;refine awN ?_;simp only [F21,seval,hat,hJ,aU,bo];repeat refine ob ?_
  refine awF ?_;refine awQ ?_;simp only [F21,seval];refine awN ?_;simp only [F21,seval];repeat refine ob ?_
  refine ⟨_,aH [1,2,5] [2],a.length-(k+1),by omega,k+1,nx2,by omega,rfl,?_,?_⟩
  ·rw [←hM] at hL;simpa using hL
  simp only [F21,seval];try rfl
 obtain rfl:k=a.length:=by omega
 have hI:¬(a.length:Int)<(a.length:Int):=by omega
 rw [List.drop_length] at hL;simp only [mbA] at hL;refine awN ?_;simp only [F21,seval,hI,aU];refine awF ?_;refine awQ ?_;simp only [F21,seval];refine awN ?_;simp only [F21,seval];refine awX ?_;simp only [F21,seval,←hL]
def F22:=And.intro zS (And.intro yE (And.intro zw (And.intro zA (And.intro zB (pn)))))
theorem F23:type_of%F22:=F22
theorem tL (g:GEst) (i:Nat) (c:Int) (hi:i<=g.agrs.length) (hi2:i<=1000000000000) (ha:∀a∈g.agrs,a.length<=1000000000000/\∀t∈a,t.length<=1000000000000):ch prog 121 [.agg (bh g),.one (.lit (.int .i64 i)),.one (.lit (.int .i64 c))] (one (.bool (mbE c (g.agrs.take i)))):=by
 refine bF func121 rfl (by decide) (N:=20) rfl (by simp) (R:=[.tmp 6]) rfl fun en k0=>?_
 refine awN ?_;simp only [F23,seval,bh];refine awN ?_;simp only [F23,seval];refine aQ [1,2,3,7] [3] ?_;simp only [F23,seval];repeat' first|apply awS|apply awB
 refine aB (fun n st=>∃k nx,k<=i/\n=i-k/\mbE c ((g.agrs.take i).drop k)=mbE c (g.agrs.take i)/\st=⟨mkT [(1,one (.int .i64 i)),(2,one (.int .i64 c)),(3,.val (.one (.ptr 3 0 0))),(7,one (.int .i64 k))],mkH [(3,⟨0,36,5,1,bh g⟩)],nx,0⟩) i ⟨0,_,by omega,by omega,rfl,rfl⟩ ?_;rintro n st ⟨k,nx,hk,rfl,hL,rfl⟩;by_cases hlt:k<i
 ·have hI:(k:Int)<(i:Int):=by omega
  have hlt2:k<g.agrs.length:=by omega
  have hlt3:k<(g.agrs.take i).length:=by simp;omega
  have hat:=aO dG g.agrs k hlt2;rw [Nat.mul_one] at hat;rw [List.drop_eq_getElem_cons hlt3,List.getElem_take] at hL;have hM:=vL g.agrs[k] c (ha _ (List.getElem_mem hlt2)).1 (ha _ (List.getElem_mem hlt2)).2;generalize g.agrs[k]=a at *
  simp only [mbE] at hL;cases hb:mbA c a
  ·rw [hb] at hM hL;refine awN ?_;simp only [F23,seval,hI];refine awT ?_;refine awK ?_;simp only [F23,seval];refine awN ?_;simp only [F23,seval,hat,bh,aU,ab cA];repeat refine ob ?_
   refine ⟨_,hM,rfl,?_⟩;simp only [aq,F23,seval];refine awF ?_;refine awK ?_;simp only [F23,seval];refine awN ?_;simp only [F23,seval];repeat refine ob ?_
   refine ⟨_,aH [1,2,3,7] [3],i-(k+1),by omega,k+1,nx,by omega,rfl,?_,?_⟩
   ·simpa using hL
   simp only [F23,seval];try rfl
  rw [hb] at hM hL;have hh:mbE c (g.agrs.take i)=true:=by rw [←hL];simp
  refine awN ?_;simp only [F23,seval,hI];refine awT ?_;refine awK ?_;simp only [F23,seval];refine awN ?_;simp only [F23,seval,hat,bh,aU,ab cA];repeat refine ob ?_
  refine ⟨_,hM,rfl,?_⟩;simp only [aq,F23,seval];refine awT ?_;refine awN ?_;simp only [F23,seval];refine awX ?_;simp only [F23,seval,hh]
 obtain rfl:k=i:=by omega
 have hI:¬(k:Int)<(k:Int):=by omega
 rw [List.drop_eq_nil_of_le (by simp;omega)] at hL;simp only [mbE] at hL;refine awN ?_;simp only [F23,seval,hI];refine awF ?_;refine awQ ?_;simp only [F23,seval];refine awN ?_;simp only [F23,seval];refine awX ?_;simp only [F23,seval,←hL]
theorem Ar (r:GRat) (h1:r.num.size<=500000000000) (h2:r.den.size<=500000000000):ch prog 41 [.agg (cS r)] (.val (.agg (cS (enc (qOf r))))):=
 eE (iv func41 (by decide) (by kernel_rfl)) [aN r] (aN (enc (qOf r))) fun w=>uS r w h1 h2
theorem xA (r:GRat):ch prog 42 [.agg (cS r)] (one (.int .i64 (gW r))):=
 eE (iv func42 (by decide) (by kernel_rfl)) [aN r] (.int .i64 (gW r)) fun w=>qD r w
noncomputable def agT (n:Int) (E:Int->Bool):List GPart->Int
 |[]=>0
 |p::l=>if p.claim< -1∨n<=p.claim then 1 else if p.claim= -1/\p.capped=false then 21 else if p.capped=true/\aL (qOf p.cap)<0 then 7
  else if p.claim≠ -1/\E p.claim=true then 20 else agT n E l
noncomputable def agA (n:Int) (E:Int->Bool):cw->Int
 |[]=>0
 |t::a=>if agT n E t≠0 then agT n E t else agA n E a
noncomputable def agS (n:Int) (E:Int->Bool) (a:cw):Int:=if 24<a.length then 2 else if a.any eB=true then 2 else agA n E a
def F24:=And.intro zS (jS)
theorem F25:type_of%F24:=F24
theorem KN (r:GRat) (h1:r.num.size<=500000000000) (h2:r.den.size<=500000000000):ch prog 77 [.agg (cS r)] (one (.int .i64 (aL (qOf r)))):=by
 have hF:=Ar r h1 h2;have hS:=xA (enc (qOf r));rw [lp] at hS;refine bF func77 rfl (by decide) (N:=6) rfl (by simp) (R:=[.tmp 2]) rfl fun en k0=>?_
 refine awN ?_;simp only [F25,seval,cS];refine awN ?_;simp only [F25,seval];refine ⟨_,hF,rfl,?_⟩;simp only [aq,F25,seval,cS];refine ⟨_,hS,rfl,?_⟩;refine awX ?_;simp only [F25,seval]
def F26:=And.intro zS (And.intro tf1 (And.intro yE (And.intro tf6 (And.intro tf2 (And.intro zw (And.intro pj (And.intro tf0 (And.intro tf8 (And.intro pk (And.intro zA (And.intro tf9 (And.intro tB (And.intro mf (And.intro pi (And.intro zB (And.intro tx (And.intro tf3 (And.intro pn (And.intro tC (And.intro tu (And.intro jS (And.intro xi (And.intro xd (And.intro nL (tf5)))))))))))))))))))))))))
theorem F27:type_of%F26:=F26
theorem pG (g:GEst) (i:Nat) (hi:i<g.agrs.length) (hi2:i<=1000000000000) (ha0:∀a∈g.agrs,a.length<=1000000000000/\∀t∈a,t.length<=1000000000000) (hag:(∀t∈g.agrs[i],t.length<=1000000000000)/\∀p∈g.agrs[i].flatten,cO p.cap):
  ch prog 78 [.agg (bh g),.one (.lit (.int .i64 i))] (one (.int .i64 (agS g.claims.length (fun c=>mbE c (g.agrs.take i)) g.agrs[i]))):=by
 have hEar:=fun c=>tL g i c (by omega) hi2 ha0
 obtain ⟨ht,hcp⟩:=hag;have hat0:=aO dG g.agrs i hi;rw [Nat.mul_one] at hat0;have hin:(i:Int)<(g.agrs.length:Int):=by omega
 generalize hE0:(fun c=>mbE c (g.agrs.take i))=E at *
 have hEar:∀c,ch prog 121 [.agg (bh g),.one (.lit (.int .i64 i)),.one (.lit (.int .i64 c))] (one (.bool (E c))):=fun c=>by rw [←hE0];exact hEar c
 generalize g.agrs[i]=a at *
 generalize hn:(g.claims.length:Int)=n at *
 refine bF func78 rfl (by decide) (N:=99) rfl (by simp) (R:=[.tmp 4]) rfl fun en k0=>?_
 refine awN ?_;simp only [F27,seval,bh];refine awN ?_;simp only [F27,seval,hat0,aU];repeat refine ob ?_
 unfold agS;by_cases h24:24<a.length
 ·have hI:(24:Int)<(a.length:Int):=by omega
  refine awN ?_;simp only [F27,seval,hI];refine awT ?_;refine awN ?_;simp only [F27,seval];refine awX ?_;simp only [F27,seval,h24]
 have hI24:¬(24:Int)<(a.length:Int):=by omega
 simp only [h24,if_false];refine awN ?_;simp only [F27,seval,hI24];refine awF ?_;refine awK ?_;simp only [F27,seval];refine awN ?_;simp only [F27,seval];refine aQ [1,2,5,6] [2,5] ?_;simp only [F27,seval];refine eY (M:=fun st=>a.any eB=false/\∃nx,st=⟨mkT [(1,one (.int .i64 i)),(2,.val (.one (.ptr 2 0 0))),(5,.val (.one (.ptr 5 1 0)))],mkH [(2,⟨0,36,5,1,bh g⟩),(5,⟨1,50,1,1,aU a⟩)],nx,0⟩) ?_ ?_
 ·repeat' first|apply awS|apply awB
  refine aB (fun n st=>∃k nx,k<=a.length/\n=a.length-k/\(a.drop k).any eB=a.any eB/\st=⟨mkT [(1,one (.int .i64 i)),(2,.val (.one (.ptr 2 0 0))),(5,.val (.one (.ptr 5 1 0))),(6,one (.int .i64 k))],mkH [(2,⟨0,36,5,1,bh g⟩),(5,⟨1,50,1,1,aU a⟩)],nx,0⟩) a.length ⟨0,_,by omega,by omega,rfl,rfl⟩ ?_;rintro n st ⟨k,nx,hk,rfl,hL,rfl⟩;by_cases hlt:k<a.length
  ·have hI:(k:Int)<(a.length:Int):=by omega
   have hat:=aO eI a k hlt;rw [Nat.mul_one] at hat;rw [List.drop_eq_getElem_cons hlt] at hL;have htl:=ht _ (List.getElem_mem hlt);generalize a[k]=t at *
   simp only [List.any_cons] at hL;cases hl:eB t
   ·have hJ:¬(24:Int)<(t.length:Int):=by have:=of_decide_eq_false hl;omega
    refine awN ?_;simp only [F27,seval,hI,aU];refine awT ?_;refine awK ?_;simp only [F27,seval];refine awN ?_;simp only [F27,seval,hat,hJ,bo];repeat refine ob ?_
    refine awF ?_;refine awK ?_;simp only [F27,seval];refine awN ?_;simp only [F27,seval];repeat refine ob ?_
    refine ⟨_,aH [1,2,5,6] [2,5],a.length-(k+1),by omega,k+1,nx,by omega,rfl,?_,?_⟩
    ·rw [←hL,hl];rfl
    simp only [F27,seval];try rfl
   have hJ:(24:Int)<(t.length:Int):=by have:=of_decide_eq_true hl;omega
   have hR:a.any eB=true:=by rw [←hL,hl];rfl
   refine awN ?_;simp only [F27,seval,hI,aU];refine awT ?_;refine awK ?_;simp only [F27,seval];refine awN ?_;simp only [F27,seval,hat,hJ,bo];repeat refine ob ?_
   refine awT ?_;refine awN ?_;simp only [F27,seval];refine awX ?_;simp only [F27,seval,hR]
  obtain rfl:k=a.length:=by omega
  have hI:¬(a.length:Int)<(a.length:Int):=by omega
  rw [List.drop_length] at hL;refine awN ?_;simp only [F27,seval,hI,aU];refine awF ?_;refine awQ ?_;simp only [F27,seval];refine ⟨_,aH [1,2,5] [2,5],hL.symm,nx,?_⟩;simp only [F27,seval]
 rintro st ⟨hlo,nx,rfl⟩;simp only [hlo,Bool.false_eq_true,if_false];refine awN ?_;simp only [F27,seval];refine aQ [1,2,5,7] [2,5] ?_;simp only [F27,seval];repeat' first|apply awS|apply awB
 refine aB (fun m st=>∃k nx,k<=a.length/\m=a.length-k/\agA n E (a.drop k)=agA n E a/\st=⟨mkT [(1,one (.int .i64 i)),(2,.val (.one (.ptr 2 0 0))),(5,.val (.one (.ptr 5 1 0))),(7,one (.int .i64 k))],mkH [(2,⟨0,36,5,1,bh g⟩),(5,⟨1,50,1,1,aU a⟩)],nx,0⟩) a.length ⟨0,_,by omega,by omega,rfl,rfl⟩ ?_;rintro m st ⟨k,nx,hk,rfl,hL,rfl⟩;by_cases hlt:k<a.length
 ·have hI:(k:Int)<(a.length:Int):=by omega
  have hat:=aO eI a k hlt;rw [Nat.mul_one] at hat;rw [List.drop_eq_getElem_cons hlt] at hL;have htl:=ht _ (List.getElem_mem hlt);have hcpt:∀p∈a[k],cO p.cap:=fun p hp=>hcp p (List.mem_flatten.2 ⟨_,List.getElem_mem hlt,hp⟩)
  generalize a[k]=t at *
  simp only [agA] at hL;refine awN ?_;simp only [F27,seval,hI,aU];refine awT ?_;refine awK ?_;simp only [F27,seval];refine awN ?_;simp only [F27,seval];refine aQ [1,2,5,7,8] [2,5] ?_;simp only [F27,seval];repeat' first|apply awS|apply awB
  refine aB (fun m st=>∃j nx,j<=t.length/\m=t.length-j/\agT n E (t.drop j)=agT n E t/\st=⟨mkT [(1,one (.int .i64 i)),(2,.val (.one (.ptr 2 0 0))),(5,.val (.one (.ptr 5 1 0))),(7,one (.int .i64 k)),(8,one (.int .i64 j))],mkH [(2,⟨0,36,5,1,bh g⟩),(5,⟨1,50,1,1,aU a⟩)],nx,0⟩) t.length ⟨0,_,by omega,by omega,rfl,rfl⟩ ?_;rintro m2 st ⟨j,nx2,hj,rfl,hM,rfl⟩;by_cases hjt:j<t.length
  ·have hJ:(j:Int)<(t.length:Int):=by omega
   have hat2:=aO gj t j hjt;rw [List.drop_eq_getElem_cons hjt] at hM;have hS:=KN t[j].cap (hcpt _ (List.getElem_mem hjt)).1 (hcpt _ (List.getElem_mem hjt)).2;generalize t[j]=p at *
   simp only [agT] at hM;by_cases p1:p.claim< -1
   ·repeat' first|apply awS|apply awB
    refine awN ?_;simp only [F27,seval,hat,hJ,aU,bo];repeat refine ob ?_
    refine awT ?_;refine awK ?_;simp only [F27,seval];refine awN ?_;simp only [F27,seval,hat,hat2,bo,aT];repeat refine ob ?_
    refine awR [] [0,0,0,0,126,126,126,126,126,126,0,0] ?_;simp only [F27,seval,p1,bh];refine awT ?_;refine awN ?_;simp only [F27,seval];have hR:agA n E a=1:=by
     have h1:agT n E t=1:=by rw [←hM];simp [p1]
     rw [←hL,h1];rfl
    refine awX ?_;simp only [F27,seval,hR]
   by_cases p2:(g.claims.length:Int)<=p.claim
   ·have p2n:n<=p.claim:=by rw [←hn];exact p2
    refine awN ?_;simp only [F27,seval,hat,hJ,aU,bo];repeat refine ob ?_
    refine awT ?_;refine awK ?_;simp only [F27,seval];refine awN ?_;simp only [F27,seval,hat,hat2,bo,aT];repeat refine ob ?_
    refine awR [] [0,0,0,0,126,126,126,126,126,126,0,0] ?_;simp only [F27,seval,p1,p2,bh];refine awT ?_;refine awN ?_;simp only [F27,seval];have hR:agA n E a=1:=by
     have h1:agT n E t=1:=by rw [←hM];simp [p2n]
     rw [←hL,h1];rfl
    refine awX ?_;simp only [F27,seval,hR]
   have p2n:¬n<=p.claim:=by rw [←hn];exact p2
   by_cases hc:p.claim= -1
   ·have p2m:¬n<= -1:=by rw [←hc];exact p2n
    cases hcap:p.capped
    ·repeat' first|apply awS|apply awB
     refine awN ?_;simp only [F27,seval,hat,hJ,aU,bo];repeat refine ob ?_
     refine awT ?_;refine awK ?_;simp only [F27,seval];refine awN ?_;simp only [F27,seval,hat,hat2,bo,aT];repeat refine ob ?_
     refine awR [] [0,0,0,0,126,126,126,126,126,126,0,0] ?_;simp only [F27,seval,p1,p2,bh];refine awF ?_;refine awR [] [0,0,0,0,151,151,151,0,0] ?_;simp only [F27,seval,hc,hcap];refine awT ?_;refine awN ?_;simp only [F27,seval];have hR:agA n E a=21:=by
      have h1:agT n E t=21:=by rw [←hM];simp [p2m,hc,hcap]
      rw [←hL,h1];rfl
     refine awX ?_;simp only [F27,seval,hR]
    by_cases hsg:aL (qOf p.cap)<0
    ·repeat' first|apply awS|apply awB
     refine awN ?_;simp only [F27,seval,hat,hJ,aU,bo];repeat refine ob ?_
     refine awT ?_;refine awK ?_;simp only [F27,seval];refine awN ?_;simp only [F27,seval,hat,hat2,bo,aT];repeat refine ob ?_
     refine awR [] [0,0,0,0,126,126,126,126,126,126,0,0] ?_;simp only [F27,seval,p1,p2,bh];refine awF ?_;refine awR [] [0,0,0,0,151,151,151,0,0] ?_;simp only [F27,seval,hc,hcap];refine awF ?_;refine awR [] [0,0,0,167,167,167,167,0,0] ?_;simp only [F27,seval];refine ⟨_,hS,rfl,?_⟩;simp only [aq,F27,seval,hsg];refine awT ?_;refine awN ?_;simp only [F27,seval];have hR:agA n E a=7:=by
      have h1:agT n E t=7:=by rw [←hM];simp [p2m,hc,hcap,hsg]
      rw [←hL,h1];rfl
     refine awX ?_;simp only [F27,seval,hR]
    repeat' first|apply awS|apply awB
    refine awN ?_;simp only [F27,seval,hat,hJ,aU,bo];repeat refine ob ?_
    refine awT ?_;refine awK ?_;simp only [F27,seval];refine awN ?_;simp only [F27,seval,hat,hat2,bo,aT];repeat refine ob ?_
    refine awR [] [0,0,0,0,126,126,126,126,126,126,0,0] ?_;simp only [F27,seval,p1,p2,bh];refine awF ?_;refine awR [] [0,0,0,0,151,151,151,0,0] ?_;simp only [F27,seval,hc,hcap];refine awF ?_;refine awR [] [0,0,0,167,167,167,167,0,0] ?_;simp only [F27,seval];refine ⟨_,hS,rfl,?_⟩;simp only [aq,F27,seval,hsg];refine awF ?_;refine awR [] [0,0,0,0,187,187,187,187,187,0,0] ?_;simp only [F27,seval];refine awF ?_;refine awK ?_;simp only [F27,seval];refine awN ?_;simp only [F27,seval];repeat refine ob ?_
    refine ⟨_,aH [1,2,5,7,8] [2,5],t.length-(j+1),by omega,j+1,nx2+1,by omega,rfl,?_,?_⟩
    ·rw [←hM];simp [p2m,hc,hcap,hsg]
    simp only [F27,seval];try rfl
   have hE:=hEar p.claim;cases hcap:p.capped
   ·cases heb:E p.claim
    ·rw [heb] at hE;refine awN ?_;simp only [F27,seval,hat,hJ,aU,bo];repeat refine ob ?_
     refine awT ?_;refine awK ?_;simp only [F27,seval];refine awN ?_;simp only [F27,seval,hat,hat2,bo,aT];repeat refine ob ?_
     refine awR [] [0,0,0,0,126,126,126,126,126,126,0,0] ?_;simp only [F27,seval,p1,p2,bh];refine awF ?_;refine awR [] [0,0,0,0,151,151,151,0,0] ?_;simp only [F27,seval,hc];refine awF ?_;refine awR [] [0,0,0,167,167,167,167,0,0] ?_;simp only [F27,seval,hcap];refine awF ?_;refine awR [] [0,0,0,0,187,187,187,187,187,0,0] ?_;simp only [F27,seval,hc,ab bA,ab bg];refine ⟨_,hE,rfl,?_⟩;simp only [aq,F27,seval];refine awF ?_;refine awK ?_;simp only [F27,seval];refine awN ?_;simp only [F27,seval];repeat refine ob ?_
     refine ⟨_,aH [1,2,5,7,8] [2,5],t.length-(j+1),by omega,j+1,nx2+1,by omega,rfl,?_,?_⟩
     ·rw [←hM];simp [p1,p2n,hc,heb,hcap]
     simp only [F27,seval];try rfl
    rw [heb] at hE;refine awN ?_;simp only [F27,seval,hat,hJ,aU,bo];repeat refine ob ?_
    refine awT ?_;refine awK ?_;simp only [F27,seval];refine awN ?_;simp only [F27,seval,hat,hat2,bo,aT];repeat refine ob ?_
    refine awR [] [0,0,0,0,126,126,126,126,126,126,0,0] ?_;simp only [F27,seval,p1,p2,bh];refine awF ?_;refine awR [] [0,0,0,0,151,151,151,0,0] ?_;simp only [F27,seval,hc];refine awF ?_;refine awR [] [0,0,0,167,167,167,167,0,0] ?_;simp only [F27,seval,hcap];refine awF ?_;refine awR [] [0,0,0,0,187,187,187,187,187,0,0] ?_;simp only [F27,seval,hc,ab bA,ab bg];refine ⟨_,hE,rfl,?_⟩;simp only [aq,F27,seval];refine awT ?_;refine awN ?_;simp only [F27,seval];have hR:agA n E a=20:=by
     have h1:agT n E t=20:=by rw [←hM];simp [p1,p2n,hc,heb,hcap]
     rw [←hL,h1];rfl
    refine awX ?_;simp only [F27,seval,hR]
   by_cases hsg:aL (qOf p.cap)<0
   ·repeat' first|apply awS|apply awB
    refine awN ?_;simp only [F27,seval,hat,hJ,aU,bo];repeat refine ob ?_
    refine awT ?_;refine awK ?_;simp only [F27,seval];refine awN ?_;simp only [F27,seval,hat,hat2,bo,aT];repeat refine ob ?_
    refine awR [] [0,0,0,0,126,126,126,126,126,126,0,0] ?_;simp only [F27,seval,p1,p2,bh];refine awF ?_;refine awR [] [0,0,0,0,151,151,151,0,0] ?_;simp only [F27,seval,hc];refine awF ?_;refine awR [] [0,0,0,167,167,167,167,0,0] ?_;simp only [F27,seval,hcap];refine ⟨_,hS,rfl,?_⟩;simp only [aq,F27,seval,hsg];refine awT ?_;refine awN ?_;simp only [F27,seval];have hR:agA n E a=7:=by
     have h1:agT n E t=7:=by rw [←hM];simp [p1,p2n,hc,hcap,hsg]
     rw [←hL,h1];rfl
    refine awX ?_;simp only [F27,seval,hR]
   cases heb:E p.claim
   ·rw [heb] at hE;refine awN ?_;simp only [F27,seval,hat,hJ,aU,bo];repeat refine ob ?_
    refine awT ?_;refine awK ?_;simp only [F27,seval];refine awN ?_;simp only [F27,seval,hat,hat2,bo,aT];repeat refine ob ?_
    refine awR [] [0,0,0,0,126,126,126,126,126,126,0,0] ?_;simp only [F27,seval,p1,p2,bh];refine awF ?_;refine awR [] [0,0,0,0,151,151,151,0,0] ?_;simp only [F27,seval,hc];refine awF ?_;refine awR [] [0,0,0,167,167,167,167,0,0] ?_;simp only [F27,seval,hcap];refine ⟨_,hS,rfl,?_⟩;simp only [aq,F27,seval,hsg];refine awF ?_;refine awR [] [0,0,0,0,187,187,187,187,187,0,0] ?_;simp only [F27,seval,hc,ab bA,ab bg];refine ⟨_,hE,rfl,?_⟩;simp only [aq,F27,seval];refine awF ?_;refine awK ?_;simp only [F27,seval];refine awN ?_;simp only [F27,seval];repeat refine ob ?_
    refine ⟨_,aH [1,2,5,7,8] [2,5],t.length-(j+1),by omega,j+1,nx2+1,by omega,rfl,?_,?_⟩
    ·rw [←hM];simp [p1,p2n,hc,heb,hcap,hsg]
    simp only [F27,seval];try rfl
   rw [heb] at hE;refine awN ?_;simp only [F27,seval,hat,hJ,aU,bo];repeat refine ob ?_
   refine awT ?_;refine awK ?_;simp only [F27,seval];refine awN ?_;simp only [F27,seval,hat,hat2,bo,aT];repeat refine ob ?_
   refine awR [] [0,0,0,0,126,126,126,126,126,126,0,0] ?_;simp only [F27,seval,p1,p2,bh];refine awF ?_;refine awR [] [0,0,0,0,151,151,151,0,0] ?_;simp only [F27,seval,hc];refine awF ?_;refine awR [] [0,0,0,167,167,167,167,0,0] ?_;simp only [F27,seval,hcap];refine ⟨_,hS,rfl,?_⟩;simp only [aq,F27,seval,hsg];refine awF ?_;refine awR [] [0,0,0,0,187,187,187,187,187,0,0] ?_;simp only [F27,seval,hc,ab bA,ab bg];refine ⟨_,hE,rfl,?_⟩;simp only [aq,F27,seval];refine awT ?_;refine awN ?_;simp only [F27,seval];have hR:agA n E a=20:=by
    have h1:agT n E t=20:=by rw [←hM];simp [p1,p2n,hc,heb,hcap,hsg]
    rw [←hL,h1];rfl
   refine awX ?_;simp only [F27,seval,hR]
  obtain rfl:j=t.length:=by omega
  have hJ:¬(t.length:Int)<(t.length:Int):=by omega
  rw [List.drop_length] at hM;simp only [agT] at hM;refine awN ?_;simp only [F27,seval,hat,hJ,aU,bo];repeat refine ob ?_
  refine awF ?_;refine awQ ?_;simp only [F27,seval];refine awN ?_;simp only [F27,seval];repeat refine ob ?_
  refine ⟨_,aH [1,2,5,7] [2,5],a.length-(k+1),by omega,k+1,nx2,by omega,rfl,?_,?_⟩
  ·rw [←hM] at hL;simpa using hL
  simp only [F27,seval];try rfl
 obtain rfl:k=a.length:=by omega
 have hI:¬(a.length:Int)<(a.length:Int):=by omega
 rw [List.drop_length] at hL;simp only [agA] at hL;refine awN ?_;simp only [F27,seval,hI,aU];refine awF ?_;refine awQ ?_;simp only [F27,seval];refine awN ?_;simp only [F27,seval];refine awX ?_;simp only [F27,seval,←hL]
noncomputable def ig (g:GEst) (i:Nat):List cw->Int
 |[]=>0
 |a::l=>if agS g.claims.length (fun c=>mbE c (g.agrs.take i)) a≠0 then agS g.claims.length (fun c=>mbE c (g.agrs.take i)) a else ig g (i+1) l
noncomputable def jc (e:GEst):Int:=if 24<e.claims.length∨12<e.agrs.length then 2 else if aL (qOf e.cash)<0 then 7 else if bw e.claims≠0 then bw e.claims
 else ig e 0 e.agrs
def f6 (e:GEst):Prop:=vJ e/\∀a∈e.agrs,a.length<=1000000000000
def F28:=And.intro zS (And.intro Jy (And.intro zw (And.intro pj (And.intro u7 (And.intro I0 (And.intro u9 (And.intro yG (And.intro pk (And.intro zA (And.intro zB (And.intro tx (And.intro nK (And.intro tC (And.intro jS (And.intro xd (po))))))))))))))))
theorem F29:type_of%F28:=F28
theorem tM (g:GEst) (hg:f6 g):ch prog 36 [.agg (bh g)] (one (.int .i64 (jc g))):=by
 obtain ⟨⟨⟨hq1,hq2⟩,hcl,hcn,hag⟩,hal⟩:=hg;have hS0:=KN g.cash hq1 hq2;unfold jc;refine bF func36 rfl (by decide) (N:=69) rfl (by simp) (R:=[.tmp 2]) rfl fun en k0=>?_
 refine awN ?_;simp only [F29,seval,bh];by_cases h24:24<g.claims.length
 ·have hI:(24:Int)<(g.claims.length:Int):=by omega
  refine awR [] [0,0,0,0,0,24,24,24,24,0] ?_;simp only [F29,seval,hI];refine awT ?_;refine awN ?_;simp only [F29,seval];refine awX ?_;simp only [F29,seval,h24]
 have hI24:¬(24:Int)<(g.claims.length:Int):=by omega
 by_cases h12:12<g.agrs.length
 ·have hI:(12:Int)<(g.agrs.length:Int):=by omega
  refine awR [] [0,0,0,0,0,24,24,24,24,0] ?_;simp only [F29,seval,hI24,hI];refine awT ?_;refine awN ?_;simp only [F29,seval];refine awX ?_;simp only [F29,seval,h12]
 have hI12:¬(12:Int)<(g.agrs.length:Int):=by omega
 by_cases hq:aL (qOf g.cash)<0
 ·repeat' first|apply awS|apply awB
  refine awR [] [0,0,0,0,0,24,24,24,24,0] ?_;simp only [F29,seval,hI24,hI12];refine awF ?_;refine awK ?_;simp only [F29,seval];refine awN ?_;simp only [F29,seval];refine ⟨_,hS0,rfl,?_⟩;simp only [aq,F29,seval,hq];refine awT ?_;refine awN ?_;simp only [F29,seval];refine awX ?_;simp only [F29,seval,h24,h12,or_self]
 refine awR [] [0,0,0,0,0,24,24,24,24,0] ?_;simp only [F29,seval,hI24,hI12];refine awF ?_;refine awK ?_;simp only [F29,seval];refine awN ?_;simp only [F29,seval];refine ⟨_,hS0,rfl,?_⟩;simp only [aq,F29,seval,hq];refine awF ?_;refine awK ?_;simp only [F29,seval];refine awN ?_;simp only [F29,seval];refine aQ [1,3] [1] ?_;simp only [F29,seval];refine eY (M:=fun st=>bw g.claims=0/\∃nx,st=⟨mkT [(1,.val (.one (.ptr 1 0 0)))],mkH [(1,⟨0,36,5,1,bh g⟩)],nx,0⟩) ?_ ?_
 ·repeat' first|apply awS|apply awB
  refine aB (fun n st=>∃k nx,k<=g.claims.length/\n=g.claims.length-k/\bw (g.claims.drop k)=bw g.claims/\st=⟨mkT [(1,.val (.one (.ptr 1 0 0))),(3,one (.int .i64 k))],mkH [(1,⟨0,36,5,1,bh g⟩)],nx,0⟩) g.claims.length ⟨0,_,by omega,by omega,rfl,rfl⟩ ?_;rintro n st ⟨k,nx,hk,rfl,hL,rfl⟩;by_cases hlt:k<g.claims.length
  ·have hI:(k:Int)<(g.claims.length:Int):=by omega
   have hat:=aO bX g.claims k hlt;rw [List.drop_eq_getElem_cons hlt] at hL;have hS:=KN g.claims[k].amount (hcl _ (List.getElem_mem hlt)).1 (hcl _ (List.getElem_mem hlt)).2;generalize g.claims[k]=c at *
   simp only [bw] at hL;by_cases p1:c.holder< -1
   ·repeat' first|apply awS|apply awB
    refine awN ?_;simp only [F29,seval,hI,bh];refine awT ?_;refine awK ?_;simp only [F29,seval];refine awN ?_;simp only [F29,seval,hat,aA];repeat refine ob ?_
    refine awR [] [0,0,0,0,76,76,76,0,0] ?_;simp only [F29,seval,p1];refine awT ?_;refine awN ?_;simp only [F29,seval];have hR:bw g.claims=19:=by rw [←hL];simp [p1]
    refine awX ?_;simp only [F29,seval,h24,h12,or_self,hR,Int.reduceEq]
   by_cases p2:8<=c.holder
   ·repeat' first|apply awS|apply awB
    refine awN ?_;simp only [F29,seval,hI,bh];refine awT ?_;refine awK ?_;simp only [F29,seval];refine awN ?_;simp only [F29,seval,hat,aA];repeat refine ob ?_
    refine awR [] [0,0,0,0,76,76,76,0,0] ?_;simp only [F29,seval,p1,p2];refine awT ?_;refine awN ?_;simp only [F29,seval];have hR:bw g.claims=19:=by rw [←hL];simp [p2]
    refine awX ?_;simp only [F29,seval,h24,h12,or_self,hR,Int.reduceEq]
   by_cases p3:c.rank<0
   ·repeat' first|apply awS|apply awB
    refine awN ?_;simp only [F29,seval,hI,bh];refine awT ?_;refine awK ?_;simp only [F29,seval];refine awN ?_;simp only [F29,seval,hat,aA];repeat refine ob ?_
    refine awR [] [0,0,0,0,76,76,76,0,0] ?_;simp only [F29,seval,p1,p2];refine awF ?_;refine awR [] [0,0,0,0,94,94,94,0,0] ?_;simp only [F29,seval,p3];refine awT ?_;refine awN ?_;simp only [F29,seval];have hR:bw g.claims=1:=by rw [←hL];simp [p1,p2,p3]
    refine awX ?_;simp only [F29,seval,h24,h12,or_self,hR,Int.reduceEq]
   by_cases p4:7<c.rank
   ·repeat' first|apply awS|apply awB
    refine awN ?_;simp only [F29,seval,hI,bh];refine awT ?_;refine awK ?_;simp only [F29,seval];refine awN ?_;simp only [F29,seval,hat,aA];repeat refine ob ?_
    refine awR [] [0,0,0,0,76,76,76,0,0] ?_;simp only [F29,seval,p1,p2];refine awF ?_;refine awR [] [0,0,0,0,94,94,94,0,0] ?_;simp only [F29,seval,p3,p4];refine awT ?_;refine awN ?_;simp only [F29,seval];have hR:bw g.claims=1:=by rw [←hL];simp [p1,p2,p4]
    refine awX ?_;simp only [F29,seval,h24,h12,or_self,hR,Int.reduceEq]
   by_cases hsg:aL (qOf c.amount)<0
   ·repeat' first|apply awS|apply awB
    refine awN ?_;simp only [F29,seval,hI,bh];refine awT ?_;refine awK ?_;simp only [F29,seval];refine awN ?_;simp only [F29,seval,hat,aA];repeat refine ob ?_
    refine awR [] [0,0,0,0,76,76,76,0,0] ?_;simp only [F29,seval,p1,p2];refine awF ?_;refine awR [] [0,0,0,0,94,94,94,0,0] ?_;simp only [F29,seval,p3,p4];refine awF ?_;refine awN ?_;simp only [F29,seval];refine ⟨_,hS,rfl,?_⟩;simp only [aq,F29,seval,hsg];refine awT ?_;refine awN ?_;simp only [F29,seval];have hR:bw g.claims=7:=by rw [←hL];simp [p1,p2,p3,p4,hsg]
    refine awX ?_;simp only [F29,seval,h24,h12,or_self,hR,Int.reduceEq]
   repeat' first|apply awS|apply awB
   refine awN ?_;simp only [F29,seval,hI,bh];refine awT ?_;refine awK ?_;simp only [F29,seval];refine awN ?_;simp only [F29,seval,hat,aA];repeat refine ob ?_
   refine awR [] [0,0,0,0,76,76,76,0,0] ?_;simp only [F29,seval,p1,p2];refine awF ?_;refine awR [] [0,0,0,0,94,94,94,0,0] ?_;simp only [F29,seval,p3,p4];refine awF ?_;refine awN ?_;simp only [F29,seval];refine ⟨_,hS,rfl,?_⟩;simp only [aq,F29,seval,hsg];refine awF ?_;refine awK ?_;simp only [F29,seval];refine awN ?_;simp only [F29,seval];repeat refine ob ?_
   refine ⟨_,aH [1,3] [1],g.claims.length-(k+1),by omega,k+1,nx+1,by omega,rfl,?_,?_⟩
   ·rw [←hL];simp [p1,p2,p3,p4,hsg]
   simp only [F29,seval];try rfl
  obtain rfl:k=g.claims.length:=by omega
  have hI:¬(g.claims.length:Int)<(g.claims.length:Int):=by omega
  rw [List.drop_length] at hL;simp only [bw] at hL;refine awN ?_;simp only [F29,seval,hI,bh];refine awF ?_;refine awQ ?_;simp only [F29,seval];refine ⟨_,aH [1] [1],hL.symm,nx,?_⟩;simp only [F29,seval]
 rintro st ⟨hw0,nx,rfl⟩;simp only [h24,h12,or_self,if_false,hw0,ne_eq,not_true_eq_false];refine awN ?_;simp only [F29,seval];refine aQ [1,5] [1] ?_;simp only [F29,seval];repeat' first|apply awS|apply awB
 refine aB (fun n st=>∃k nx,k<=g.agrs.length/\n=g.agrs.length-k/\ig g k (g.agrs.drop k)=ig g 0 g.agrs/\st=⟨mkT [(1,.val (.one (.ptr 1 0 0))),(5,one (.int .i64 k))],mkH [(1,⟨0,36,5,1,bh g⟩)],nx,0⟩) g.agrs.length ⟨0,_,by omega,by omega,rfl,rfl⟩ ?_;rintro n st ⟨k,nx,hk,rfl,hL,rfl⟩;by_cases hlt:k<g.agrs.length
 ·have hI:(k:Int)<(g.agrs.length:Int):=by omega
  rw [List.drop_eq_getElem_cons hlt] at hL;have hA:=pG g k hlt (by omega) (fun a ha=>⟨hal a ha,(hag a ha).1⟩) (hag _ (List.getElem_mem hlt));simp only [ig] at hL;generalize agS g.claims.length (fun c=>mbE c (g.agrs.take k)) g.agrs[k]=r at *
  by_cases he:r=0
  ·rw [if_neg (by simp [he])] at hL;refine awN ?_;simp only [F29,seval,hI,bh];refine awT ?_;refine awK ?_;simp only [F29,seval];refine awN ?_;simp only [F29,seval,ab bA,ab bg];refine ⟨_,hA,rfl,?_⟩;simp only [aq,F29,seval,he];refine awN ?_;simp only [F29,seval];refine awF ?_;refine awK ?_;simp only [F29,seval];refine awN ?_;simp only [F29,seval];repeat refine ob ?_
   refine ⟨_,aH [1,5] [1],g.agrs.length-(k+1),by omega,k+1,nx,by omega,rfl,hL,?_⟩;simp only [F29,seval];try rfl
  rw [if_pos he] at hL;refine awN ?_;simp only [F29,seval,hI,bh];refine awT ?_;refine awK ?_;simp only [F29,seval];refine awN ?_;simp only [F29,seval,ab bA,ab bg];refine ⟨_,hA,rfl,?_⟩;simp only [aq,F29,seval];refine awN ?_;simp only [F29,seval,he];refine awT ?_;refine awN ?_;simp only [F29,seval];refine awX ?_;simp only [F29,seval,hL]
 obtain rfl:k=g.agrs.length:=by omega
 have hI:¬(g.agrs.length:Int)<(g.agrs.length:Int):=by omega
 rw [List.drop_length] at hL;simp only [ig] at hL;refine awN ?_;simp only [F29,seval,hI,bh];refine awF ?_;refine awQ ?_;simp only [F29,seval];refine awN ?_;simp only [F29,seval];refine awX ?_;simp only [F29,seval,←hL]
def lgT (l0:Leg):List Leg->Nat->Option Nat
 |[],_=>none
 |x::t,j=>if x.1=l0.1/\x.2=l0.2 then some j else lgT l0 t (j+1)
def lgD (l0:Leg):List GDebt->Nat->Option (Nat×Nat)
 |[],_=>none
 |d::ds,i=>match lgT l0 d.legs 0 with
  |some j=>some (i,j)
  |none=>lgD l0 ds (i+1)
def lgR:Option (Nat×Nat)->AV
 |some x=> .tup [.one (.lit (.int .i64 (x.1:Int))),.one (.lit (.int .i64 (x.2:Int))),.one (.lit (.bool true))]
 |none=> .tup [.one (.lit (.int .i64 0)),.one (.lit (.int .i64 0)),.one (.lit (.bool false))]
def F30:=And.intro zS (And.intro Jy (And.intro KF (And.intro pj (And.intro u6 (And.intro pk (And.intro tv (And.intro tw (And.intro pl (And.intro tx (And.intro tz (And.intro nK (And.intro xd (po)))))))))))))
theorem F31:type_of%F30:=F30
theorem si (g:GGrp) (l:Leg) (h:cR g.ests l=true):
  ch prog 80 [.agg (au g),.agg (f9 l)] (.val (.agg (aA (cL g.ests l)))):=by
 simp only [cR,Bool.and_eq_true,decide_eq_true_eq] at h;obtain ⟨⟨⟨h1,h2⟩,h3⟩,h4⟩:=h;have a1:=Jo de g.ests l.1 bM h1 h2;have a2:=Jo bX (g.ests.getD l.1.toNat bM).claims l.2 default h3 h4;unfold cL;generalize g.ests.getD l.1.toNat bM=e at *
 generalize e.claims.getD l.2.toNat default=c at *
 refine bF func80 rfl (by decide) (N:=16) rfl (by simp) (R:=[.cell 4 38]) rfl fun en k0=>?_
 refine awN ?_;simp only [F31,seval,au,f9];refine awD (scT 0 11 (scq [22] .nil)) [0,0,0,0,0,0,0,0,0,0,0,0] ?_;simp only [F31,seval,a1,a2,bh,aA];refine ⟨⟨h1,h2⟩,⟨h3,h4⟩,?_⟩;refine awX ?_;simp only [F31,seval]
def F32:=And.intro zS (And.intro nN (And.intro pm (And.intro vd (And.intro tA (And.intro xf (And.intro qO (And.intro tw (And.intro pl (And.intro zZ (And.intro xg (xd)))))))))))
theorem F33:type_of%F32:=F32
theorem zR (g:GGrp) (l0:Leg) (hn:g.debts.length<=1000000000000) (hl:∀d∈g.debts,d.legs.length<=1000000000000):
  ch prog 79 [.agg (au g),.one (.lit (.int .i64 l0.1)),.one (.lit (.int .i64 l0.2))] (lgR (lgD l0 g.debts 0)):=by
 refine bF func79 rfl (by decide) (N:=57) rfl (by simp) (R:=[.tmp 6,.tmp 7,.tmp 8]) rfl fun en k0=>?_
 refine awN ?_;simp only [F33,seval,au];refine awN ?_;simp only [F33,seval];refine aQ [1,2,3,9] [3] ?_;simp only [F33,seval];repeat' first|apply awS|apply awB
 refine aB (fun n st=>∃k nx,k<=g.debts.length/\n=g.debts.length-k/\lgD l0 (g.debts.drop k) k=lgD l0 g.debts 0/\st=⟨mkT [(1,one (.int .i64 l0.1)),(2,one (.int .i64 l0.2)),(3,.val (.one (.ptr 3 0 0))),(9,one (.int .i64 k))],mkH [(3,⟨0,28,2,1,au g⟩)],nx,0⟩) g.debts.length ⟨0,_,by omega,by omega,rfl,rfl⟩ ?_;rintro n st ⟨k,nx,hk,rfl,hL,rfl⟩;by_cases hlt:k<g.debts.length
 ·have hI:(k:Int)<(g.debts.length:Int):=by omega
  have hat:=aO dT g.debts k hlt;rw [List.drop_eq_getElem_cons hlt] at hL;have hdl:=hl _ (List.getElem_mem hlt);generalize g.debts[k]=d at *
  simp only [lgD] at hL;refine awN ?_;simp only [F33,seval,hI,au];refine awT ?_;refine awK ?_;simp only [F33,seval];refine awN ?_;simp only [F33,seval];refine aQ [1,2,3,9,10] [3] ?_;simp only [F33,seval];repeat' first|apply awS|apply awB
  refine aB (fun n st=>∃j nx,j<=d.legs.length/\n=d.legs.length-j/\lgT l0 (d.legs.drop j) j=lgT l0 d.legs 0/\st=⟨mkT [(1,one (.int .i64 l0.1)),(2,one (.int .i64 l0.2)),(3,.val (.one (.ptr 3 0 0))),(9,one (.int .i64 k)),(10,one (.int .i64 j))],mkH [(3,⟨0,28,2,1,au g⟩)],nx,0⟩) d.legs.length ⟨0,_,by omega,by omega,rfl,rfl⟩ ?_;rintro n2 st ⟨j,nx2,hj,rfl,hM,rfl⟩;by_cases hjt:j<d.legs.length
  ·have hJ:(j:Int)<(d.legs.length:Int):=by omega
   have hat2:=aO cr d.legs j hjt;rw [List.drop_eq_getElem_cons hjt] at hM;generalize d.legs[j]=x at *
   simp only [lgT] at hM;by_cases c1:x.1=l0.1
   ·by_cases c2:x.2=l0.2
    ·have hR:lgD l0 g.debts 0=some (k,j):=by
      have h1:lgT l0 d.legs 0=some j:=by rw [←hM];simp [c1,c2]
      rw [←hL,h1]
     refine awN ?_;simp only [F33,seval,hat,hJ,au,cn];repeat refine ob ?_
     refine awT ?_;refine awK ?_;simp only [F33,seval];refine awR [] [0,0,0,0,0,0,0,0,0,0,0,0,0,85,85,85,85,85,85,85,85,85,85,85,85,0] ?_;simp only [F33,seval,hat,hat2,cn,f9,c1,c2];repeat refine ob ?_
     refine awT ?_;refine awN ?_;simp only [F33,seval];refine awX ?_;simp only [F33,seval,hR,lgR]
    refine awN ?_;simp only [F33,seval,hat,hJ,au,cn];repeat refine ob ?_
    refine awT ?_;refine awK ?_;simp only [F33,seval];refine awR [] [0,0,0,0,0,0,0,0,0,0,0,0,0,85,85,85,85,85,85,85,85,85,85,85,85,0] ?_;simp only [F33,seval,hat,hat2,cn,f9,c1,c2];repeat refine ob ?_
    refine awF ?_;refine awK ?_;simp only [F33,seval];refine awN ?_;simp only [F33,seval];repeat refine ob ?_
    refine ⟨_,aH [1,2,3,9,10] [3],d.legs.length-(j+1),by omega,j+1,nx2,by omega,rfl,?_,?_⟩
    ·rw [←hM];simp [c1,c2]
    simp only [F33,seval];try rfl
   refine awN ?_;simp only [F33,seval,hat,hJ,au,cn];repeat refine ob ?_
   refine awT ?_;refine awK ?_;simp only [F33,seval];refine awR [] [0,0,0,0,0,0,0,0,0,0,0,0,0,85,85,85,85,85,85,85,85,85,85,85,85,0] ?_;simp only [F33,seval,hat,hat2,cn,f9,c1];repeat refine ob ?_
   refine awF ?_;refine awK ?_;simp only [F33,seval];refine awN ?_;simp only [F33,seval];repeat refine ob ?_
   refine ⟨_,aH [1,2,3,9,10] [3],d.legs.length-(j+1),by omega,j+1,nx2,by omega,rfl,?_,?_⟩
   ·rw [←hM];simp [c1]
   simp only [F33,seval];try rfl
  obtain rfl:j=d.legs.length:=by omega
  have hJ:¬(d.legs.length:Int)<(d.legs.length:Int):=by omega
  rw [List.drop_length] at hM;simp only [lgT] at hM;rw [←hM] at hL;refine awN ?_;simp only [F33,seval,hat,hJ,au,cn];repeat refine ob ?_
  refine awF ?_;refine awQ ?_;simp only [F33,seval];refine awN ?_;simp only [F33,seval];repeat refine ob ?_
  refine ⟨_,aH [1,2,3,9] [3],g.debts.length-(k+1),by omega,k+1,nx2,by omega,rfl,hL,?_⟩;simp only [F33,seval];try rfl
 obtain rfl:k=g.debts.length:=by omega
 have hI:¬(g.debts.length:Int)<(g.debts.length:Int):=by omega
 rw [List.drop_length] at hL;simp only [lgD] at hL;refine awN ?_;simp only [F33,seval,hI,au];refine awF ?_;refine awQ ?_;simp only [F33,seval];refine awN ?_;simp only [F33,seval];refine awX ?_;simp only [F33,seval,←hL,lgR]
end Go.Proofs.YtcgpghifhehlhaaGreatDoor
