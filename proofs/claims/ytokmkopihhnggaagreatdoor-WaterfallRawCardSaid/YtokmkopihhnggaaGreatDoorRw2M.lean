/- The reference: Sign, agreement; walked by the abstract machine. -/
import Derived.Test.YtokmkopihhnggaaGreatDoorWf6M
set_option linter.unusedVariables false
set_option maxHeartbeats 8000000
set_option linter.unusedSimpArgs false
set_option linter.defProp false
namespace Go.Proofs.YtokmkopihhnggaaGreatDoor
open Go Go.RowKit Go.Proofs.Tryz
theorem I5 (r:GRat) (h1:r.num.size<=500000000000) (h2:r.den.size<=500000000000):aR prog 116 [.agg (ai r)] (.val (.agg (ai (enc (qOf r))))):=
 bj (ch func116 (by decide) (by kernel_rfl)) [aF r] (aF (enc (qOf r))) fun w=>pj r w h1 h2
theorem EF (r:GRat):aR prog 153 [.agg (ai r)] (one (.int .i64 (jv r))):=
 bj (ch func153 (by decide) (by kernel_rfl)) [aF r] (.int .i64 (jv r)) fun w=>o6 r w
noncomputable def agT (n:Int) (E:Int->Bool):List GPart->Int
 |[]=>0
 |p::l=>if p.claim< -1∨n<=p.claim then 1 else if p.claim= -1/\p.capped=false then 21 else if p.capped=true/\cU (qOf p.cap)<0 then 7
  else if p.claim≠ -1/\E p.claim=true then 20 else agT n E l
noncomputable def agA (n:Int) (E:Int->Bool):bR->Int
 |[]=>0
 |t::a=>if agT n E t≠0 then agT n E t else agA n E a
noncomputable def agS (n:Int) (E:Int->Bool) (a:bR):Int:=if 24<a.length then 2 else if a.any eb=true then 2 else agA n E a
def F18:=And.intro zS (cD)
theorem F19:type_of%F18:=F18
theorem CV (r:GRat) (h1:r.num.size<=500000000000) (h2:r.den.size<=500000000000):aR prog 106 [.agg (ai r)] (one (.int .i64 (cU (qOf r)))):=by
 have hF:=I5 r h1 h2;have hS:=EF (enc (qOf r));rw [lW] at hS;refine aP func106 rfl (by decide) (N:=6) rfl (by simp) (R:=[.tmp 2]) rfl fun en k0=>?_
 refine awN ?_;simp only [F19,seval,ai];refine awN ?_;simp only [F19,seval];refine ⟨_,hF,rfl,?_⟩;simp only [ak,F19,seval,ai];refine ⟨_,hS,rfl,?_⟩;refine awX ?_;simp only [F19,seval]
def F20:=And.intro zS (And.intro tf1 (And.intro AW (And.intro tf6 (And.intro tf2 (And.intro tv (And.intro mN (And.intro tf0 (And.intro tf8 (And.intro pq (And.intro tw (And.intro tf9 (And.intro Ep (And.intro CF (And.intro xE (And.intro tz (And.intro pr (And.intro tf3 (And.intro vi (And.intro ic (And.intro AU (And.intro cD (And.intro tu (And.intro jz (And.intro AX (tf5)))))))))))))))))))))))))
theorem F21:type_of%F20:=F20
theorem vu (g:GEst) (i:Nat) (hi:i<g.agrs.length) (hi2:i<=1000000000000) (ha0:∀a∈g.agrs,a.length<=1000000000000/\∀t∈a,t.length<=1000000000000) (hag:(∀t∈g.agrs[i],t.length<=1000000000000)/\∀p∈g.agrs[i].flatten,jh p.cap):
  aR prog 107 [.agg (aJ g),.one (.lit (.int .i64 i))] (one (.int .i64 (agS g.claims.length (fun c=>mbE c (g.agrs.take i)) g.agrs[i]))):=by
 have hEar:=fun c=>A7 g i c (by omega) hi2 ha0
 obtain ⟨ht,hcp⟩:=hag;have hat0:=aO gI g.agrs i hi;rw [Nat.mul_one] at hat0;have hin:(i:Int)<(g.agrs.length:Int):=by omega
 generalize hE0:(fun c=>mbE c (g.agrs.take i))=E at *
 have hEar:∀c,aR prog 154 [.agg (aJ g),.one (.lit (.int .i64 i)),.one (.lit (.int .i64 c))] (one (.bool (E c))):=fun c=>by rw [←hE0];exact hEar c
 generalize g.agrs[i]=a at *
 generalize hn:(g.claims.length:Int)=n at *
 refine aP func107 rfl (by decide) (N:=99) rfl (by simp) (R:=[.tmp 4]) rfl fun en k0=>?_
 refine awN ?_;simp only [F21,seval,aJ];refine awN ?_;simp only [F21,seval,hat0,bu];repeat refine ob ?_
 unfold agS;by_cases h24:24<a.length
 ·have hI:(24:Int)<(a.length:Int):=by omega
  refine awN ?_;simp only [F21,seval,hI];refine awT ?_;refine awN ?_;simp only [F21,seval];refine awX ?_;simp only [F21,seval,h24]
 have hI24:¬(24:Int)<(a.length:Int):=by omega
 simp only [h24,if_false];refine awN ?_;simp only [F21,seval,hI24];refine awF ?_;refine awK ?_;simp only [F21,seval];refine awN ?_;simp only [F21,seval];refine aQ [1,2,5,6] [2,5] ?_;simp only [F21,seval];refine lY (M:=fun st=>a.any eb=false/\∃nx,st=⟨mkT [(1,one (.int .i64 i)),(2,.val (.one (.ptr 2 0 0))),(5,.val (.one (.ptr 5 1 0)))],mkH [(2,⟨0,36,5,1,aJ g⟩),(5,⟨1,50,1,1,bu a⟩)],nx,0⟩) ?_ ?_
 ·repeat' first|apply awS|apply awB
  refine aM (fun n st=>∃k nx,k<=a.length/\n=a.length-k/\(a.drop k).any eb=a.any eb/\st=⟨mkT [(1,one (.int .i64 i)),(2,.val (.one (.ptr 2 0 0))),(5,.val (.one (.ptr 5 1 0))),(6,one (.int .i64 k))],mkH [(2,⟨0,36,5,1,aJ g⟩),(5,⟨1,50,1,1,bu a⟩)],nx,0⟩) a.length ⟨0,_,by omega,by omega,rfl,rfl⟩ ?_;rintro n st ⟨k,nx,hk,rfl,hL,rfl⟩;by_cases hlt:k<a.length
  ·have hI:(k:Int)<(a.length:Int):=by omega
   have hat:=aO eA a k hlt;rw [Nat.mul_one] at hat;rw [List.drop_eq_getElem_cons hlt] at hL;have htl:=ht _ (List.getElem_mem hlt);generalize a[k]=t at *
   simp only [List.any_cons] at hL;cases hl:eb t
   ·have hJ:¬(24:Int)<(t.length:Int):=by have:=of_decide_eq_false hl;omega
    refine awN ?_;simp only [F21,seval,hI,bu];refine awT ?_;refine awK ?_;simp only [F21,seval];refine awN ?_;simp only [F21,seval,hat,hJ,bD];repeat refine ob ?_
    refine awF ?_;refine awK ?_;simp only [F21,seval];refine awN ?_;simp only [F21,seval];repeat refine ob ?_
    refine ⟨_,aI [1,2,5,6] [2,5],a.length-(k+1),by omega,k+1,nx,by omega,rfl,?_,?_⟩
    ·rw [←hL,hl];rfl
    simp only [F21,seval];try rfl
   have hJ:(24:Int)<(t.length:Int):=by have:=of_decide_eq_true hl;omega
   have hR:a.any eb=true:=by rw [←hL,hl];rfl
   refine awN ?_;simp only [F21,seval,hI,bu];refine awT ?_;refine awK ?_;simp only [F21,seval];refine awN ?_;simp only [F21,seval,hat,hJ,bD];repeat refine ob ?_
   refine awT ?_;refine awN ?_;simp only [F21,seval];refine awX ?_;simp only [F21,seval,hR]
  obtain rfl:k=a.length:=by omega
  have hI:¬(a.length:Int)<(a.length:Int):=by omega
  rw [List.drop_length] at hL;refine awN ?_;simp only [F21,seval,hI,bu];refine awF ?_;refine awQ ?_;simp only [F21,seval];refine ⟨_,aI [1,2,5] [2,5],hL.symm,nx,?_⟩;simp only [F21,seval]
 rintro st ⟨hlo,nx,rfl⟩;simp only [hlo,Bool.false_eq_true,if_false];refine awN ?_;simp only [F21,seval];refine aQ [1,2,5,7] [2,5] ?_;simp only [F21,seval];repeat' first|apply awS|apply awB
 refine aM (fun m st=>∃k nx,k<=a.length/\m=a.length-k/\agA n E (a.drop k)=agA n E a/\st=⟨mkT [(1,one (.int .i64 i)),(2,.val (.one (.ptr 2 0 0))),(5,.val (.one (.ptr 5 1 0))),(7,one (.int .i64 k))],mkH [(2,⟨0,36,5,1,aJ g⟩),(5,⟨1,50,1,1,bu a⟩)],nx,0⟩) a.length ⟨0,_,by omega,by omega,rfl,rfl⟩ ?_;rintro m st ⟨k,nx,hk,rfl,hL,rfl⟩;by_cases hlt:k<a.length
 ·have hI:(k:Int)<(a.length:Int):=by omega
  have hat:=aO eA a k hlt;rw [Nat.mul_one] at hat;rw [List.drop_eq_getElem_cons hlt] at hL;have htl:=ht _ (List.getElem_mem hlt);have hcpt:∀p∈a[k],jh p.cap:=fun p hp=>hcp p (List.mem_flatten.2 ⟨_,List.getElem_mem hlt,hp⟩)
  generalize a[k]=t at *
  simp only [agA] at hL;refine awN ?_;simp only [F21,seval,hI,bu];refine awT ?_;refine awK ?_;simp only [F21,seval];refine awN ?_;simp only [F21,seval];refine aQ [1,2,5,7,8] [2,5] ?_;simp only [F21,seval];repeat' first|apply awS|apply awB
  refine aM (fun m st=>∃j nx,j<=t.length/\m=t.length-j/\agT n E (t.drop j)=agT n E t/\st=⟨mkT [(1,one (.int .i64 i)),(2,.val (.one (.ptr 2 0 0))),(5,.val (.one (.ptr 5 1 0))),(7,one (.int .i64 k)),(8,one (.int .i64 j))],mkH [(2,⟨0,36,5,1,aJ g⟩),(5,⟨1,50,1,1,bu a⟩)],nx,0⟩) t.length ⟨0,_,by omega,by omega,rfl,rfl⟩ ?_;rintro m2 st ⟨j,nx2,hj,rfl,hM,rfl⟩;by_cases hjt:j<t.length
  ·have hJ:(j:Int)<(t.length:Int):=by omega
   have hat2:=aO eX t j hjt;rw [List.drop_eq_getElem_cons hjt] at hM;have hS:=CV t[j].cap (hcpt _ (List.getElem_mem hjt)).1 (hcpt _ (List.getElem_mem hjt)).2;generalize t[j]=p at *
   simp only [agT] at hM;by_cases p1:p.claim< -1
   ·repeat' first|apply awS|apply awB
    refine awN ?_;simp only [F21,seval,hat,hJ,bu,bD];repeat refine ob ?_
    refine awT ?_;refine awK ?_;simp only [F21,seval];refine awN ?_;simp only [F21,seval,hat,hat2,bD,bT];repeat refine ob ?_
    refine awR [] [0,0,0,0,126,126,126,126,126,126,0,0] ?_;simp only [F21,seval,p1,aJ];refine awT ?_;refine awN ?_;simp only [F21,seval];have hR:agA n E a=1:=by
     have h1:agT n E t=1:=by rw [←hM];simp [p1]
     rw [←hL,h1];rfl
    refine awX ?_;simp only [F21,seval,hR]
   by_cases p2:(g.claims.length:Int)<=p.claim
   ·have p2n:n<=p.claim:=by rw [←hn];exact p2
    refine awN ?_;simp only [F21,seval,hat,hJ,bu,bD];repeat refine ob ?_
    refine awT ?_;refine awK ?_;simp only [F21,seval];refine awN ?_;simp only [F21,seval,hat,hat2,bD,bT];repeat refine ob ?_
    refine awR [] [0,0,0,0,126,126,126,126,126,126,0,0] ?_;simp only [F21,seval,p1,p2,aJ];refine awT ?_;refine awN ?_;simp only [F21,seval];have hR:agA n E a=1:=by
     have h1:agT n E t=1:=by rw [←hM];simp [p2n]
     rw [←hL,h1];rfl
    refine awX ?_;simp only [F21,seval,hR]
   have p2n:¬n<=p.claim:=by rw [←hn];exact p2
   by_cases hc:p.claim= -1
   ·have p2m:¬n<= -1:=by rw [←hc];exact p2n
    cases hcap:p.capped
    ·repeat' first|apply awS|apply awB
     refine awN ?_;simp only [F21,seval,hat,hJ,bu,bD];repeat refine ob ?_
     refine awT ?_;refine awK ?_;simp only [F21,seval];refine awN ?_;simp only [F21,seval,hat,hat2,bD,bT];repeat refine ob ?_
     refine awR [] [0,0,0,0,126,126,126,126,126,126,0,0] ?_;simp only [F21,seval,p1,p2,aJ];refine awF ?_;refine awR [] [0,0,0,0,151,151,151,0,0] ?_;simp only [F21,seval,hc,hcap];refine awT ?_;refine awN ?_;simp only [F21,seval];have hR:agA n E a=21:=by
      have h1:agT n E t=21:=by rw [←hM];simp [p2m,hc,hcap]
      rw [←hL,h1];rfl
     refine awX ?_;simp only [F21,seval,hR]
    by_cases hsg:cU (qOf p.cap)<0
    ·repeat' first|apply awS|apply awB
     refine awN ?_;simp only [F21,seval,hat,hJ,bu,bD];repeat refine ob ?_
     refine awT ?_;refine awK ?_;simp only [F21,seval];refine awN ?_;simp only [F21,seval,hat,hat2,bD,bT];repeat refine ob ?_
     refine awR [] [0,0,0,0,126,126,126,126,126,126,0,0] ?_;simp only [F21,seval,p1,p2,aJ];refine awF ?_;refine awR [] [0,0,0,0,151,151,151,0,0] ?_;simp only [F21,seval,hc,hcap];refine awF ?_;refine awR [] [0,0,0,167,167,167,167,0,0] ?_;simp only [F21,seval];refine ⟨_,hS,rfl,?_⟩;simp only [ak,F21,seval,hsg];refine awT ?_;refine awN ?_;simp only [F21,seval];have hR:agA n E a=7:=by
      have h1:agT n E t=7:=by rw [←hM];simp [p2m,hc,hcap,hsg]
      rw [←hL,h1];rfl
     refine awX ?_;simp only [F21,seval,hR]
    repeat' first|apply awS|apply awB
    refine awN ?_;simp only [F21,seval,hat,hJ,bu,bD];repeat refine ob ?_
    refine awT ?_;refine awK ?_;simp only [F21,seval];refine awN ?_;simp only [F21,seval,hat,hat2,bD,bT];repeat refine ob ?_
    refine awR [] [0,0,0,0,126,126,126,126,126,126,0,0] ?_;simp only [F21,seval,p1,p2,aJ];refine awF ?_;refine awR [] [0,0,0,0,151,151,151,0,0] ?_;simp only [F21,seval,hc,hcap];refine awF ?_;refine awR [] [0,0,0,167,167,167,167,0,0] ?_;simp only [F21,seval];refine ⟨_,hS,rfl,?_⟩;simp only [ak,F21,seval,hsg];refine awF ?_;refine awR [] [0,0,0,0,187,187,187,187,187,0,0] ?_;simp only [F21,seval];refine awF ?_;refine awK ?_;simp only [F21,seval];refine awN ?_;simp only [F21,seval];repeat refine ob ?_
    refine ⟨_,aI [1,2,5,7,8] [2,5],t.length-(j+1),by omega,j+1,nx2+1,by omega,rfl,?_,?_⟩
    ·rw [←hM];simp [p2m,hc,hcap,hsg]
    simp only [F21,seval];try rfl
   have hE:=hEar p.claim;cases hcap:p.capped
   ·cases heb:E p.claim
    ·rw [heb] at hE;refine awN ?_;simp only [F21,seval,hat,hJ,bu,bD];repeat refine ob ?_
     refine awT ?_;refine awK ?_;simp only [F21,seval];refine awN ?_;simp only [F21,seval,hat,hat2,bD,bT];repeat refine ob ?_
     refine awR [] [0,0,0,0,126,126,126,126,126,126,0,0] ?_;simp only [F21,seval,p1,p2,aJ];refine awF ?_;refine awR [] [0,0,0,0,151,151,151,0,0] ?_;simp only [F21,seval,hc];refine awF ?_;refine awR [] [0,0,0,167,167,167,167,0,0] ?_;simp only [F21,seval,hcap];refine awF ?_;refine awR [] [0,0,0,0,187,187,187,187,187,0,0] ?_;simp only [F21,seval,hc,ab ao,ab au];refine ⟨_,hE,rfl,?_⟩;simp only [ak,F21,seval];refine awF ?_;refine awK ?_;simp only [F21,seval];refine awN ?_;simp only [F21,seval];repeat refine ob ?_
     refine ⟨_,aI [1,2,5,7,8] [2,5],t.length-(j+1),by omega,j+1,nx2+1,by omega,rfl,?_,?_⟩
     ·rw [←hM];simp [p1,p2n,hc,heb,hcap]
     simp only [F21,seval];try rfl
    rw [heb] at hE;refine awN ?_;simp only [F21,seval,hat,hJ,bu,bD];repeat refine ob ?_
    refine awT ?_;refine awK ?_;simp only [F21,seval];refine awN ?_;simp only [F21,seval,hat,hat2,bD,bT];repeat refine ob ?_
    refine awR [] [0,0,0,0,126,126,126,126,126,126,0,0] ?_;simp only [F21,seval,p1,p2,aJ];refine awF ?_;refine awR [] [0,0,0,0,151,151,151,0,0] ?_;simp only [F21,seval,hc];refine awF ?_;refine awR [] [0,0,0,167,167,167,167,0,0] ?_;simp only [F21,seval,hcap];refine awF ?_;refine awR [] [0,0,0,0,187,187,187,187,187,0,0] ?_;simp only [F21,seval,hc,ab ao,ab au];refine ⟨_,hE,rfl,?_⟩;simp only [ak,F21,seval];refine awT ?_;refine awN ?_;simp only [F21,seval];have hR:agA n E a=20:=by
     have h1:agT n E t=20:=by rw [←hM];simp [p1,p2n,hc,heb,hcap]
     rw [←hL,h1];rfl
    refine awX ?_;simp only [F21,seval,hR]
   by_cases hsg:cU (qOf p.cap)<0
   ·repeat' first|apply awS|apply awB
    refine awN ?_;simp only [F21,seval,hat,hJ,bu,bD];repeat refine ob ?_
    refine awT ?_;refine awK ?_;simp only [F21,seval];refine awN ?_;simp only [F21,seval,hat,hat2,bD,bT];repeat refine ob ?_
    refine awR [] [0,0,0,0,126,126,126,126,126,126,0,0] ?_;simp only [F21,seval,p1,p2,aJ];refine awF ?_;refine awR [] [0,0,0,0,151,151,151,0,0] ?_;simp only [F21,seval,hc];refine awF ?_;refine awR [] [0,0,0,167,167,167,167,0,0] ?_;simp only [F21,seval,hcap];refine ⟨_,hS,rfl,?_⟩;simp only [ak,F21,seval,hsg];refine awT ?_;refine awN ?_;simp only [F21,seval];have hR:agA n E a=7:=by
     have h1:agT n E t=7:=by rw [←hM];simp [p1,p2n,hc,hcap,hsg]
     rw [←hL,h1];rfl
    refine awX ?_;simp only [F21,seval,hR]
   cases heb:E p.claim
   ·rw [heb] at hE;refine awN ?_;simp only [F21,seval,hat,hJ,bu,bD];repeat refine ob ?_
    refine awT ?_;refine awK ?_;simp only [F21,seval];refine awN ?_;simp only [F21,seval,hat,hat2,bD,bT];repeat refine ob ?_
    refine awR [] [0,0,0,0,126,126,126,126,126,126,0,0] ?_;simp only [F21,seval,p1,p2,aJ];refine awF ?_;refine awR [] [0,0,0,0,151,151,151,0,0] ?_;simp only [F21,seval,hc];refine awF ?_;refine awR [] [0,0,0,167,167,167,167,0,0] ?_;simp only [F21,seval,hcap];refine ⟨_,hS,rfl,?_⟩;simp only [ak,F21,seval,hsg];refine awF ?_;refine awR [] [0,0,0,0,187,187,187,187,187,0,0] ?_;simp only [F21,seval,hc,ab ao,ab au];refine ⟨_,hE,rfl,?_⟩;simp only [ak,F21,seval];refine awF ?_;refine awK ?_;simp only [F21,seval];refine awN ?_;simp only [F21,seval];repeat refine ob ?_
    refine ⟨_,aI [1,2,5,7,8] [2,5],t.length-(j+1),by omega,j+1,nx2+1,by omega,rfl,?_,?_⟩
    ·rw [←hM];simp [p1,p2n,hc,heb,hcap,hsg]
    simp only [F21,seval];try rfl
   rw [heb] at hE;refine awN ?_;simp only [F21,seval,hat,hJ,bu,bD];repeat refine ob ?_
   refine awT ?_;refine awK ?_;simp only [F21,seval];refine awN ?_;simp only [F21,seval,hat,hat2,bD,bT];repeat refine ob ?_
   refine awR [] [0,0,0,0,126,126,126,126,126,126,0,0] ?_;simp only [F21,seval,p1,p2,aJ];refine awF ?_;refine awR [] [0,0,0,0,151,151,151,0,0] ?_;simp only [F21,seval,hc];refine awF ?_;refine awR [] [0,0,0,167,167,167,167,0,0] ?_;simp only [F21,seval,hcap];refine ⟨_,hS,rfl,?_⟩;simp only [ak,F21,seval,hsg];refine awF ?_;refine awR [] [0,0,0,0,187,187,187,187,187,0,0] ?_;simp only [F21,seval,hc,ab ao,ab au];refine ⟨_,hE,rfl,?_⟩;simp only [ak,F21,seval];refine awT ?_;refine awN ?_;simp only [F21,seval];have hR:agA n E a=20:=by
    have h1:agT n E t=20:=by rw [←hM];simp [p1,p2n,hc,heb,hcap,hsg]
    rw [←hL,h1];rfl
   refine awX ?_;simp only [F21,seval,hR]
  obtain rfl:j=t.length:=by omega
  have hJ:¬(t.length:Int)<(t.length:Int):=by omega
  rw [List.drop_length] at hM;simp only [agT] at hM;refine awN ?_;simp only [F21,seval,hat,hJ,bu,bD];repeat refine ob ?_
  refine awF ?_;refine awQ ?_;simp only [F21,seval];refine awN ?_;simp only [F21,seval];repeat refine ob ?_
  refine ⟨_,aI [1,2,5,7] [2,5],a.length-(k+1),by omega,k+1,nx2,by omega,rfl,?_,?_⟩
  ·rw [←hM] at hL;simpa using hL
  simp only [F21,seval];try rfl
 obtain rfl:k=a.length:=by omega
 have hI:¬(a.length:Int)<(a.length:Int):=by omega
 rw [List.drop_length] at hL;simp only [agA] at hL;refine awN ?_;simp only [F21,seval,hI,bu];refine awF ?_;refine awQ ?_;simp only [F21,seval];refine awN ?_;simp only [F21,seval];refine awX ?_;simp only [F21,seval,←hL]
noncomputable def jB (g:GEst) (i:Nat):List bR->Int
 |[]=>0
 |a::l=>if agS g.claims.length (fun c=>mbE c (g.agrs.take i)) a≠0 then agS g.claims.length (fun c=>mbE c (g.agrs.take i)) a else jB g (i+1) l
noncomputable def tG (e:GEst):Int:=if 24<e.claims.length∨12<e.agrs.length then 2 else if cU (qOf e.cash)<0 then 7 else if bq e.claims≠0 then bq e.claims
 else jB e 0 e.agrs
def jC (e:GEst):Prop:=y8 e/\∀a∈e.agrs,a.length<=1000000000000
def F22:=And.intro zS (And.intro vg (And.intro tv (And.intro mN (And.intro Hr (And.intro Er (And.intro vh (And.intro Ge (And.intro pq (And.intro tw (And.intro tz (And.intro pr (And.intro CG (And.intro ic (And.intro cD (And.intro jz (xF))))))))))))))))
theorem F23:type_of%F22:=F22
theorem iw (g:GEst) (hg:jC g):aR prog 54 [.agg (aJ g)] (one (.int .i64 (tG g))):=by
 obtain ⟨⟨⟨hq1,hq2⟩,hcl,hcn,hag⟩,hal⟩:=hg;have hS0:=CV g.cash hq1 hq2;unfold tG;refine aP func54 rfl (by decide) (N:=69) rfl (by simp) (R:=[.tmp 2]) rfl fun en k0=>?_
 refine awN ?_;simp only [F23,seval,aJ];by_cases h24:24<g.claims.length
 ·have hI:(24:Int)<(g.claims.length:Int):=by omega
  refine awR [] [0,0,0,0,0,24,24,24,24,0] ?_;simp only [F23,seval,hI];refine awT ?_;refine awN ?_;simp only [F23,seval];refine awX ?_;simp only [F23,seval,h24]
 have hI24:¬(24:Int)<(g.claims.length:Int):=by omega
 by_cases h12:12<g.agrs.length
 ·have hI:(12:Int)<(g.agrs.length:Int):=by omega
  refine awR [] [0,0,0,0,0,24,24,24,24,0] ?_;simp only [F23,seval,hI24,hI];refine awT ?_;refine awN ?_;simp only [F23,seval];refine awX ?_;simp only [F23,seval,h12]
 have hI12:¬(12:Int)<(g.agrs.length:Int):=by omega
 by_cases hq:cU (qOf g.cash)<0
 ·repeat' first|apply awS|apply awB
  refine awR [] [0,0,0,0,0,24,24,24,24,0] ?_;simp only [F23,seval,hI24,hI12];refine awF ?_;refine awK ?_;simp only [F23,seval];refine awN ?_;simp only [F23,seval];refine ⟨_,hS0,rfl,?_⟩;simp only [ak,F23,seval,hq];refine awT ?_;refine awN ?_;simp only [F23,seval];refine awX ?_;simp only [F23,seval,h24,h12,or_self]
 refine awR [] [0,0,0,0,0,24,24,24,24,0] ?_;simp only [F23,seval,hI24,hI12];refine awF ?_;refine awK ?_;simp only [F23,seval];refine awN ?_;simp only [F23,seval];refine ⟨_,hS0,rfl,?_⟩;simp only [ak,F23,seval,hq];refine awF ?_;refine awK ?_;simp only [F23,seval];refine awN ?_;simp only [F23,seval];refine aQ [1,3] [1] ?_;simp only [F23,seval];refine lY (M:=fun st=>bq g.claims=0/\∃nx,st=⟨mkT [(1,.val (.one (.ptr 1 0 0)))],mkH [(1,⟨0,36,5,1,aJ g⟩)],nx,0⟩) ?_ ?_
 ·repeat' first|apply awS|apply awB
  refine aM (fun n st=>∃k nx,k<=g.claims.length/\n=g.claims.length-k/\bq (g.claims.drop k)=bq g.claims/\st=⟨mkT [(1,.val (.one (.ptr 1 0 0))),(3,one (.int .i64 k))],mkH [(1,⟨0,36,5,1,aJ g⟩)],nx,0⟩) g.claims.length ⟨0,_,by omega,by omega,rfl,rfl⟩ ?_;rintro n st ⟨k,nx,hk,rfl,hL,rfl⟩;by_cases hlt:k<g.claims.length
  ·have hI:(k:Int)<(g.claims.length:Int):=by omega
   have hat:=aO cK g.claims k hlt;rw [List.drop_eq_getElem_cons hlt] at hL;have hS:=CV g.claims[k].amount (hcl _ (List.getElem_mem hlt)).1 (hcl _ (List.getElem_mem hlt)).2;generalize g.claims[k]=c at *
   simp only [bq] at hL;by_cases p1:c.holder< -1
   ·repeat' first|apply awS|apply awB
    refine awN ?_;simp only [F23,seval,hI,aJ];refine awT ?_;refine awK ?_;simp only [F23,seval];refine awN ?_;simp only [F23,seval,hat,b0];repeat refine ob ?_
    refine awR [] [0,0,0,0,76,76,76,0,0] ?_;simp only [F23,seval,p1];refine awT ?_;refine awN ?_;simp only [F23,seval];have hR:bq g.claims=19:=by rw [←hL];simp [p1]
    refine awX ?_;simp only [F23,seval,h24,h12,or_self,hR,Int.reduceEq]
   by_cases p2:8<=c.holder
   ·repeat' first|apply awS|apply awB
    refine awN ?_;simp only [F23,seval,hI,aJ];refine awT ?_;refine awK ?_;simp only [F23,seval];refine awN ?_;simp only [F23,seval,hat,b0];repeat refine ob ?_
    refine awR [] [0,0,0,0,76,76,76,0,0] ?_;simp only [F23,seval,p1,p2];refine awT ?_;refine awN ?_;simp only [F23,seval];have hR:bq g.claims=19:=by rw [←hL];simp [p2]
    refine awX ?_;simp only [F23,seval,h24,h12,or_self,hR,Int.reduceEq]
   by_cases p3:c.rank<0
   ·repeat' first|apply awS|apply awB
    refine awN ?_;simp only [F23,seval,hI,aJ];refine awT ?_;refine awK ?_;simp only [F23,seval];refine awN ?_;simp only [F23,seval,hat,b0];repeat refine ob ?_
    refine awR [] [0,0,0,0,76,76,76,0,0] ?_;simp only [F23,seval,p1,p2];refine awF ?_;refine awR [] [0,0,0,0,94,94,94,0,0] ?_;simp only [F23,seval,p3];refine awT ?_;refine awN ?_;simp only [F23,seval];have hR:bq g.claims=1:=by rw [←hL];simp [p1,p2,p3]
    refine awX ?_;simp only [F23,seval,h24,h12,or_self,hR,Int.reduceEq]
   by_cases p4:7<c.rank
   ·repeat' first|apply awS|apply awB
    refine awN ?_;simp only [F23,seval,hI,aJ];refine awT ?_;refine awK ?_;simp only [F23,seval];refine awN ?_;simp only [F23,seval,hat,b0];repeat refine ob ?_
    refine awR [] [0,0,0,0,76,76,76,0,0] ?_;simp only [F23,seval,p1,p2];refine awF ?_;refine awR [] [0,0,0,0,94,94,94,0,0] ?_;simp only [F23,seval,p3,p4];refine awT ?_;refine awN ?_;simp only [F23,seval];have hR:bq g.claims=1:=by rw [←hL];simp [p1,p2,p4]
    refine awX ?_;simp only [F23,seval,h24,h12,or_self,hR,Int.reduceEq]
   by_cases hsg:cU (qOf c.amount)<0
   ·repeat' first|apply awS|apply awB
    refine awN ?_;simp only [F23,seval,hI,aJ];refine awT ?_;refine awK ?_;simp only [F23,seval];refine awN ?_;simp only [F23,seval,hat,b0];repeat refine ob ?_
    refine awR [] [0,0,0,0,76,76,76,0,0] ?_;simp only [F23,seval,p1,p2];refine awF ?_;refine awR [] [0,0,0,0,94,94,94,0,0] ?_;simp only [F23,seval,p3,p4];refine awF ?_;refine awN ?_;simp only [F23,seval];refine ⟨_,hS,rfl,?_⟩;simp only [ak,F23,seval,hsg];refine awT ?_;refine awN ?_;simp only [F23,seval];have hR:bq g.claims=7:=by rw [←hL];simp [p1,p2,p3,p4,hsg]
    refine awX ?_;simp only [F23,seval,h24,h12,or_self,hR,Int.reduceEq]
   repeat' first|apply awS|apply awB
   refine awN ?_;simp only [F23,seval,hI,aJ];refine awT ?_;refine awK ?_;simp only [F23,seval];refine awN ?_;simp only [F23,seval,hat,b0];repeat refine ob ?_
   refine awR [] [0,0,0,0,76,76,76,0,0] ?_;simp only [F23,seval,p1,p2];refine awF ?_;refine awR [] [0,0,0,0,94,94,94,0,0] ?_;simp only [F23,seval,p3,p4];refine awF ?_;refine awN ?_;simp only [F23,seval];refine ⟨_,hS,rfl,?_⟩;simp only [ak,F23,seval,hsg];refine awF ?_;refine awK ?_;simp only [F23,seval];refine awN ?_;simp only [F23,seval];repeat refine ob ?_
   refine ⟨_,aI [1,3] [1],g.claims.length-(k+1),by omega,k+1,nx+1,by omega,rfl,?_,?_⟩
   ·rw [←hL];simp [p1,p2,p3,p4,hsg]
   simp only [F23,seval];try rfl
  obtain rfl:k=g.claims.length:=by omega
  have hI:¬(g.claims.length:Int)<(g.claims.length:Int):=by omega
  rw [List.drop_length] at hL;simp only [bq] at hL;refine awN ?_;simp only [F23,seval,hI,aJ];refine awF ?_;refine awQ ?_;simp only [F23,seval];refine ⟨_,aI [1] [1],hL.symm,nx,?_⟩;simp only [F23,seval]
 rintro st ⟨hw0,nx,rfl⟩;simp only [h24,h12,or_self,if_false,hw0,ne_eq,not_true_eq_false];refine awN ?_;simp only [F23,seval];refine aQ [1,5] [1] ?_;simp only [F23,seval];repeat' first|apply awS|apply awB
 refine aM (fun n st=>∃k nx,k<=g.agrs.length/\n=g.agrs.length-k/\jB g k (g.agrs.drop k)=jB g 0 g.agrs/\st=⟨mkT [(1,.val (.one (.ptr 1 0 0))),(5,one (.int .i64 k))],mkH [(1,⟨0,36,5,1,aJ g⟩)],nx,0⟩) g.agrs.length ⟨0,_,by omega,by omega,rfl,rfl⟩ ?_;rintro n st ⟨k,nx,hk,rfl,hL,rfl⟩;by_cases hlt:k<g.agrs.length
 ·have hI:(k:Int)<(g.agrs.length:Int):=by omega
  rw [List.drop_eq_getElem_cons hlt] at hL;have hA:=vu g k hlt (by omega) (fun a ha=>⟨hal a ha,(hag a ha).1⟩) (hag _ (List.getElem_mem hlt));simp only [jB] at hL;generalize agS g.claims.length (fun c=>mbE c (g.agrs.take k)) g.agrs[k]=r at *
  by_cases he:r=0
  ·rw [if_neg (by simp [he])] at hL;refine awN ?_;simp only [F23,seval,hI,aJ];refine awT ?_;refine awK ?_;simp only [F23,seval];refine awN ?_;simp only [F23,seval,ab ao,ab au];refine ⟨_,hA,rfl,?_⟩;simp only [ak,F23,seval,he];refine awN ?_;simp only [F23,seval];refine awF ?_;refine awK ?_;simp only [F23,seval];refine awN ?_;simp only [F23,seval];repeat refine ob ?_
   refine ⟨_,aI [1,5] [1],g.agrs.length-(k+1),by omega,k+1,nx,by omega,rfl,hL,?_⟩;simp only [F23,seval];try rfl
  rw [if_pos he] at hL;refine awN ?_;simp only [F23,seval,hI,aJ];refine awT ?_;refine awK ?_;simp only [F23,seval];refine awN ?_;simp only [F23,seval,ab ao,ab au];refine ⟨_,hA,rfl,?_⟩;simp only [ak,F23,seval];refine awN ?_;simp only [F23,seval,he];refine awT ?_;refine awN ?_;simp only [F23,seval];refine awX ?_;simp only [F23,seval,hL]
 obtain rfl:k=g.agrs.length:=by omega
 have hI:¬(g.agrs.length:Int)<(g.agrs.length:Int):=by omega
 rw [List.drop_length] at hL;simp only [jB] at hL;refine awN ?_;simp only [F23,seval,hI,aJ];refine awF ?_;refine awQ ?_;simp only [F23,seval];refine awN ?_;simp only [F23,seval];refine awX ?_;simp only [F23,seval,←hL]

end Go.Proofs.YtokmkopihhnggaaGreatDoor
