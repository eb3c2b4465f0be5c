/- The builder's helpers: free, taken; walked by the abstract machine. -/
import Derived.Test.YtokmkopihhnggaaGreatDoorWf6M
set_option linter.unusedVariables false
set_option maxHeartbeats 4000000
set_option linter.unusedSimpArgs false
set_option linter.defProp false
namespace Go.Proofs.YtokmkopihhnggaaGreatDoor
open Go Go.RowKit Go.Proofs.Tryz
def frP (c:Int):List GPart->Bool
 |[]=>true
 |p::l=>if p.claim=c then false else frP c l
def frT (c:Int):List (List GPart)->Bool
 |[]=>true
 |t::l=>if frP c t=true then frT c l else false
def frA (c:Int):List bR->Bool
 |[]=>true
 |a::l=>if frT c a=true then frA c l else false
def tkL (i c:Int):List Leg->Bool
 |[]=>false
 |x::l=>if x.1=i then (if x.2=c then true else tkL i c l) else tkL i c l
def tkD (i c:Int):List GDebt->Bool
 |[]=>false
 |d::l=>if tkL i c d.legs=true then true else tkD i c l
def F14:=And.intro zS (And.intro tf1 (And.intro BK (And.intro tf6 (And.intro tf2 (And.intro tv (And.intro tf0 (And.intro tf8 (And.intro tw (And.intro tf9 (And.intro KB (And.intro tz (And.intro tf3 (And.intro vi (And.intro AU (And.intro jz (And.intro AX (tf5)))))))))))))))))
theorem F15:type_of%F14:=F14
theorem Mo (e:GEst) (c:Int) (hn:e.agrs.length<=1000000000000) (he:∀a∈e.agrs,a.length<=1000000000000/\∀t∈a,t.length<=1000000000000):aR prog 99 [.agg (aJ e),.one (.lit (.int .i64 c))] (one (.bool (frA c e.agrs))):=by
 refine aP func99 rfl (by decide) (N:=38) rfl (by simp) (R:=[.tmp 4]) rfl fun en k0=>?_
 refine awN ?_;simp only [F15,seval,aJ];refine awN ?_;simp only [F15,seval];refine aQ [1,2,12,13,14] [2] ?_;try simp only [ak,F15,seval]
 repeat' first|apply awS|apply awB
 refine aM (fun n st=>∃k0 nx,k0<=e.agrs.length/\n=e.agrs.length-k0/\frA c (e.agrs.drop k0)=frA c e.agrs/\st=⟨mkT [(1,one (.int .i64 c)),(2,.val (.one (.ptr 2 0 0))),(12,.val (.one (.sh 1 e.agrs.length (aA bu e.agrs)))),(13,one (.int .i64 e.agrs.length)),(14,one (.int .i64 k0))],mkH [(2,⟨0,36,5,1,aJ e⟩)],nx,0⟩) (e.agrs.length) ⟨0,_,by omega,by omega,by rfl,rfl⟩ ?_;rintro n0 st ⟨k0,nx0,hk0,rfl,hL0,rfl⟩;by_cases hlt0:k0<e.agrs.length
 ·skip;have hI0:(k0:Int)<(e.agrs.length:Int):=by omega
  have hat0:=aO gI e.agrs k0 hlt0;try rw [Nat.mul_one] at hat0
  rw [List.drop_eq_getElem_cons hlt0] at hL0;have hA:=he _ (List.getElem_mem hlt0);generalize e.agrs[k0]=a at *
  simp only [frA] at hL0;refine awN ?_;simp only [F15,seval,aJ,hI0];refine awT ?_;refine awK ?_;simp only [F15,seval];refine awN ?_;simp only [F15,seval,hI0,hat0,bu];repeat refine ob ?_
  refine awN ?_;simp only [F15,seval];refine aQ [1,2,12,13,14,19,20,21] [2] ?_;try simp only [ak,F15,seval]
  repeat' first|apply awS|apply awB
  refine aM (fun n st=>∃k1 nx,k1<=a.length/\n=a.length-k1/\frT c (a.drop k1)=frT c a/\st=⟨mkT [(1,one (.int .i64 c)),(2,.val (.one (.ptr 2 0 0))),(12,.val (.one (.sh 1 e.agrs.length (aA bu e.agrs)))),(13,one (.int .i64 e.agrs.length)),(14,one (.int .i64 k0)),(19,.val (.one (.sh 1 a.length (aA bD a)))),(20,one (.int .i64 a.length)),(21,one (.int .i64 k1))],mkH [(2,⟨0,36,5,1,aJ e⟩)],nx,0⟩) (a.length) ⟨0,_,by omega,by omega,by rfl,rfl⟩ ?_;rintro n1 st ⟨k1,nx1,hk1,rfl,hL1,rfl⟩;by_cases hlt1:k1<a.length
  ·skip;have hI1:(k1:Int)<(a.length:Int):=by omega
   have hat1:=aO eA a k1 hlt1;try rw [Nat.mul_one] at hat1
   rw [List.drop_eq_getElem_cons hlt1] at hL1;have hn3:=hA.2 _ (List.getElem_mem hlt1);generalize a[k1]=t at *
   simp only [frT] at hL1;refine awN ?_;simp only [F15,seval,aJ,hI1];refine awT ?_;refine awK ?_;simp only [F15,seval];refine awN ?_;simp only [F15,seval,hI1,hat1,bD];repeat refine ob ?_
   refine awN ?_;simp only [F15,seval];refine aQ [1,2,12,13,14,19,20,21,25,26,27] [2] ?_;try simp only [ak,F15,seval]
   repeat' first|apply awS|apply awB
   refine aM (fun n st=>∃k2 nx,k2<=t.length/\n=t.length-k2/\frP c (t.drop k2)=frP c t/\st=⟨mkT [(1,one (.int .i64 c)),(2,.val (.one (.ptr 2 0 0))),(12,.val (.one (.sh 1 e.agrs.length (aA bu e.agrs)))),(13,one (.int .i64 e.agrs.length)),(14,one (.int .i64 k0)),(19,.val (.one (.sh 1 a.length (aA bD a)))),(20,one (.int .i64 a.length)),(21,one (.int .i64 k1)),(25,.val (.one (.sh 5 t.length (aA bT t)))),(26,one (.int .i64 t.length)),(27,one (.int .i64 k2))],mkH [(2,⟨0,36,5,1,aJ e⟩)],nx,0⟩) (t.length) ⟨0,_,by omega,by omega,by rfl,rfl⟩ ?_;rintro n2 st ⟨k2,nx2,hk2,rfl,hL2,rfl⟩;by_cases hlt2:k2<t.length
   ·skip;have hI2:(k2:Int)<(t.length:Int):=by omega
    have hat2:=aO eX t k2 hlt2;try rw [Nat.mul_one] at hat2
    rw [List.drop_eq_getElem_cons hlt2] at hL2;generalize t[k2]=p at *
    simp only [frP] at hL2;refine awN ?_;simp only [F15,seval,aJ,hI2];refine awT ?_;refine awK ?_;simp only [F15,seval];refine awN ?_;simp only [F15,seval,hI2,hat2,bT];repeat refine ob ?_
    by_cases h1:p.claim=c
    ·skip;refine awN ?_;simp only [F15,seval,h1];refine awT ?_;refine awN ?_;simp only [F15,seval];refine awX ?_;(first|(simp only [F15,seval,h1,←hL0,←hL1,←hL2];done)|(simp only [F15,seval,aJ];first|(simp [hI0,hat0,hI1,hat1,hI2,hat2,h1,←hL0,←hL1,←hL2];done)|(simp [hI0,hat0,hI1,hat1,hI2,hat2,h1];done)|(rw [←hL0,←hL1,←hL2];simp [hI0,hat0,hI1,hat1,hI2,hat2,h1];done)))
    skip;refine awN ?_;simp only [F15,seval,h1];refine awF ?_;refine awK ?_;simp only [F15,seval];refine awN ?_;simp only [F15,seval];repeat refine ob ?_
    refine ⟨_,aI [1,2,12,13,14,19,20,21,25,26,27] [2],t.length-(k2+1),by omega,k2+1,?a15_nx,by omega,rfl,?i15_0,?st15⟩;case st15=>(simp only [F15,seval];first|rfl|(simp [Nat.add_mul];done))
    case i15_0=>(first|exact hL2|(rw [←hL2];simp only [reduceIte,h1];done)|(rw [←hL2];simp [hI0,hat0,hI1,hat1,hI2,hat2,h1];done)|(simp [hI0,hat0,hI1,hat1,hI2,hat2,h1] at hL2;simpa using hL2)|(rw [←hL2];simp [*];done))
   skip;obtain rfl:k2=t.length:=by omega
   have hI2:¬(t.length:Int)<(t.length:Int):=by omega
   rw [List.drop_length] at hL2;simp only [frP] at hL2;refine awN ?_;simp only [F15,seval,aJ,hI2];refine awF ?_;refine awQ ?_;simp only [F15,seval];refine awN ?_;simp only [F15,seval];repeat refine ob ?_
   refine ⟨_,aI [1,2,12,13,14,19,20,21] [2],a.length-(k1+1),by omega,k1+1,?a18_nx,by omega,rfl,?i18_0,?st18⟩;case st18=>(simp only [F15,seval];first|rfl|(simp [Nat.add_mul];done))
   case i18_0=>(first|exact hL1|(rw [←hL1];simp [←hL2];done)|(rw [←hL1];simp only [reduceIte,hI0,hat0,hI1,hat1,hI2];done)|(rw [←hL1];simp [hI0,hat0,hI1,hat1,hI2];done)|(simp [hI0,hat0,hI1,hat1,hI2] at hL1;simpa using hL1)|(rw [←hL1];simp [*];done))
  skip;obtain rfl:k1=a.length:=by omega
  have hI1:¬(a.length:Int)<(a.length:Int):=by omega
  rw [List.drop_length] at hL1;simp only [frT] at hL1;refine awN ?_;simp only [F15,seval,aJ,hI1];refine awF ?_;refine awQ ?_;simp only [F15,seval];refine awN ?_;simp only [F15,seval];repeat refine ob ?_
  refine ⟨_,aI [1,2,12,13,14] [2],e.agrs.length-(k0+1),by omega,k0+1,?a21_nx,by omega,rfl,?i21_0,?st21⟩;case st21=>(simp only [F15,seval];first|rfl|(simp [Nat.add_mul];done))
  case i21_0=>(first|exact hL0|(rw [←hL0];simp [←hL1];done)|(rw [←hL0];simp only [reduceIte,hI0,hat0,hI1];done)|(rw [←hL0];simp [hI0,hat0,hI1];done)|(simp [hI0,hat0,hI1] at hL0;simpa using hL0)|(rw [←hL0];simp [*];done))
 skip;obtain rfl:k0=e.agrs.length:=by omega
 have hI0:¬(e.agrs.length:Int)<(e.agrs.length:Int):=by omega
 rw [List.drop_length] at hL0;simp only [frA] at hL0;refine awN ?_;simp only [F15,seval,aJ,hI0];refine awF ?_;refine awQ ?_;simp only [F15,seval];refine awN ?_;simp only [F15,seval];refine awX ?_;(first|(simp only [F15,seval,←hL0];done)|(simp only [F15,seval,aJ];first|(simp [hI0,←hL0];done)|(simp [hI0];done)|(rw [←hL0];simp [hI0];done)))
def F16:=And.intro zS (And.intro ic (And.intro Es (And.intro IY (And.intro Et (And.intro IZ (And.intro gH (And.intro dN (And.intro I0 (And.intro Ht (And.intro Gf (And.intro Gg (And.intro Eu (And.intro jz (And.intro Gh (I1)))))))))))))))
theorem F17:type_of%F16:=F16
theorem Kg (g:GGrp) (i c:Int) (hn:g.debts.length<=1000000000000) (he:∀d∈g.debts,d.legs.length<=1000000000000):aR prog 100 [.agg (yk g),.one (.lit (.int .i64 i)),.one (.lit (.int .i64 c))] (one (.bool (tkD i c g.debts))):=by
 refine aP func100 rfl (by decide) (N:=37) rfl (by simp) (R:=[.tmp 6]) rfl fun en k0=>?_
 refine awN ?_;simp only [F17,seval,yk];refine awN ?_;simp only [F17,seval];refine aQ [1,2,3,12,13,14] [3] ?_;try simp only [ak,F17,seval]
 repeat' first|apply awS|apply awB
 refine aM (fun n st=>∃k0 nx,k0<=g.debts.length/\n=g.debts.length-k0/\tkD i c (g.debts.drop k0)=tkD i c g.debts/\st=⟨mkT [(1,one (.int .i64 i)),(2,one (.int .i64 c)),(3,.val (.one (.ptr 3 0 0))),(12,.val (.one (.sh 4 g.debts.length (aA Oh g.debts)))),(13,one (.int .i64 g.debts.length)),(14,one (.int .i64 k0))],mkH [(3,⟨0,28,2,1,yk g⟩)],nx,0⟩) (g.debts.length) ⟨0,_,by omega,by omega,by rfl,rfl⟩ ?_;rintro n0 st ⟨k0,nx0,hk0,rfl,hL0,rfl⟩;by_cases hlt0:k0<g.debts.length
 ·have hI0:(k0:Int)<(g.debts.length:Int):=by omega
  have hat0:=aO O1 g.debts k0 hlt0;try rw [Nat.mul_one] at hat0
  rw [List.drop_eq_getElem_cons hlt0] at hL0;have hA:=he _ (List.getElem_mem hlt0);generalize g.debts[k0]=d at *
  simp only [tkD] at hL0;refine awN ?_;simp only [F17,seval,yk,hI0];refine awT ?_;refine awK ?_;simp only [F17,seval];refine awN ?_;simp only [F17,seval,hI0,hat0,Oh];repeat refine ob ?_
  refine awN ?_;simp only [F17,seval];refine aQ [1,2,3,12,13,14,19,20,21] [3] ?_;try simp only [ak,F17,seval]
  repeat' first|apply awS|apply awB
  refine aM (fun n st=>∃k1 nx,k1<=d.legs.length/\n=d.legs.length-k1/\tkL i c (d.legs.drop k1)=tkL i c d.legs/\st=⟨mkT [(1,one (.int .i64 i)),(2,one (.int .i64 c)),(3,.val (.one (.ptr 3 0 0))),(12,.val (.one (.sh 4 g.debts.length (aA Oh g.debts)))),(13,one (.int .i64 g.debts.length)),(14,one (.int .i64 k0)),(19,.val (.one (.sh 2 d.legs.length (aA gp d.legs)))),(20,one (.int .i64 d.legs.length)),(21,one (.int .i64 k1))],mkH [(3,⟨0,28,2,1,yk g⟩)],nx,0⟩) (d.legs.length) ⟨0,_,by omega,by omega,by rfl,rfl⟩ ?_;rintro n1 st ⟨k1,nx1,hk1,rfl,hL1,rfl⟩;by_cases hlt1:k1<d.legs.length
  ·have hI1:(k1:Int)<(d.legs.length:Int):=by omega
   have hat1:=aO gt d.legs k1 hlt1;try rw [Nat.mul_one] at hat1
   rw [List.drop_eq_getElem_cons hlt1] at hL1;generalize d.legs[k1]=x at *
   simp only [tkL] at hL1;refine awN ?_;simp only [F17,seval,yk,hI1];refine awT ?_;refine awK ?_;simp only [F17,seval];refine awN ?_;simp only [F17,seval,hI1,hat1,gp];repeat refine ob ?_
   by_cases h1:x.1=i
   ·by_cases h2:x.2=c
    ·refine awR [] [0,0,0,0,0,61,61,61,61,0] ?_;simp only [F17,seval,h1,h2];refine awT ?_;refine awN ?_;simp only [F17,seval];refine awX ?_;(first|(simp only [F17,seval,h1,h2,←hL0,←hL1];done)|(simp only [F17,seval,yk];first|(simp [hI0,hat0,hI1,hat1,h1,h2,←hL0,←hL1];done)|(simp [hI0,hat0,hI1,hat1,h1,h2];done)|(rw [←hL0,←hL1];simp [hI0,hat0,hI1,hat1,h1,h2];done)))
    refine awR [] [0,0,0,0,0,61,61,61,61,0] ?_;simp only [F17,seval,h1,h2];refine awF ?_;refine awK ?_;simp only [F17,seval];refine awN ?_;simp only [F17,seval];repeat refine ob ?_
    refine ⟨_,aI [1,2,3,12,13,14,19,20,21] [3],d.legs.length-(k1+1),by omega,k1+1,?a12_nx,by omega,rfl,?i12_0,?st12⟩;case st12=>(simp only [F17,seval];first|rfl|(simp [Nat.add_mul];done))
    case i12_0=>(first|exact hL1|(rw [←hL1];simp only [reduceIte,h1,h2];done)|(rw [←hL1];simp [hI0,hat0,hI1,hat1,h1,h2];done)|(simp [hI0,hat0,hI1,hat1,h1,h2] at hL1;simpa using hL1)|(rw [←hL1];simp [*];done))
   refine awR [] [0,0,0,0,0,61,61,61,61,0] ?_;simp only [F17,seval,h1];refine awF ?_;refine awK ?_;simp only [F17,seval];refine awN ?_;simp only [F17,seval];repeat refine ob ?_
   refine ⟨_,aI [1,2,3,12,13,14,19,20,21] [3],d.legs.length-(k1+1),by omega,k1+1,?a15_nx,by omega,rfl,?i15_0,?st15⟩;case st15=>(simp only [F17,seval];first|rfl|(simp [Nat.add_mul];done))
   case i15_0=>(first|exact hL1|(rw [←hL1];simp only [reduceIte,h1];done)|(rw [←hL1];simp [hI0,hat0,hI1,hat1,h1];done)|(simp [hI0,hat0,hI1,hat1,h1] at hL1;simpa using hL1)|(rw [←hL1];simp [*];done))
  obtain rfl:k1=d.legs.length:=by omega
  have hI1:¬(d.legs.length:Int)<(d.legs.length:Int):=by omega
  rw [List.drop_length] at hL1;simp only [tkL] at hL1;refine awN ?_;simp only [F17,seval,yk,hI1];refine awF ?_;refine awQ ?_;simp only [F17,seval];refine awN ?_;simp only [F17,seval];repeat refine ob ?_
  refine ⟨_,aI [1,2,3,12,13,14] [3],g.debts.length-(k0+1),by omega,k0+1,?a18_nx,by omega,rfl,?i18_0,?st18⟩;case st18=>(simp only [F17,seval];first|rfl|(simp [Nat.add_mul];done))
  case i18_0=>(first|exact hL0|(rw [←hL0];simp [←hL1];done)|(rw [←hL0];simp only [reduceIte,hI0,hat0,hI1];done)|(rw [←hL0];simp [hI0,hat0,hI1];done)|(simp [hI0,hat0,hI1] at hL0;simpa using hL0)|(rw [←hL0];simp [*];done))
 obtain rfl:k0=g.debts.length:=by omega
 have hI0:¬(g.debts.length:Int)<(g.debts.length:Int):=by omega
 rw [List.drop_length] at hL0;simp only [tkD] at hL0;refine awN ?_;simp only [F17,seval,yk,hI0];refine awF ?_;refine awQ ?_;simp only [F17,seval];refine awN ?_;simp only [F17,seval];refine awX ?_;(first|(simp only [F17,seval,←hL0];done)|(simp only [F17,seval,yk];first|(simp [hI0,←hL0];done)|(simp [hI0];done)|(rw [←hL0];simp [hI0];done)))
end Go.Proofs.YtokmkopihhnggaaGreatDoor
