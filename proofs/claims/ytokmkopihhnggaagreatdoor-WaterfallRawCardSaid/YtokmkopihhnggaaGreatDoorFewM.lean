/- Few: what is short enough for a law; walked by the abstract machine. -/
import Derived.Test.YtokmkopihhnggaaGreatDoorWf6M
import Derived.Test.YtokmkopihhnggaaGreatDoorRw5M
import Derived.Test.YtokmkopihhnggaaGreatDoorVal1M
import Derived.Test.YtokmkopihhnggaaGreatDoorRef10M
set_option linter.unusedVariables false
set_option maxHeartbeats 4000000
set_option linter.unusedSimpArgs false
set_option linter.defProp false
namespace Go.Proofs.YtokmkopihhnggaaGreatDoor
open Go Go.RowKit Go.Proofs.Tryz
def jj (r:GRat):Bool:=decide ((r.num.size:Int)<=24)&&decide ((r.den.size:Int)<=24)
def jD:List GClaim->Bool
 |[]=>true
 |c::l=>if jj c.amount=true then jD l else false
def kM:List GPart->Bool
 |[]=>true
 |c::l=>if jj c.cap=true then kM l else false
def kN:List (List GPart)->Bool
 |[]=>true
 |t::l=>if (30:Int)<(t.length:Int) then false else if kM t=true then kN l else false
def kO:List bR->Bool
 |[]=>true
 |a::l=>if (30:Int)<(a.length:Int) then false else if kN a=true then kO l else false
def eJ (e:GEst):Bool:=if (8:Int)<(e.claims.length:Int) then false else if (4:Int)<(e.agrs.length:Int) then false else if jj e.cash=true then (if jD e.claims=true then kO e.agrs else false) else false
def F24:=And.intro zS (And.intro Es (And.intro IY (And.intro Et (IZ))))
theorem F25:type_of%F24:=F24
theorem iU (r:GRat):aR prog 45 [.agg (ai r)] (one (.bool (jj r))):=by
 refine aP func45 rfl (by decide) (N:=13) rfl (by simp) (R:=[.tmp 2]) rfl fun en k0=>?_
 refine awN ?_;simp only [F25,seval,ai];repeat refine ob ?_
 by_cases h1:(r.num.size:Int)<=24
 ·by_cases h2:(r.den.size:Int)<=24
  ·refine awR [] [0,0,0,0,0,17,17,17,17,0,0] ?_;simp only [F25,seval,h1,h2];repeat refine ob ?_
   refine awX ?_;(first|(simp only [F25,seval,jj,h1,h2];done)|(simp only [F25,seval,ai];first|(simp [jj,h1,h2];done)))
  refine awR [] [0,0,0,0,0,17,17,17,17,0,0] ?_;simp only [F25,seval,h1,h2];repeat refine ob ?_
  refine awX ?_;(first|(simp only [F25,seval,jj,h1,h2];done)|(simp only [F25,seval,ai];first|(simp [jj,h1,h2];done)))
 refine awR [] [0,0,0,0,0,17,17,17,17,0,0] ?_;simp only [F25,seval,h1];repeat refine ob ?_
 refine awX ?_;(first|(simp only [F25,seval,jj,h1];done)|(simp only [F25,seval,ai];first|(simp [jj,h1];done)))
def F26:=And.intro zS (And.intro tf1 (And.intro AW (And.intro vg (And.intro tf6 (And.intro tf2 (And.intro tv (And.intro mN (And.intro tf0 (And.intro tf8 (And.intro vh (And.intro Ge (And.intro pq (And.intro tw (And.intro CF (And.intro xE (And.intro tz (And.intro pr (And.intro tf3 (And.intro vi (And.intro CG (And.intro AU (And.intro cD (And.intro AX (And.intro xF (tf5)))))))))))))))))))))))))
theorem F27:type_of%F26:=F26
theorem xN (e:GEst) (he:y9 e):aR prog 44 [.agg (aJ e)] (one (.bool (eJ e))):=by
 have hn0:=he.2.1.1;have hn1:=he.2.2.1;unfold maxLen at hn0 hn1;refine aP func44 rfl (by decide) (N:=73) rfl (by simp) (R:=[.tmp 2]) rfl fun en k0=>?_
 refine awN ?_;simp only [F27,seval,aJ];repeat refine ob ?_
 by_cases h1:(8:Int)<(e.claims.length:Int)
 ·refine awR [] [0,0,0,0,0,32,32,32,32,0,0,44,44,44,44,0] ?_;simp only [F27,seval,h1];repeat refine ob ?_
  refine awT ?_;refine awN ?_;simp only [F27,seval];repeat refine ob ?_
  refine awX ?_;(first|(simp only [F27,seval,eJ,h1];done)|(simp only [F27,seval,aJ];first|(simp [eJ,h1];done)))
 by_cases h2:(4:Int)<(e.agrs.length:Int)
 ·refine awR [] [0,0,0,0,0,32,32,32,32,0,0,44,44,44,44,0] ?_;simp only [F27,seval,h1,h2];repeat refine ob ?_
  refine awT ?_;refine awN ?_;simp only [F27,seval];repeat refine ob ?_
  refine awX ?_;(first|(simp only [F27,seval,eJ,h1,h2];done)|(simp only [F27,seval,aJ];first|(simp [eJ,h1,h2];done)))
 by_cases h3:jj e.cash=true
 ·refine awR [] [0,0,0,0,0,32,32,32,32,0,0,44,44,44,44,0] ?_;simp only [F27,seval,h1,h2];repeat refine ob ?_
  refine ⟨_,iU e.cash,rfl,?_⟩;simp only [ak,F27,seval,h3];repeat refine ob ?_
  refine awF ?_;refine awK ?_;simp only [F27,seval];refine Ek (M:=fun st=>∃nx,jD e.claims=true/\st=⟨mkT [(1,.val (.one (.ptr 1 0 0)))],mkH [(1,⟨0,36,5,1,aJ e⟩)],nx,0⟩) ?_ ?_
  ·refine awN ?_;simp only [F27,seval,aJ];repeat refine ob ?_
   refine aQ [1,28,29,30] [1] ?_;simp only [F27,seval];repeat' first|apply awS|apply awB
   refine aM (fun n st=>∃k0 nx,k0<=e.claims.length/\n=e.claims.length-k0/\jD (e.claims.drop k0)=jD e.claims/\st=⟨mkT [(1,.val (.one (.ptr 1 0 0))),(28,.val (.one (.sh 5 e.claims.length (aA b0 e.claims)))),(29,one (.int .i64 e.claims.length)),(30,one (.int .i64 k0))],mkH [(1,⟨0,36,5,1,aJ e⟩)],nx,0⟩) (e.claims.length) ⟨0,_,by omega,by omega,by rfl,rfl⟩ ?_;rintro n0 st ⟨k0,nx0,hk0,rfl,hL0,rfl⟩;by_cases hlt0:k0<e.claims.length
   ·have hI0:(k0:Int)<(e.claims.length:Int):=by omega
    have hat0:=aO cK e.claims k0 hlt0;try rw [Nat.mul_one] at hat0
    rw [List.drop_eq_getElem_cons hlt0] at hL0;generalize e.claims[k0]=c at *
    simp only [jD] at hL0;refine awN ?_;simp only [F27,seval,aJ,hI0];repeat refine ob ?_
    refine awT ?_;refine awK ?_;simp only [F27,seval];refine awN ?_;simp only [F27,seval,hI0,hat0,b0];repeat refine ob ?_
    by_cases h4:jj c.amount=true
    ·refine awN ?_;simp only [F27,seval];repeat refine ob ?_
     refine ⟨_,iU c.amount,rfl,?_⟩;simp only [ak,F27,seval,h4];repeat refine ob ?_
     refine awF ?_;refine awK ?_;simp only [F27,seval];refine awN ?_;simp only [F27,seval];repeat refine ob ?_
     repeat refine ob ?_
     refine ⟨_,aI [1,28,29,30] [1],e.claims.length-(k0+1),by omega,k0+1,?a13_nx,by omega,rfl,?i13_0,?st13⟩;case st13=>(simp only [F27,seval];first|rfl|(simp [Nat.add_mul];done))
     case i13_0=>(first|exact hL0|(rw [←hL0];simp only [reduceIte,h4];done)|(rw [←hL0];simp [h1,h2,h3,hI0,hat0,h4];done)|(simp [h1,h2,h3,hI0,hat0,h4] at hL0;simpa using hL0)|(rw [←hL0];simp [*];done))
    refine awN ?_;simp only [F27,seval];repeat refine ob ?_
    refine ⟨_,iU c.amount,rfl,?_⟩;simp only [ak,F27,seval,h4];repeat refine ob ?_
    refine awT ?_;refine awN ?_;simp only [F27,seval];repeat refine ob ?_
    refine awX ?_;(first|(simp only [F27,seval,eJ,h1,h2,h3,h4,←hL0];done)|(simp only [F27,seval,aJ];first|(simp [eJ,h1,h2,h3,hI0,hat0,h4,←hL0];done)|(simp [eJ,h1,h2,h3,hI0,hat0,h4];done)|(rw [←hL0];simp [eJ,h1,h2,h3,hI0,hat0,h4];done)))
   obtain rfl:k0=e.claims.length:=by omega
   have hI0:¬(e.claims.length:Int)<(e.claims.length:Int):=by omega
   rw [List.drop_length] at hL0;simp only [jD] at hL0;refine awN ?_;simp only [F27,seval,aJ,hI0];repeat refine ob ?_
   refine awF ?_;refine awQ ?_;simp only [F27,seval];refine ⟨_,aI [1] [1],?c18_0,?ci18_0,?cs18⟩;case cs18=>(simp only [F27,seval];rfl)
   case ci18_0=>(first|assumption|omega|(rw [←hL0];done)|(rw [hL0];done)|exact hL0.symm|(simp [←hL0];done))
  rintro st ⟨nxc0,hC0,rfl⟩;refine awN ?_;simp only [F27,seval,aJ];repeat refine ob ?_
  refine aQ [1,40,41,42] [1] ?_;simp only [F27,seval];repeat' first|apply awS|apply awB
  refine aM (fun n st=>∃k1 nx,k1<=e.agrs.length/\n=e.agrs.length-k1/\kO (e.agrs.drop k1)=kO e.agrs/\st=⟨mkT [(1,.val (.one (.ptr 1 0 0))),(40,.val (.one (.sh 1 e.agrs.length (aA bu e.agrs)))),(41,one (.int .i64 e.agrs.length)),(42,one (.int .i64 k1))],mkH [(1,⟨0,36,5,1,aJ e⟩)],nx,0⟩) (e.agrs.length) ⟨0,_,by omega,by omega,by rfl,rfl⟩ ?_;rintro n1 st ⟨k1,nx1,hk1,rfl,hL1,rfl⟩;by_cases hlt1:k1<e.agrs.length
  ·have hI1:(k1:Int)<(e.agrs.length:Int):=by omega
   have hat1:=aO gI e.agrs k1 hlt1;try rw [Nat.mul_one] at hat1
   rw [List.drop_eq_getElem_cons hlt1] at hL1;have hA:=he.2.2.2 _ (List.getElem_mem hlt1);have hn2:=hA.1;unfold maxLen at hn2;generalize e.agrs[k1]=a at *
   simp only [kO] at hL1;refine awN ?_;simp only [F27,seval,aJ,hI1];repeat refine ob ?_
   refine awT ?_;refine awK ?_;simp only [F27,seval];refine awN ?_;simp only [F27,seval,hI1,hat1,bu];repeat refine ob ?_
   by_cases h5:(30:Int)<(a.length:Int)
   ·refine awN ?_;simp only [F27,seval,h5];repeat refine ob ?_
    refine awT ?_;refine awN ?_;simp only [F27,seval];repeat refine ob ?_
    refine awX ?_;(first|(simp only [F27,seval,eJ,h1,h2,h3,hC0,h5,←hL1];done)|(simp only [F27,seval,aJ];first|(simp [eJ,h1,h2,h3,hC0,hI1,hat1,h5,←hL1];done)|(simp [eJ,h1,h2,h3,hC0,hI1,hat1,h5];done)|(rw [←hL1];simp [eJ,h1,h2,h3,hC0,hI1,hat1,h5];done)))
   refine awN ?_;simp only [F27,seval,h5];repeat refine ob ?_
   refine awF ?_;refine awK ?_;simp only [F27,seval];refine awN ?_;simp only [F27,seval];repeat refine ob ?_
   refine aQ [1,40,41,42,51,52,53] [1] ?_;simp only [F27,seval];repeat' first|apply awS|apply awB
   refine aM (fun n st=>∃k2 nx,k2<=a.length/\n=a.length-k2/\kN (a.drop k2)=kN a/\st=⟨mkT [(1,.val (.one (.ptr 1 0 0))),(40,.val (.one (.sh 1 e.agrs.length (aA bu e.agrs)))),(41,one (.int .i64 e.agrs.length)),(42,one (.int .i64 k1)),(51,.val (.one (.sh 1 a.length (aA bD a)))),(52,one (.int .i64 a.length)),(53,one (.int .i64 k2))],mkH [(1,⟨0,36,5,1,aJ e⟩)],nx,0⟩) (a.length) ⟨0,_,by omega,by omega,by rfl,rfl⟩ ?_;rintro n2 st ⟨k2,nx2,hk2,rfl,hL2,rfl⟩;by_cases hlt2:k2<a.length
   ·have hI2:(k2:Int)<(a.length:Int):=by omega
    have hat2:=aO eA a k2 hlt2;try rw [Nat.mul_one] at hat2
    rw [List.drop_eq_getElem_cons hlt2] at hL2;have hn3:=(hA.2 _ (List.getElem_mem hlt2)).1;unfold maxLen at hn3;generalize a[k2]=t at *
    simp only [kN] at hL2;refine awN ?_;simp only [F27,seval,aJ,hI2];repeat refine ob ?_
    refine awT ?_;refine awK ?_;simp only [F27,seval];refine awN ?_;simp only [F27,seval,hI2,hat2,bD];repeat refine ob ?_
    by_cases h6:(30:Int)<(t.length:Int)
    ·refine awN ?_;simp only [F27,seval,h6];repeat refine ob ?_
     refine awT ?_;refine awN ?_;simp only [F27,seval];repeat refine ob ?_
     refine awX ?_;(first|(simp only [F27,seval,eJ,h1,h2,h3,hC0,h5,h6,←hL1,←hL2];done)|(simp only [F27,seval,aJ];first|(simp [eJ,h1,h2,h3,hC0,hI1,hat1,h5,hI2,hat2,h6,←hL1,←hL2];done)|(simp [eJ,h1,h2,h3,hC0,hI1,hat1,h5,hI2,hat2,h6];done)|(rw [←hL1,←hL2];simp [eJ,h1,h2,h3,hC0,hI1,hat1,h5,hI2,hat2,h6];done)))
    refine awN ?_;simp only [F27,seval,h6];repeat refine ob ?_
    refine awF ?_;refine awK ?_;simp only [F27,seval];refine awN ?_;simp only [F27,seval];repeat refine ob ?_
    refine aQ [1,40,41,42,51,52,53,60,61,62] [1] ?_;simp only [F27,seval];repeat' first|apply awS|apply awB
    refine aM (fun n st=>∃k3 nx,k3<=t.length/\n=t.length-k3/\kM (t.drop k3)=kM t/\st=⟨mkT [(1,.val (.one (.ptr 1 0 0))),(40,.val (.one (.sh 1 e.agrs.length (aA bu e.agrs)))),(41,one (.int .i64 e.agrs.length)),(42,one (.int .i64 k1)),(51,.val (.one (.sh 1 a.length (aA bD a)))),(52,one (.int .i64 a.length)),(53,one (.int .i64 k2)),(60,.val (.one (.sh 5 t.length (aA bT t)))),(61,one (.int .i64 t.length)),(62,one (.int .i64 k3))],mkH [(1,⟨0,36,5,1,aJ e⟩)],nx,0⟩) (t.length) ⟨0,_,by omega,by omega,by rfl,rfl⟩ ?_;rintro n3 st ⟨k3,nx3,hk3,rfl,hL3,rfl⟩;by_cases hlt3:k3<t.length
    ·have hI3:(k3:Int)<(t.length:Int):=by omega
     have hat3:=aO eX t k3 hlt3;try rw [Nat.mul_one] at hat3
     rw [List.drop_eq_getElem_cons hlt3] at hL3;generalize t[k3]=p at *
     simp only [kM] at hL3;refine awN ?_;simp only [F27,seval,aJ,hI3];repeat refine ob ?_
     refine awT ?_;refine awK ?_;simp only [F27,seval];refine awN ?_;simp only [F27,seval,hI3,hat3,bT];repeat refine ob ?_
     by_cases h7:jj p.cap=true
     ·refine awN ?_;simp only [F27,seval];repeat refine ob ?_
      refine ⟨_,iU p.cap,rfl,?_⟩;simp only [ak,F27,seval,h7];repeat refine ob ?_
      refine awF ?_;refine awK ?_;simp only [F27,seval];refine awN ?_;simp only [F27,seval];repeat refine ob ?_
      repeat refine ob ?_
      refine ⟨_,aI [1,40,41,42,51,52,53,60,61,62] [1],t.length-(k3+1),by omega,k3+1,?a38_nx,by omega,rfl,?i38_0,?st38⟩;case st38=>(simp only [F27,seval];first|rfl|(simp [Nat.add_mul];done))
      case i38_0=>(first|exact hL3|(rw [←hL3];simp only [reduceIte,h7];done)|(rw [←hL3];simp [h1,h2,h3,hC0,hI1,hat1,h5,hI2,hat2,h6,hI3,hat3,h7];done)|(simp [h1,h2,h3,hC0,hI1,hat1,h5,hI2,hat2,h6,hI3,hat3,h7] at hL3;simpa using hL3)|(rw [←hL3];simp [*];done))
     refine awN ?_;simp only [F27,seval];repeat refine ob ?_
     refine ⟨_,iU p.cap,rfl,?_⟩;simp only [ak,F27,seval,h7];repeat refine ob ?_
     refine awT ?_;refine awN ?_;simp only [F27,seval];repeat refine ob ?_
     refine awX ?_;(first|(simp only [F27,seval,eJ,h1,h2,h3,hC0,h5,h6,h7,←hL1,←hL2,←hL3];done)|(simp only [F27,seval,aJ];first|(simp [eJ,h1,h2,h3,hC0,hI1,hat1,h5,hI2,hat2,h6,hI3,hat3,h7,←hL1,←hL2,←hL3];done)|(simp [eJ,h1,h2,h3,hC0,hI1,hat1,h5,hI2,hat2,h6,hI3,hat3,h7];done)|(rw [←hL1,←hL2,←hL3];simp [eJ,h1,h2,h3,hC0,hI1,hat1,h5,hI2,hat2,h6,hI3,hat3,h7];done)))
    obtain rfl:k3=t.length:=by omega
    have hI3:¬(t.length:Int)<(t.length:Int):=by omega
    rw [List.drop_length] at hL3;simp only [kM] at hL3;refine awN ?_;simp only [F27,seval,aJ,hI3];repeat refine ob ?_
    refine awF ?_;refine awQ ?_;simp only [F27,seval];refine awN ?_;simp only [F27,seval];repeat refine ob ?_
    repeat refine ob ?_
    refine ⟨_,aI [1,40,41,42,51,52,53] [1],a.length-(k2+1),by omega,k2+1,?a44_nx,by omega,rfl,?i44_0,?st44⟩;case st44=>(simp only [F27,seval];first|rfl|(simp [Nat.add_mul];done))
    case i44_0=>(first|exact hL2|(rw [←hL2];simp only [reduceIte,h6];done)|(rw [←hL2];simp [h6];done)|(simp [h6] at hL2;simpa using hL2)|(rw [←hL2];simp [*];done))
   obtain rfl:k2=a.length:=by omega
   have hI2:¬(a.length:Int)<(a.length:Int):=by omega
   rw [List.drop_length] at hL2;simp only [kN] at hL2;refine awN ?_;simp only [F27,seval,aJ,hI2];repeat refine ob ?_
   refine awF ?_;refine awQ ?_;simp only [F27,seval];refine awN ?_;simp only [F27,seval];repeat refine ob ?_
   repeat refine ob ?_
   refine ⟨_,aI [1,40,41,42] [1],e.agrs.length-(k1+1),by omega,k1+1,?a47_nx,by omega,rfl,?i47_0,?st47⟩;case st47=>(simp only [F27,seval];first|rfl|(simp [Nat.add_mul];done))
   case i47_0=>(first|exact hL1|(rw [←hL1];simp only [reduceIte,h5];done)|(rw [←hL1];simp [h5];done)|(simp [h5] at hL1;simpa using hL1)|(rw [←hL1];simp [*];done))
  obtain rfl:k1=e.agrs.length:=by omega
  have hI1:¬(e.agrs.length:Int)<(e.agrs.length:Int):=by omega
  rw [List.drop_length] at hL1;simp only [kO] at hL1;refine awN ?_;simp only [F27,seval,aJ,hI1];repeat refine ob ?_
  refine awF ?_;refine awQ ?_;simp only [F27,seval];refine awN ?_;simp only [F27,seval];repeat refine ob ?_
  refine awX ?_;(first|(simp only [F27,seval,eJ,h1,h2,h3,hC0,←hL1];done)|(simp only [F27,seval,aJ];first|(simp [eJ,h1,h2,h3,hC0,hI1,←hL1];done)|(simp [eJ,h1,h2,h3,hC0,hI1];done)|(rw [←hL1];simp [eJ,h1,h2,h3,hC0,hI1];done)))
 refine awR [] [0,0,0,0,0,32,32,32,32,0,0,44,44,44,44,0] ?_;simp only [F27,seval,h1,h2];repeat refine ob ?_
 refine ⟨_,iU e.cash,rfl,?_⟩;simp only [ak,F27,seval,h3];repeat refine ob ?_
 refine awT ?_;refine awN ?_;simp only [F27,seval];repeat refine ob ?_
 refine awX ?_;(first|(simp only [F27,seval,eJ,h1,h2,h3];done)|(simp only [F27,seval,aJ];first|(simp [eJ,h1,h2,h3];done)))
theorem tI {r:GRat} (h:jj r=true):jh r:=by
 simp only [jj,Bool.and_eq_true,decide_eq_true_eq] at h;unfold jh;omega
theorem vC:∀{l:List GClaim},jD l=true->∀c∈l,jh c.amount
 |[],_,c,hc=>by cases hc
 |a::l,h,c,hc=>by
  simp only [jD] at h;split at h
  ·rcases List.mem_cons.1 hc with rfl|hc
   ·exact tI ‹_›
   exact vC h c hc
  cases h
theorem vD:∀{l:List GPart},kM l=true->∀c∈l,jh c.cap
 |[],_,c,hc=>by cases hc
 |a::l,h,c,hc=>by
  simp only [kM] at h;split at h
  ·rcases List.mem_cons.1 hc with rfl|hc
   ·exact tI ‹_›
   exact vD h c hc
  cases h
theorem vE:∀{l:List (List GPart)},kN l=true->∀t∈l,t.length<=30/\∀p∈t,jh p.cap
 |[],_,c,hc=>by cases hc
 |a::l,h,c,hc=>by
  simp only [kN] at h;split at h
  ·cases h
  split at h
  ·rcases List.mem_cons.1 hc with rfl|hc
   ·exact ⟨by omega,vD ‹_›⟩
   exact vE h c hc
  cases h
theorem vF:∀{l:List bR},kO l=true->∀a∈l,a.length<=30/\∀t∈a,t.length<=30/\∀p∈t,jh p.cap
 |[],_,c,hc=>by cases hc
 |a::l,h,c,hc=>by
  simp only [kO] at h;split at h
  ·cases h
  split at h
  ·rcases List.mem_cons.1 hc with rfl|hc
   ·exact ⟨by omega,vE ‹_›⟩
   exact vF h c hc
  cases h
theorem zd {e:GEst} (h:eJ e=true):jC e:=by
 simp only [eJ] at h;split at h
 ·cases h
 split at h
 ·cases h
 split at h
 ·split at h
  ·have h1:=vF h;refine ⟨⟨tI ‹_›,vC ‹_›,by omega,fun a ha=>⟨fun t ht=>?_,fun p hp=>?_⟩⟩,fun a ha=>?_⟩
   ·have:=((h1 a ha).2 t ht).1;omega
   ·obtain ⟨t,ht,hp⟩:=List.mem_flatten.1 hp;exact ((h1 a ha).2 t ht).2 p hp
   have:=(h1 a ha).1;omega
  cases h
 cases h
theorem EG (r1 r2:GRat) (m n:Nat) (h1:sB m r1) (h2:sB n r2) (hm:m<=100000000000) (hn:n<=100000000000) (hm0:0<m) (hn0:0<n):aR prog 31 [.agg (ai r1),.agg (ai r2)] (.val (.agg (ai (enc (qOf r1+qOf r2))))):=
 bj (ch func31 (by decide) (by kernel_rfl)) [aF r1,aF r2] (aF (enc (qOf r1+qOf r2))) fun w=>CA r1 r2 m n w h1 h2 hm hn hm0 hn0
theorem I6 (r1 r2:GRat) (m n:Nat) (h1:sB m r1) (h2:sB n r2) (hm:m<=100000000000) (hn:n<=100000000000) (hm0:0<m) (hn0:0<n):aR prog 39 [.agg (ai r1),.agg (ai r2)] (.val (.agg (ai (enc (qOf r1-qOf r2))))):=
 bj (ch func39 (by decide) (by kernel_rfl)) [aF r1,aF r2] (aF (enc (qOf r1-qOf r2))) fun w=>qR r1 r2 m n w h1 h2 hm hn hm0 hn0
theorem I7 (r1 r2:GRat) (m n:Nat) (h1:sB m r1) (h2:sB n r2) (hm:m<=100000000000) (hn:n<=100000000000) (hm0:0<m) (hn0:0<n):aR prog 38 [.agg (ai r1),.agg (ai r2)] (.val (.agg (ai (enc (qOf r1*qOf r2))))):=
 bj (ch func38 (by decide) (by kernel_rfl)) [aF r1,aF r2] (aF (enc (qOf r1*qOf r2))) fun w=>qS r1 r2 m n w h1 h2 hm hn hm0 hn0
theorem Ij (r1 r2:GRat) (m n:Nat) (h1:sB m r1) (h2:sB n r2) (hm:m<=100000000000) (hn:n<=100000000000) (hm0:0<m) (hn0:0<n):aR prog 36 [.agg (ai r1),.agg (ai r2)] (.val (.agg (ai (enc (bC (qOf r1) (qOf r2)))))):=
 bj (ch func36 (by decide) (by kernel_rfl)) [aF r1,aF r2] (aF (enc (bC (qOf r1) (qOf r2)))) fun w=>CC r1 r2 m n w h1 h2 hm hn hm0 hn0
theorem I8 (r1 r2:GRat) (m n:Nat) (h1:sB m r1) (h2:sB n r2) (hm:m<=100000000000) (hn:n<=100000000000) (hm0:0<m) (hn0:0<n):aR prog 133 [.agg (ai r1),.agg (ai r2)] (.val (.agg (ai (enc (nW (qOf r1) (qOf r2)))))):=
 bj (ch func133 (by decide) (by kernel_rfl)) [aF r1,aF r2] (aF (enc (nW (qOf r1) (qOf r2)))) fun w=>CB r1 r2 m n w h1 h2 hm hn hm0 hn0
theorem Ik (n:Int) (h0: -9223372036854775808<=n) (h1:n<=9223372036854775807):aR prog 52 [.one (.lit (.int .i64 n))] (.val (.agg (ai (enc (n:Rat))))):=
 bj (ch func52 (by decide) (by kernel_rfl)) [.int .i64 n] (aF (enc (n:Rat))) fun w=>Cv n w h0 h1
theorem l7 (p q:Rat) (m n:Nat) (hp:qB m p) (hq:qB n q) (hm:m<=100000000000) (hn:n<=100000000000):aR prog 150 [.agg (ai (enc p)),.agg (ai (enc q))] (.val (.agg (ai (enc (p+q))))):=
 bj (ch func150 (by decide) (by kernel_rfl)) [aF (enc p),aF (enc q)] (aF (enc (p+q))) fun w=>rI p q m n w hp hq hm hn
theorem pC (p q:Rat) (m n:Nat) (hp:qB m p) (hq:qB n q) (hm:m<=100000000000) (hn:n<=100000000000):aR prog 224 [.agg (ai (enc p)),.agg (ai (enc q))] (.val (.agg (ai (enc (p-q))))):=
 bj (ch func224 (by decide) (by kernel_rfl)) [aF (enc p),aF (enc q)] (aF (enc (p-q))) fun w=>pe p q m n w hp hq hm hn
theorem zj (p q:Rat) (m n:Nat) (hp:qB m p) (hq:qB n q) (hm:m<=100000000000) (hn:n<=100000000000):aR prog 221 [.agg (ai (enc p)),.agg (ai (enc q))] (one (.bool (decide (p<q)))):=
 bj (ch func221 (by decide) (by kernel_rfl)) [aF (enc p),aF (enc q)] (.bool (decide (p<q))) fun w=>rJ p q m n w hp hq hm hn
theorem EH (p q:Rat) (m n:Nat) (hp:qB m p) (hq:qB n q) (hm:m<=100000000000) (hn:n<=100000000000):aR prog 220 [.agg (ai (enc p)),.agg (ai (enc q))] (.val (.agg (ai (enc (bC p q))))):=
 bj (ch func220 (by decide) (by kernel_rfl)) [aF (enc p),aF (enc q)] (aF (enc (bC p q))) fun w=>uW p q m n w hp hq hm hn
theorem I9 (r:GRat) (h1:r.num.size<=500000000000) (h2:r.den.size<=500000000000):aR prog 116 [.agg (ai r)] (.val (.agg (ai (enc (qOf r))))):=
 bj (ch func116 (by decide) (by kernel_rfl)) [aF r] (aF (enc (qOf r))) fun w=>pj r w h1 h2
abbrev WP:=Int×Rat
abbrev WT:=List WP
def av:WT->Rat
 |[]=>0
 |p::t=>p.2+av t
theorem dQ:∀(t:WT) (p:WP),av (t++[p])=av t+p.2
 |[],p=>by simp only [List.nil_append,av];grind
 |x::t,p=>by simp only [List.cons_append,av,dQ t p];grind
def aG:List WT->Rat->Nat×Rat
 |[],m=>(0,m)
 |t::l,m=>if m<av t then (0,m) else ((aG l (m-av t)).1+1,(aG l (m-av t)).2)
theorem kc:∀(l:List WT) (m:Rat),(aG l m).1<=l.length
 |[],_=>Nat.le_refl _
 |t::l,m=>by
  simp only [aG];split
  ·exact Nat.zero_le _
  have:=kc l (m-av t);simpa using this
theorem pD:∀(l:List WT) (m:Rat),0<=m->0<=(aG l m).2/\∀h:(aG l m).1<l.length,(aG l m).2<av l[(aG l m).1]
 |[],m,h=>⟨h,fun h=>absurd h (by simp)⟩
 |t::l,m,h=>by
  by_cases hm:m<av t
  ·simp only [aG,hm,if_true];exact ⟨h,fun _=>hm⟩
  have h1:=pD l (m-av t) (by grind);simp only [aG,hm,if_false];refine ⟨h1.1,fun h2=>?_⟩;have h3:=h1.2 (by simpa using h2);simpa using h3
structure WR where
 cl:List Rat
 rv:Rat
def WR.add (R:WR) (c:Int) (a:Rat):WR:=if c= -1 then ⟨R.cl,R.rv+a⟩ else ⟨R.cl.set c.toNat (R.cl.getD c.toNat 0+a),R.rv⟩
def eK (q:Rat):WT->WR->WR
 |[],R=>R
 |p::t,R=>eK q t (R.add p.1 (p.2*q))
def gV:WT->WR->WR
 |[],R=>R
 |p::t,R=>gV t (R.add p.1 p.2)
def fE:List WT->WR->WR
 |[],R=>R
 |t::l,R=>fE l (gV t R)
def dU (l:List WT) (k:Nat) (a:Rat) (R:WR):WR:=if k<l.length then eK (a/av (l.getD k [])) (l.getD k []) R else R
def gJ (l:List WT) (m:Rat) (R:WR):WR:=dU l (aG l m).1 (aG l m).2 (fE (l.take (aG l m).1) R)
theorem bU (R:WR) (c:Int) (a:Rat):(R.add c a).cl.length=R.cl.length:=by
 unfold WR.add;split<;>simp
theorem vG (q:Rat):∀(t:WT) (R:WR),(eK q t R).cl.length=R.cl.length
 |[],_=>rfl
 |p::t,R=>by rw [eK,vG q t,bU]
theorem mR:∀(t:WT) (R:WR),(gV t R).cl.length=R.cl.length
 |[],_=>rfl
 |p::t,R=>by rw [gV,mR t,bU]
theorem pE:∀(l:List WT) (R:WR),(fE l R).cl.length=R.cl.length
 |[],_=>rfl
 |t::l,R=>by rw [fE,pE l,mR]
theorem pF (l:List WT) (k:Nat) (a:Rat) (R:WR):(dU l k a R).cl.length=R.cl.length:=by
 unfold dU;split
 ·exact vG _ _ _
 rfl
theorem l8 (l:List WT) (m:Rat) (R:WR):(gJ l m R).cl.length=R.cl.length:=by
 unfold gJ;rw [pF,pE]
def wN:List WT->Nat
 |[]=>0
 |t::l=>t.length+wN l
theorem iV:∀(l m:List WT),wN (l++m)=wN l+wN m
 |[],m=>by simp [wN]
 |t::l,m=>by simp only [List.cons_append,wN,iV l m];omega
theorem iW {K:Nat}:∀(t:WT),(∀p∈t,qB K p.2)->qB (1+t.length*(K+1)) (av t)
 |[],_=>by simpa [av] using bW
 |p::t,h=>by
  have h1:=iW t fun x hx=>h x (by simp [hx])
  have h2:=(h p (by simp)).add h1;refine h2.mono ?_;simp only [List.length_cons,Nat.add_mul,Nat.one_mul];omega
def WR.B (n:Nat) (R:WR):Prop:=(∀x∈R.cl,qB n x)/\qB n R.rv
theorem WR.B.mono {m n:Nat} {R:WR} (h:R.B m) (hm:m<=n):R.B n:=⟨fun x hx=>(h.1 x hx).mono hm,h.2.mono hm⟩
theorem l9 {n:Nat} {l:List Rat} (h:∀x∈l,qB n x) (hn:0<n) (i:Nat):qB n (l.getD i 0):=by
 rw [List.getD_eq_getElem?_getD];cases hx:l[i]? with
 |none=>exact bW.mono hn
 |some e=>exact h e (List.mem_of_getElem? hx)
theorem WR.B.pos {n:Nat} {R:WR} (h:R.B n):0<n:=h.2.pos
theorem eE {n z:Nat} {R:WR} (h:R.B n) (c:Int) {a:Rat} (ha:qB z a):(R.add c a).B (n+(z+1)):=by
 unfold WR.add;have h0:=h.pos;split
 ·exact ⟨fun x hx=>(h.1 x hx).mono (by omega),(h.2.add ha).mono (by omega)⟩
 refine ⟨fun x hx=>?_,h.2.mono (by omega)⟩;rcases List.mem_or_eq_of_mem_set hx with h1|rfl
 ·exact (h.1 x h1).mono (by omega)
 exact ((l9 h.1 h0 _).add ha).mono (by omega)
theorem xO {z:Nat} (q:Rat):∀(t:WT) (R:WR) (n:Nat),R.B n->(∀p∈t,qB z (p.2*q))->(eK q t R).B (n+t.length*(z+1))
 |[],R,n,h,_=>by simpa [eK] using h
 |p::t,R,n,h,hz=>by
  have h1:=xO q t _ _ (eE h p.1 (hz p (by simp))) fun x hx=>hz x (by simp [hx])
  refine h1.mono ?_;simp only [List.length_cons,Nat.add_mul,Nat.one_mul];omega
theorem zm {z:Nat}:∀(t:WT) (R:WR) (n:Nat),R.B n->(∀p∈t,qB z p.2)->(gV t R).B (n+t.length*(z+1))
 |[],R,n,h,_=>by simpa [gV] using h
 |p::t,R,n,h,hz=>by
  have h1:=zm t _ _ (eE h p.1 (hz p (by simp))) fun x hx=>hz x (by simp [hx])
  refine h1.mono ?_;simp only [List.length_cons,Nat.add_mul,Nat.one_mul];omega
theorem vH {z:Nat}:∀(l:List WT) (R:WR) (n:Nat),R.B n->(∀t∈l,∀p∈t,qB z p.2)->(fE l R).B (n+wN l*(z+1))
 |[],R,n,h,_=>by simpa [fE,wN] using h
 |t::l,R,n,h,hz=>by
  have h1:=vH l _ _ (zm t R n h (hz t (by simp))) fun x hx=>hz x (by simp [hx])
  refine h1.mono ?_;simp only [wN,Nat.add_mul];omega
theorem jE {S:Nat}:∀(l:List WT) (m:Rat) (M:Nat),(∀t∈l,qB S (av t))->qB M m->qB (M+l.length*(S+1)) (aG l m).2
 |[],m,M,_,h=>by simpa [aG] using h
 |t::l,m,M,hS,h=>by
  simp only [aG];split
  ·exact h.mono (by omega)
  have h1:=jE l (m-av t) (M+S+1) (fun x hx=>hS x (by simp [hx])) (h.sub (hS t (by simp)));refine h1.mono ?_;simp only [List.length_cons,Nat.add_mul,Nat.one_mul];omega
theorem qB.inv {n:Nat} {q:Rat} (h:qB n q):qB n q⁻¹:=by
 have hp:=h.pos;by_cases h0:q=0
 ·subst h0;rw [Rat.inv_zero];exact h
 have h1:q⁻¹=mkRat (sg (bc q) q.den) q.num.natAbs:=by
  have h2:=yT (p:=1) h0;rw [Rat.div_def,Rat.one_mul] at h2;rw [h2];have e1:bc 1=false:=by unfold bc;simp
  rw [e1];simp
 rw [h1];refine lU ?_ h.1 hp;rw [fC];exact h.2
theorem qB.div {m n:Nat} {p q:Rat} (hp:qB m p) (hq:qB n q):qB (m+n) (p/q):=by
 rw [Rat.div_def];exact hp.mul hq.inv
def wOK (K S:Nat) (l:List WT):Prop:=l.length<=1000/\∀t∈l,t.length<=1000/\qB S (av t)/\∀p∈t,qB K p.2
theorem vI (l:List WT) (k:Nat) (h:k<l.length):wN (l.take k)+(l[k]).length<=wN l:=by
 have h1:=iV (l.take k) (l.drop k);rw [List.take_append_drop,List.drop_eq_getElem_cons h] at h1;simp only [wN] at h1;omega
theorem CX {K S M n:Nat} {l:List WT} (h:wOK K S l) {m:Rat} (hm:qB M m) {R:WR} (hR:R.B n):(gJ l m R).B (n+wN l*(K+(M+l.length*(S+1))+S+1)):=by
 have h1:=jE l m M (fun t ht=>(h.2 t ht).2.1) hm;have h2:=vH (l.take (aG l m).1) R n hR fun t ht=>(h.2 t (List.mem_of_mem_take ht)).2.2
 have h3:wN (l.take (aG l m).1)<=wN l:=by
  have:=iV (l.take (aG l m).1) (l.drop (aG l m).1);rw [List.take_append_drop] at this;omega
 unfold gJ dU;generalize hZ:K+(M+l.length*(S+1))+S=Z at *
 have h4:wN (l.take (aG l m).1)*(K+1)<=wN (l.take (aG l m).1)*(Z+1):=Nat.mul_le_mul_left _ (by omega);split
 ·rename_i hk;have hN:=vI l _ hk;have hgd:l.getD (aG l m).1 []=l[(aG l m).1]:=by rw [List.getD_eq_getElem?_getD,List.getElem?_eq_getElem hk];rfl
  have hmem:l.getD (aG l m).1 []∈l:=by rw [hgd];exact List.getElem_mem hk
  rw [←hgd] at hN;have h5:=h.2 _ hmem;generalize l.getD (aG l m).1 []=t at *
  have h6:=xO (z:=Z) ((aG l m).2/av t) t _ _ h2 fun p hp=>((h5.2.2 p hp).mul (h1.div h5.2.1)).mono (by omega)
  have h7:(wN (l.take (aG l m).1)+t.length)*(Z+1)<=wN l*(Z+1):=Nat.mul_le_mul_right _ hN;rw [Nat.add_mul] at h7;exact h6.mono (by omega)
 have h8:wN (l.take (aG l m).1)*(Z+1)<=wN l*(Z+1):=Nat.mul_le_mul_right _ h3;exact h2.mono (by omega)
noncomputable def wRk (r:Int):List GClaim->Nat->WT
 |[],_=>[]
 |c::l,i=>if c.rank=r then ((i:Int),qOf c.amount)::wRk r l (i+1) else wRk r l (i+1)
noncomputable def aC (cs:List GClaim):List WT:=(List.range 8).map fun r:Nat=>wRk (r:Int) cs 0
noncomputable def cn:List GClaim->Rat
 |[]=>0
 |c::l=>qOf c.amount+cn l
noncomputable def cp (rest:List Rat) (x:GPart):List Rat×Rat:=
 if x.claim= -1 then (rest,qOf x.cap) else
  (rest.set x.claim.toNat (rest.getD x.claim.toNat 0-if x.capped=true then bC (rest.getD x.claim.toNat 0) (qOf x.cap) else rest.getD x.claim.toNat 0),
   if x.capped=true then bC (rest.getD x.claim.toNat 0) (qOf x.cap) else rest.getD x.claim.toNat 0)
noncomputable def b8:List GPart->List Rat->List Rat×WT
 |[],rest=>(rest,[])
 |x::l,rest=>((b8 l (cp rest x).1).1,(x.claim,(cp rest x).2)::(b8 l (cp rest x).1).2)
noncomputable def bb:List (List GPart)->List Rat->List Rat×List WT
 |[],rest=>(rest,[])
 |t::a,rest=>((bb a (b8 t rest).1).1,(b8 t rest).2::(bb a (b8 t rest).1).2)
def dG (M:List Int) (rest:List Rat):WT:=M.map fun i=>(i,rest.getD i.toNat 0)
abbrev bX:=List Int×List WT
noncomputable def aV (cs:List GClaim) (a:bR):bX:=
 (mem a,(bb a (cs.map fun c=>qOf c.amount)).2++[dG (mem a) (bb a (cs.map fun c=>qOf c.amount)).1])
structure WL where
 count:Nat
 ranks:List WT
 pools:List bX
 total:Rat
noncomputable def az (e:GEst):WL:=⟨e.claims.length,aC e.claims,e.agrs.map (aV e.claims),cn e.claims⟩
def aW (L:WL) (m:Rat):List Rat:=(gJ L.ranks m ⟨List.replicate L.count 0,0⟩).cl
def fq:List Int->List Rat->List Rat
 |[],l=>l
 |i::M,l=>fq M (l.set i.toNat 0)
def cG:List bX->List Rat->List Rat
 |[],l=>l
 |p::ps,l=>cG ps (fq p.1 l)
def aK (g:List Rat):List Int->Rat
 |[]=>0
 |i::M=>g.getD i.toNat 0+aK g M
def f6 (g:List Rat):List bX->WR->WR
 |[],R=>R
 |p::ps,R=>f6 g ps (gJ p.2 (aK g p.1) R)
def eQ (L:WL) (m:Rat):WR:=f6 (aW L m) L.pools ⟨cG L.pools (aW L m),0⟩
theorem mS:∀(M:List Int) (l:List Rat),(fq M l).length=l.length
 |[],_=>rfl
 |i::M,l=>by rw [fq,mS M,List.length_set]
theorem dR:∀(ps:List bX) (l:List Rat),(cG ps l).length=l.length
 |[],_=>rfl
 |p::ps,l=>by rw [cG,dR ps,mS]
theorem gK (L:WL) (m:Rat):(aW L m).length=L.count:=by
 unfold aW;rw [l8,List.length_replicate]
theorem ln (g:List Rat):∀(ps:List bX) (R:WR),(f6 g ps R).cl.length=R.cl.length
 |[],_=>rfl
 |p::ps,R=>by rw [f6,ln g ps,l8]
theorem pG (L:WL) (m:Rat):(eQ L m).cl.length=L.count:=by
 unfold eQ;rw [ln,dR,gK]
def WR.get (R:WR) (i:Int):Rat:=if i= -1 then R.rv else R.cl.getD i.toNat 0
def jk:List Rat->Rat
 |[]=>0
 |x::l=>x+jk l
def WR.all (R:WR):Rat:=jk R.cl+R.rv
def inR (n:Nat) (c:Int):Prop:=c= -1∨0<=c/\c<n
def wIn (n:Nat) (t:WT):Prop:=∀p∈t,inR n p.1
def wAt (i:Int):WT->Rat
 |[]=>0
 |p::t=>(if p.1=i then p.2 else 0)+wAt i t
def cX:List WT->Rat->Int->Rat
 |[],_,_=>0
 |t::l,m,i=>if m<av t then (m/av t)*wAt i t else wAt i t+cX l (m-av t) i
def co:List WT->Rat
 |[]=>0
 |t::l=>av t+co l
def eR (i:Int):List WT->Rat
 |[]=>0
 |t::l=>wAt i t+eR i l
theorem pH:∀(l:List Rat) (k:Nat) (x:Rat),k<l.length->jk (l.set k x)=jk l-l.getD k 0+x
 |[],_,_,h=>absurd h (by simp)
 |y::l,0,x,_=>by simp only [List.set_cons_zero,jk,List.getD_cons_zero];grind
 |y::l,k+1,x,h=>by
  have h1:=pH l k x (by simpa using h);simp only [List.set_cons_succ,jk,List.getD_cons_succ,h1];grind
theorem kP {l:List Rat} {k:Nat} (h:k<l.length) (x:Rat):(l.set k x).getD k 0=x:=by
 rw [List.getD_eq_getElem?_getD,List.getElem?_set_self h];rfl
theorem ee {l:List Rat} {k j:Nat} (h:k≠j) (x:Rat):(l.set k x).getD j 0=l.getD j 0:=by
 rw [List.getD_eq_getElem?_getD,List.getElem?_set_ne h,←List.getD_eq_getElem?_getD]
theorem pI {R:WR} {c i:Int} (hc:inR R.cl.length c) (hi:i= -1∨0<=i) (a:Rat):(R.add c a).get i=R.get i+if c=i then a else 0:=by
 unfold WR.add WR.get;by_cases h1:c= -1
 ·subst h1;by_cases h2:i= -1
  ·subst h2;simp
  have h3:¬(-1:Int)=i:=fun h=>h2 h.symm
  simp only [if_pos,h2,h3,if_false];grind
 rcases hc with h|⟨h3,h4⟩
 ·exact absurd h h1
 simp only [h1,if_false];by_cases h2:i= -1
 ·subst h2;simp only [if_pos,h1,if_false];grind
 simp only [h2,if_false];by_cases h5:c=i
 ·subst h5;rw [kP (by omega)];simp
 have h6:c.toNat≠i.toNat:=by omega
 rw [ee h6];simp only [h5,if_false];grind
theorem CY {R:WR} {c:Int} (hc:inR R.cl.length c) (a:Rat):(R.add c a).all=R.all+a:=by
 unfold WR.add WR.all;by_cases h1:c= -1
 ·simp only [h1,if_true];grind
 rcases hc with h|⟨h3,h4⟩
 ·exact absurd h h1
 simp only [h1,if_false];rw [pH _ _ _ (by omega)];grind
theorem ma (q:Rat) (i:Int) (hi:i= -1∨0<=i):∀(t:WT) (R:WR),wIn R.cl.length t->(eK q t R).get i=R.get i+q*wAt i t
 |[],R,_=>by simp only [eK,wAt];grind
 |p::t,R,h=>by
  have h1:=ma q i hi t (R.add p.1 (p.2*q)) (by rw [bU];exact fun x hx=>h x (by simp [hx]));rw [eK,h1,pI (h p (by simp)) hi,wAt];by_cases h2:p.1=i
  ·simp only [h2,if_true];grind
  simp only [h2,if_false];grind
theorem vJ (q:Rat):∀(t:WT) (R:WR),wIn R.cl.length t->(eK q t R).all=R.all+q*av t
 |[],R,_=>by simp only [eK,av];grind
 |p::t,R,h=>by
  have h1:=vJ q t (R.add p.1 (p.2*q)) (by rw [bU];exact fun x hx=>h x (by simp [hx]));rw [eK,h1,CY (h p (by simp)),av];grind
theorem kd:∀(t:WT) (R:WR),gV t R=eK 1 t R
 |[],R=>rfl
 |p::t,R=>by rw [gV,eK,Rat.mul_one,kd t]
theorem vK (m:Rat) (R:WR):gJ [] m R=R:=by simp [gJ,aG,fE,dU]
theorem rT (t:WT) (l:List WT) (m:Rat) (R:WR):gJ (t::l) m R=if m<av t then eK (m/av t) t R else gJ l (m-av t) (gV t R):=by
 unfold gJ;by_cases h:m<av t
 ·simp only [aG,h,if_true,List.take_zero,fE];unfold dU;rw [if_pos (by simp)];rfl
 simp only [aG,h,if_false,List.take_succ_cons,fE];unfold dU;simp only [List.length_cons,Nat.add_lt_add_iff_right,List.getD_cons_succ]
theorem iy (i:Int) (hi:i= -1∨0<=i):∀(l:List WT) (m:Rat) (R:WR),(∀t∈l,wIn R.cl.length t)->(gJ l m R).get i=R.get i+cX l m i
 |[],m,R,_=>by rw [vK,cX];grind
 |t::l,m,R,h=>by
  rw [rT,cX];split
  ·rw [ma _ i hi t R (h t (by simp))]
  have h1:=iy i hi l (m-av t) (gV t R) (by rw [mR];exact fun x hx=>h x (by simp [hx]));rw [h1,kd,ma 1 i hi t R (h t (by simp))];grind
def wNN (l:List WT):Prop:=∀t∈l,∀p∈t,0<=p.2
theorem iX:∀(t:WT),(∀p∈t,0<=p.2)->0<=av t
 |[],_=>by simp [av]
 |p::t,h=>by
  have h1:=iX t fun x hx=>h x (by simp [hx])
  have h2:=h p (by simp);rw [av];grind
theorem lp (i:Int):∀(t:WT),(∀p∈t,0<=p.2)->0<=wAt i t
 |[],_=>by simp [wAt]
 |p::t,h=>by
  have h1:=lp i t fun x hx=>h x (by simp [hx])
  have h2:=h p (by simp);rw [wAt];split<;>grind
theorem mc:∀(l:List WT),wNN l->0<=co l
 |[],_=>by simp [co]
 |t::l,h=>by
  have h1:=mc l fun x hx=>h x (by simp [hx])
  have h2:=iX t (h t (by simp));rw [co];grind
theorem dn {m s:Rat} (h:0<s):m/s*s=m:=Rat.div_mul_cancel (by grind)
theorem ls {m s:Rat} (h0:0<=m) (h:m<s):0<=m/s/\m/s<=1:=by
 have hs:0<s:=by grind
 have h1:=dn (m:=m) hs;constructor
 ·rw [Rat.div_def];have h2:=Rat.inv_pos.2 hs;exact Rat.mul_nonneg h0 (by grind)
 refine Rat.le_of_mul_le_mul_right (c:=s) ?_ hs;rw [h1];grind
theorem iY (i:Int):∀(l:List WT) (m:Rat),0<=m->wNN l->0<=cX l m i/\cX l m i<=eR i l
 |[],m,_,_=>by simp [cX,eR]
 |t::l,m,hm,hn=>by
  have ha:=lp i t (hn t (by simp));have hs:0<=eR i l:=by
   have:=iY i l 0 (by grind) fun x hx=>hn x (by simp [hx])
   grind
  rw [cX,eR];split
  ·rename_i hlt;obtain ⟨h1,h2⟩:=ls hm hlt;have h3:=Rat.mul_nonneg h1 ha;have h4:m/av t*wAt i t<=1*wAt i t:=Rat.mul_le_mul_of_nonneg_right h2 ha;grind
  have h1:=iY i l (m-av t) (by grind) fun x hx=>hn x (by simp [hx])
  grind
theorem pJ (i:Int):∀(l:List WT) (m n:Rat),0<=m->m<=n->wNN l->cX l m i<=cX l n i
 |[],m,n,_,_,_=>by simp [cX]
 |t::l,m,n,hm,hmn,hn=>by
  have ha:=lp i t (hn t (by simp));rw [cX,cX];by_cases h1:n<av t
  ·have h2:m<av t:=by grind
   rw [if_pos h1,if_pos h2];refine Rat.mul_le_mul_of_nonneg_right ?_ ha;have hs:0<av t:=by grind
   refine Rat.le_of_mul_le_mul_right (c:=av t) ?_ hs;rw [dn hs,dn hs];exact hmn
  rw [if_neg h1];have h3:=iY i l (n-av t) (by grind) fun x hx=>hn x (by simp [hx])
  by_cases h2:m<av t
  ·rw [if_pos h2];obtain ⟨h4,h5⟩:=ls hm h2;have h6:m/av t*wAt i t<=1*wAt i t:=Rat.mul_le_mul_of_nonneg_right h5 ha;grind
  rw [if_neg h2];have h4:=pJ i l (m-av t) (n-av t) (by grind) (by grind) fun x hx=>hn x (by simp [hx])
  grind
def wFr:List WT->Rat->Nat->Rat
 |[],_,_=>0
 |t::_,m,0=>if m<av t then m/av t else 1
 |t::l,m,r+1=>if m<av t then 0 else wFr l (m-av t) r
theorem lu (i:Int):∀(l:List WT) (m:Rat),(∀t∈l,wAt i t=0)->cX l m i=0
 |[],_,_=>rfl
 |t::l,m,h=>by
  rw [cX,h t (by simp),lu i l _ fun x hx=>h x (by simp [hx])];split<;>grind
theorem vL (i:Int) (a:Rat):∀(l:List WT) (m:Rat) (r:Nat),(∀j (h:j<l.length),wAt i l[j]=if j=r then a else 0)->cX l m i=a*wFr l m r
 |[],m,r,_=>by simp only [cX,wFr];grind
 |t::l,m,0,h=>by
  have h0:=h 0 (by simp);simp only [List.getElem_cons_zero,if_true] at h0;have h1:=lu i l (m-av t) fun x hx=>by
   obtain ⟨j,hj,rfl⟩:=List.getElem_of_mem hx;have:=h (j+1) (by simpa using hj);simpa using this
  rw [cX,wFr,h0,h1];split<;>grind
 |t::l,m,r+1,h=>by
  have h0:=h 0 (by simp);have h1:=vL i a l (m-av t) r fun j hj=>by
   have:=h (j+1) (by simpa using hj);simpa using this
  rw [cX,wFr,h1];have h2:wAt i t=0:=by simpa using h0
  rw [h2];split<;>grind
theorem pK:∀(l:List WT) (m:Rat) (r:Nat),0<=m->0<=wFr l m r/\wFr l m r<=1
 |[],_,_,_=>by simp only [wFr];grind
 |t::l,m,0,hm=>by
  rw [wFr];split
  ·exact ls hm ‹_›
  grind
 |t::l,m,r+1,hm=>by
  rw [wFr];split
  ·grind
  exact pK l (m-av t) r (by grind)
theorem xQ (r:Int):∀(cs:List GClaim) (s k:Nat) (h:k<cs.length),wAt ((s+k:Nat):Int) (wRk r cs s)=if cs[k].rank=r then qOf cs[k].amount else 0
 |[],_,_,h=>absurd h (by simp)
 |c::cs,s,0,_=>by
  have h0:∀(cs:List GClaim) (s':Nat),s<s'->wAt (s:Int) (wRk r cs s')=0:=by
   intro cs;induction cs with
   |nil=>intro _ _;rfl
   |cons d cs ih=>
    intro s' hs;have h1:=ih (s'+1) (by omega);rw [wRk];split
    ·rw [wAt,h1];have h2:¬((s':Int)=(s:Int)):=by omega
     simp only [h2,if_false];grind
    exact h1
  have h1:=h0 cs (s+1) (by omega);rw [wRk];simp only [List.getElem_cons_zero,Nat.add_zero];split
  ·rw [wAt,h1];simp only [if_true];grind
  exact h1
 |c::cs,s,k+1,h=>by
  have h1:=xQ r cs (s+1) k (by simpa using h);rw [show s+1+k=s+(k+1) by omega] at h1;rw [wRk];simp only [List.getElem_cons_succ];split
  ·rw [wAt,h1];have h2:¬((s:Int)=((s+(k+1):Nat):Int)):=by omega
   simp only [h2,if_false];grind
  exact h1
theorem lv (r:Int):∀(cs:List GClaim) (s:Nat),∀p∈wRk r cs s,(s:Int)<=p.1/\p.1<((s+cs.length:Nat):Int)/\∃c∈cs,p.2=qOf c.amount
 |[],_,p,h=>by simp [wRk] at h
 |c::cs,s,p,h=>by
  have ih:=lv r cs (s+1) p;rw [wRk] at h;simp only [List.length_cons];split at h
  ·rcases List.mem_cons.1 h with rfl|h
   ·exact ⟨by simp,by simp;omega,c,by simp,rfl⟩
   obtain ⟨h1,h2,d,h3,h4⟩:=ih h;exact ⟨by omega,by omega,d,by simp [h3],h4⟩
  obtain ⟨h1,h2,d,h3,h4⟩:=ih h;exact ⟨by omega,by omega,d,by simp [h3],h4⟩
theorem oc (r:Int):∀(cs:List GClaim) (s:Nat),(wRk r cs s).length<=cs.length
 |[],_=>Nat.le_refl _
 |c::cs,s=>by
  have:=oc r cs (s+1);rw [wRk];split<;>simp only [List.length_cons]<;>omega
theorem pL (cs:List GClaim) (j:Nat) (h:j<(aC cs).length):(aC cs)[j]=wRk (j:Int) cs 0:=by
 have h8:j<8:=by simpa [aC] using h
 have h1:(aC cs)[j]? =some (wRk (j:Int) cs 0):=by
  unfold aC;rw [List.getElem?_map,List.getElem?_range h8];rfl
 exact (List.getElem?_eq_some_iff.1 h1).2
theorem dI (cs:List GClaim):(aC cs).length=8:=by simp [aC]
theorem gL {cs:List GClaim} {t:WT} (h:t∈aC cs):∃r:Nat,r<8/\t=wRk (r:Int) cs 0:=by
 unfold aC at h;obtain ⟨r,h1,rfl⟩:=List.mem_map.1 h;exact ⟨r,by simpa using h1,rfl⟩
theorem dS (cs:List GClaim):∀t∈aC cs,wIn cs.length t:=fun t h p hp=>by
 obtain ⟨r,_,rfl⟩:=gL h;obtain ⟨h1,h2,_⟩:=lv r cs 0 p hp;exact .inr ⟨by omega,by omega⟩
theorem eY {cs:List GClaim} (h:∀c∈cs,0<=qOf c.amount):wNN (aC cs):=fun t ht p hp=>by
 obtain ⟨r,_,rfl⟩:=gL ht;obtain ⟨_,_,c,h1,h2⟩:=lv r cs 0 p hp;rw [h2];exact h c h1
theorem vM:∀(cs:List GClaim) (r:Int) (s:Nat),wAt (-1) (wRk r cs s)=0
 |[],_,_=>rfl
 |c::cs,r,s=>by
  have h1:=vM cs r (s+1);rw [wRk];split
  ·rw [wAt,h1];have h2:¬((s:Int)= -1):=by omega
   simp only [h2,if_false];grind
  exact h1
theorem zn (c:GClaim) (l:List GClaim) (i:Nat):∀(n s:Nat),co ((List.range' s n).map fun r:Nat=>wRk (r:Int) (c::l) i)=co ((List.range' s n).map fun r:Nat=>wRk (r:Int) l (i+1))+if (s:Int)<=c.rank/\c.rank<((s+n:Nat):Int) then qOf c.amount else 0
 |0,s=>by
  have h:¬((s:Int)<=c.rank/\c.rank<((s+0:Nat):Int)):=by omega
  simp only [List.range'_zero,List.map_nil,co,h,if_false];grind
 |n+1,s=>by
  have ih:=zn c l i n (s+1);rw [List.range'_succ,List.map_cons,List.map_cons,co,co,ih];simp only [wRk];by_cases h1:c.rank=(s:Int)
  ·have h2:¬(((s+1:Nat):Int)<=c.rank/\c.rank<((s+1+n:Nat):Int)):=by omega
   have h3:(s:Int)<=c.rank/\c.rank<((s+(n+1):Nat):Int):=by omega
   rw [if_pos h1,if_neg h2,if_pos h3,av];grind
  rw [if_neg h1];by_cases h2:((s+1:Nat):Int)<=c.rank/\c.rank<((s+1+n:Nat):Int)
  ·have h3:(s:Int)<=c.rank/\c.rank<((s+(n+1):Nat):Int):=by omega
   rw [if_pos h2,if_pos h3];grind
  have h3:¬((s:Int)<=c.rank/\c.rank<((s+(n+1):Nat):Int)):=by omega
  rw [if_neg h2,if_neg h3];grind
theorem vN:∀(n s i:Nat),co ((List.range' s n).map fun r:Nat=>wRk (r:Int) [] i)=0
 |0,_,_=>rfl
 |n+1,s,i=>by
  rw [List.range'_succ,List.map_cons,co,vN n (s+1) i];simp only [wRk,av];grind
theorem pM:∀(cs:List GClaim) (i:Nat),(∀c∈cs,0<=c.rank/\c.rank<=7)->co ((List.range' 0 8).map fun r:Nat=>wRk (r:Int) cs i)=cn cs
 |[],i,_=>vN 8 0 i
 |c::cs,i,h=>by
  have h1:=h c (by simp);rw [zn,pM cs (i+1) fun x hx=>h x (by simp [hx]),if_pos (by omega),cn];grind
theorem pO {cs:List GClaim} (h:∀c∈cs,0<=c.rank/\c.rank<=7):co (aC cs)=cn cs:=by
 unfold aC;rw [List.range_eq_range'];exact pM cs 0 h
theorem rU:∀n,jk (List.replicate n 0)=0
 |0=>rfl
 |n+1=>by rw [List.replicate_succ,jk,rU n];grind
theorem ke (n i:Nat):(List.replicate n (0:Rat)).getD i 0=0:=by
 rw [List.getD_eq_getElem?_getD,List.getElem?_replicate];split<;>rfl
structure wEst (cs:List GClaim):Prop where
 am:∀c∈cs,0<=qOf c.amount
 rk:∀c∈cs,0<=c.rank/\c.rank<=7
noncomputable def gFr (cs:List GClaim) (m:Rat) (r:Int):Rat:=wFr (aC cs) m r.toNat
theorem CZ {e:GEst} {m:Rat} (h:wEst e.claims) (k:Nat) (hk:k<e.claims.length):(aW (az e) m).getD k 0=qOf e.claims[k].amount*gFr e.claims m e.claims[k].rank:=by
 have h1:=iy (k:Int) (.inr (by omega)) (aC e.claims) m ⟨List.replicate e.claims.length 0,0⟩ (by simpa using dS e.claims);have h2:¬((k:Int)= -1):=by omega
 have hr:=h.rk _ (List.getElem_mem hk);have h3:=vL (k:Int) (qOf e.claims[k].amount) (aC e.claims) m e.claims[k].rank.toNat fun j hj=>by
  rw [pL];have:=xQ (j:Int) e.claims 0 k hk;rw [Nat.zero_add] at this;rw [this];by_cases h4:e.claims[k].rank=(j:Int)
  ·rw [if_pos h4,if_pos (by omega)]
  rw [if_neg h4,if_neg (by omega)]
 unfold WR.get at h1;simp only [h2,if_false,Int.toNat_natCast,ke] at h1;unfold aW az gFr;rw [h1,h3];grind
theorem gj (e:GEst) (m:Rat):(aW (az e) m).length=e.claims.length:=gK _ _
theorem mT {d:Array Int}:∀m,m<=d.size->(∀i j (hi:i<d.size) (hj:j<d.size),i<=j->d[i]<=d[j])->
  (Lib.compactUpTo d m).Nodup/\∀x∈Lib.compactUpTo d m,∃j,∃h:j<d.size,j<m/\x=d[j]
 |0,_,_=>by simp [Lib.compactUpTo]
 |m+1,hm,hs=>by
  obtain ⟨h1,h2⟩:=mT m (by omega) hs;have hlt:m<d.size:=by omega
  rw [Lib.compactUpTo_succ];by_cases hk:Lib.keeps d m=true
  ·rw [if_pos hk];have hg:d[m]! =d[m]:=getElem!_pos d m hlt;constructor
   ·rw [List.nodup_append];refine ⟨h1,by simp,?_⟩;intro a ha b hb;obtain ⟨j,hj,hjm,rfl⟩:=h2 a ha;simp only [List.mem_singleton] at hb;subst hb;rw [hg];have h3:d[m-1]!≠d[m]! :=by
     unfold Lib.keeps at hk;rcases Nat.eq_zero_or_pos m with h0|h0
     ·omega
     intro h;simp [h] at hk;omega
    rw [hg,getElem!_pos d (m-1) (by omega)] at h3;have h4:=hs j (m-1) hj (by omega) (by omega);have h5:=hs (m-1) m (by omega) hlt (by omega);omega
   intro x hx;rcases List.mem_append.1 hx with hx|hx
   ·obtain ⟨j,hj,hjm,rfl⟩:=h2 x hx;exact ⟨j,hj,by omega,rfl⟩
   simp only [List.mem_singleton] at hx;subst hx;exact ⟨m,hlt,by omega,hg⟩
  rw [if_neg hk,List.append_nil];exact ⟨h1,fun x hx=>by obtain ⟨j,hj,hjm,e⟩:=h2 x hx;exact ⟨j,hj,by omega,e⟩⟩
theorem tJ {d:Array Int}:∀m,m<=d.size->∀j (h:j<d.size),j<m->d[j]∈Lib.compactUpTo d m
 |0,_,_,_,h=>absurd h (by omega)
 |m+1,hm,j,hj,hjm=>by
  have hlt:m<d.size:=by omega
  rw [Lib.compactUpTo_succ];by_cases hjm':j<m
  ·exact List.mem_append_left _ (tJ m (by omega) j hj hjm')
  have:j=m:=by omega
  subst this;by_cases hk:Lib.keeps d j=true
  ·rw [if_pos hk,getElem!_pos d j hlt];exact List.mem_append_right _ (by simp)
  rw [if_neg hk,List.append_nil];have h3:j≠0/\d[j-1]! =d[j]! :=by
   unfold Lib.keeps at hk;rcases Nat.eq_zero_or_pos j with h0|h0
   ·subst h0;simp at hk
   refine ⟨by omega,?_⟩;have h9:¬j=0:=by omega
   have h8:¬¬d[j]! =d[j-1]! :=fun h=>hk (by simp [h9,h])
   exact (Classical.not_not.1 h8).symm
  rw [getElem!_pos d j hlt,getElem!_pos d (j-1) (by omega)] at h3;rw [←h3.2];exact tJ j (by omega) (j-1) (by omega) (by omega)
theorem nL (zs:List Int):∀i j (hi:i<(cN zs).toArray.size) (hj:j<(cN zs).toArray.size),i<=j->(cN zs).toArray[i]<=(cN zs).toArray[j]:=fun i j hi hj hij=>by
 have h1:(cN zs).Pairwise fun x y=>decide (x<=y)=true:=by
  unfold cN;exact List.pairwise_mergeSort (fun a b c h1 h2=>by simp at *;omega) (fun a b=>by simp;omega) zs
 rcases Nat.lt_or_eq_of_le hij with h|rfl
 ·have:=List.pairwise_iff_getElem.1 h1 i j (by simpa using hi) (by simpa using hj) h;simpa using this
 exact Int.le_refl _
theorem kf (a:bR):(mem a).Nodup:=(mT _ (by simp) (nL _)).1
theorem zo:∀{l:List GPart} {p:GPart},p∈l->p.claim≠ -1->p.claim∈dF l
 |q::l,p,h,hc=>by
  simp only [dF];rcases List.mem_cons.1 h with rfl|h
  ·rw [if_neg hc];simp
  have:=zo h hc;split
  ·exact this
  exact List.mem_cons_of_mem _ this
theorem Gw {a:bR} {p:GPart} (h:p∈a.flatten) (hc:p.claim≠ -1):p.claim∈mem a:=by
 have h1:p.claim∈cN (dF a.flatten):=by
  unfold cN;rw [List.mem_mergeSort];exact zo h hc
 obtain ⟨j,hj,he⟩:=List.getElem_of_mem h1;have h2:=tJ (d:=(cN (dF a.flatten)).toArray) (cN (dF a.flatten)).length (by simp) j (by simpa using hj) hj;unfold mem Lib.compact;rw [←he];simpa using h2
theorem vO (i:Int):∀(l m:List WT),eR i (l++m)=eR i l+eR i m
 |[],m=>by simp only [List.nil_append,eR];grind
 |t::l,m=>by simp only [List.cons_append,eR,vO i l m];grind
theorem vP:∀(l m:List WT),co (l++m)=co l+co m
 |[],m=>by simp only [List.nil_append,co];grind
 |t::l,m=>by simp only [List.cons_append,co,vP l m];grind
def pOK (n:Nat) (x:GPart):Prop:=inR n x.claim/\(x.claim= -1∨x.capped=true->0<=qOf x.cap)
def rNN (l:List Rat):Prop:=∀x∈l,0<=x
theorem oe {l:List Rat} (h:rNN l) (i:Nat):0<=l.getD i 0:=by
 rw [List.getD_eq_getElem?_getD];cases hx:l[i]? with
 |none=>simp
 |some e=>exact h e (List.mem_of_getElem? hx)
theorem C0 {n:Nat} {rest:List Rat} {x:GPart} (hx:pOK n x) (hn:rest.length=n) (hr:rNN rest):
  (cp rest x).1.length=n/\rNN (cp rest x).1/\0<=(cp rest x).2/\∀i:Nat,(cp rest x).1.getD i 0+(if x.claim=(i:Int) then (cp rest x).2 else 0)=rest.getD i 0:=by
 unfold cp;by_cases h1:x.claim= -1
 ·simp only [h1,if_true];refine ⟨hn,hr,hx.2 (.inl h1),fun i=>?_⟩;have h2:¬((-1:Int)=(i:Int)):=by omega
  rw [if_neg h2];grind
 simp only [h1,if_false];rcases hx.1 with h|⟨h2,h3⟩
 ·exact absurd h h1
 have h4:=oe hr x.claim.toNat;have h5:0<=(if x.capped=true then bC (rest.getD x.claim.toNat 0) (qOf x.cap) else rest.getD x.claim.toNat 0)/\(if x.capped=true then bC (rest.getD x.claim.toNat 0) (qOf x.cap) else rest.getD x.claim.toNat 0)<=rest.getD x.claim.toNat 0:=by
  by_cases hc:x.capped=true
  ·have h6:=hx.2 (.inr hc);rw [if_pos hc];unfold bC;split<;>grind
  rw [if_neg hc];grind
 generalize (if x.capped=true then bC (rest.getD x.claim.toNat 0) (qOf x.cap) else rest.getD x.claim.toNat 0)=c at *
 refine ⟨by rw [List.length_set];exact hn,fun y hy=>?_,h5.1,fun i=>?_⟩
 ·rcases List.mem_or_eq_of_mem_set hy with hy|rfl
  ·exact hr y hy
  grind
 by_cases h6:x.claim=(i:Int)
 ·have h7:x.claim.toNat=i:=by omega
  rw [if_pos h6,h7,kP (by omega)];grind
 have h7:x.claim.toNat≠i:=by omega
 rw [if_neg h6,ee h7];grind
theorem vQ {n:Nat}:∀(t:List GPart) (rest:List Rat),(∀x∈t,pOK n x)->rest.length=n->rNN rest->
  (b8 t rest).1.length=n/\rNN (b8 t rest).1/\(∀p∈(b8 t rest).2,0<=p.2)/\(∀i:Nat,(b8 t rest).1.getD i 0+wAt (i:Int) (b8 t rest).2=rest.getD i 0)/\(b8 t rest).2.map (·.1)=t.map (·.claim)
 |[],rest,_,hn,hr=>⟨hn,hr,by simp [b8],fun i=>by simp only [b8,wAt];grind,rfl⟩
 |x::t,rest,h,hn,hr=>by
  obtain ⟨a1,a2,a3,a4⟩:=C0 (h x (by simp)) hn hr;obtain ⟨b1,b2,b3,b4,b5⟩:=vQ t (cp rest x).1 (fun y hy=>h y (by simp [hy])) a1 a2;refine ⟨b1,b2,fun p hp=>?_,fun i=>?_,?_⟩
  ·simp only [b8] at hp;rcases List.mem_cons.1 hp with rfl|hp
   ·exact a3
   exact b3 p hp
  ·have h1:=a4 i;have h2:=b4 i;simp only [b8,wAt];grind
  simp only [b8,List.map_cons,b5]
theorem kg {n:Nat}:∀(a:List (List GPart)) (rest:List Rat),(∀t∈a,∀x∈t,pOK n x)->rest.length=n->rNN rest->
  (bb a rest).1.length=n/\rNN (bb a rest).1/\wNN (bb a rest).2/\(∀i:Nat,(bb a rest).1.getD i 0+eR (i:Int) (bb a rest).2=rest.getD i 0)/\(bb a rest).2.map (fun t=>t.map (·.1))=a.map fun t=>t.map (·.claim)
 |[],rest,_,hn,hr=>⟨hn,hr,by simp [bb,wNN],fun i=>by simp only [bb,eR];grind,rfl⟩
 |t::a,rest,h,hn,hr=>by
  obtain ⟨a1,a2,a3,a4,a5⟩:=vQ t rest (h t (by simp)) hn hr;obtain ⟨b1,b2,b3,b4,b5⟩:=kg a (b8 t rest).1 (fun y hy=>h y (by simp [hy])) a1 a2;refine ⟨b1,b2,fun u hu=>?_,fun i=>?_,?_⟩
  ·simp only [bb] at hu;rcases List.mem_cons.1 hu with rfl|hu
   ·exact a3
   exact b3 u hu
  ·have h1:=a4 i;have h2:=b4 i;simp only [bb,eR];grind
  simp only [bb,List.map_cons,a5,b5]
theorem vR (rest:List Rat):∀(M:List Int) (i:Int),M.Nodup->wAt i (dG M rest)=if i∈M then rest.getD i.toNat 0 else 0
 |[],i,_=>by simp [dG,wAt]
 |j::M,i,h=>by
  have h1:=vR rest M i (List.nodup_cons.1 h).2;have h2:=(List.nodup_cons.1 h).1;simp only [dG,List.map_cons,wAt] at h1 ⊢;rw [h1];by_cases h3:j=i
  ·subst h3;rw [if_pos rfl,if_neg h2,if_pos (by simp)];grind
  have h4:i∈j::M↔i∈M:=by simp [Ne.symm h3]
  rw [if_neg h3];simp only [h4];grind
structure pLad (cs:List GClaim) (p:bX):Prop where
 nd:p.1.Nodup
 inn:∀i∈p.1,0<=i/\i<(cs.length:Int)
 nn:wNN p.2
 rin:∀t∈p.2,∀x∈t,x.1= -1∨x.1∈p.1
 cap:∀i:Nat,(i:Int)∈p.1->eR (i:Int) p.2=(cs.map fun c=>qOf c.amount).getD i 0
def aOK (n:Nat) (a:bR):Prop:=∀t∈a,∀x∈t,pOK n x
theorem me {cs:List GClaim} {a:bR} (ha:aOK cs.length a) (hc:∀c∈cs,0<=qOf c.amount):pLad cs (aV cs a):=by
 have hr:rNN (cs.map fun c=>qOf c.amount):=fun x hx=>by
  obtain ⟨c,h1,rfl⟩:=List.mem_map.1 hx;exact hc c h1
 obtain ⟨b1,b2,b3,b4,b5⟩:=kg a (cs.map fun c=>qOf c.amount) ha (by simp) hr;have hin:∀i∈mem a,0<=i/\i<(cs.length:Int):=fun i hi=>by
  obtain ⟨p,h1,h2,h3⟩:=iS (ka hi);obtain ⟨t,ht,hp⟩:=List.mem_flatten.1 h1;rcases (ha t ht p hp).1 with h|h
  ·exact absurd h h3
  rw [←h2];exact h
 refine ⟨kf a,hin,fun t ht p hp=>?_,fun t ht p hp=>?_,fun i hi=>?_⟩
 ·rcases List.mem_append.1 ht with ht|ht
  ·exact b3 t ht p hp
  simp only [List.mem_singleton] at ht;subst ht;obtain ⟨j,_,rfl⟩:=List.mem_map.1 hp;exact oe b2 _
 ·rcases List.mem_append.1 ht with ht|ht
  ·have h1:t.map (·.1)∈(bb a (cs.map fun c=>qOf c.amount)).2.map (fun t=>t.map (·.1)):=List.mem_map.2 ⟨t,ht,rfl⟩;rw [b5] at h1;obtain ⟨u,hu,he⟩:=List.mem_map.1 h1;have h2:p.1∈u.map (·.claim):=by rw [he];exact List.mem_map.2 ⟨p,hp,rfl⟩
   obtain ⟨x,hx,hxe⟩:=List.mem_map.1 h2;by_cases h3:x.claim= -1
   ·exact .inl (by rw [←hxe];exact h3)
   exact .inr (by rw [←hxe];exact Gw (List.mem_flatten.2 ⟨u,hu,hx⟩) h3)
  simp only [List.mem_singleton] at ht;subst ht;obtain ⟨j,hj,rfl⟩:=List.mem_map.1 hp;exact .inr hj
 have h1:=b4 i;show eR (i:Int) ((bb a _).2++[dG (mem a) (bb a _).1])=_;rw [vO];have hi':(i:Int)∈mem a:=hi;simp only [eR,vR _ _ _ (kf a),hi',if_true,Int.toNat_natCast];grind
theorem iZ {g:List Rat} (h:rNN g):∀M:List Int,0<=aK g M
 |[]=>by simp [aK]
 |i::M=>by
  have h1:=iZ h M;have h2:=oe h i.toNat;rw [aK];grind
theorem tK {g a:List Rat} (h:∀i:Nat,g.getD i 0<=a.getD i 0):∀M:List Int,aK g M<=aK a M
 |[]=>by simp [aK]
 |i::M=>by
  have h1:=tK h M;have h2:=h i.toNat;rw [aK,aK];grind
def mU (M:List Int) (t:WT):Rat:=(M.map fun i=>wAt i t).foldr (·+·) 0
def mf (M:List Int) (l:List WT):Rat:=(M.map fun i=>eR i l).foldr (·+·) 0
theorem vS:∀M,mU M []=0
 |[]=>rfl
 |i::M=>by
  have:=vS M;simp only [mU,List.map_cons,List.foldr_cons,wAt] at this ⊢;rw [this];grind
theorem pP (c:Int) (x:Rat) (t:WT):∀M:List Int,c∉M->mU M ((c,x)::t)=mU M t
 |[],_=>rfl
 |i::M,h=>by
  have h1:=pP c x t M fun hm=>h (by simp [hm])
  have h2:¬c=i:=fun e=>h (by simp [e])
  simp only [mU,List.map_cons,List.foldr_cons,wAt,h2,if_false] at h1 ⊢;rw [h1];grind
theorem zp (c:Int) (x:Rat) (t:WT):∀M:List Int,M.Nodup->c∈M->mU M ((c,x)::t)=x+mU M t
 |i::M,hn,h=>by
  have h0:=List.nodup_cons.1 hn;by_cases h2:c=i
  ·subst h2;have h1:=pP c x t M h0.1;simp only [mU,List.map_cons,List.foldr_cons,wAt,if_true] at h1 ⊢;rw [h1];grind
  have h3:c∈M:=by
   rcases List.mem_cons.1 h with h|h
   ·exact absurd h h2
   exact h
  have h1:=zp c x t M h0.2 h3;simp only [mU,List.map_cons,List.foldr_cons,wAt,h2,if_false] at h1 ⊢;rw [h1];grind
theorem pQ {M:List Int} (hn:M.Nodup) (hM:(-1:Int)∉M):∀t:WT,(∀x∈t,x.1= -1∨x.1∈M)->av t=mU M t+wAt (-1) t
 |[],_=>by rw [vS];simp only [av,wAt];grind
 |p::t,h=>by
  have h1:=pQ hn hM t fun x hx=>h x (by simp [hx])
  obtain ⟨c,x⟩:=p;rcases h (c,x) (by simp) with h2|h2
  ·simp only at h2;subst h2;rw [pP _ _ _ _ hM,av,h1];simp only [wAt,if_true];grind
  have h3:¬c= -1:=fun e=>hM (by rw [←e];exact h2)
  rw [zp _ _ _ _ hn h2,av,h1];simp only [wAt,h3,if_false];grind
theorem rV:∀M,mf M []=0
 |[]=>rfl
 |i::M=>by
  have:=rV M;simp only [mf,List.map_cons,List.foldr_cons,eR] at this ⊢;rw [this];grind
theorem pR (t:WT) (l:List WT):∀M,mf M (t::l)=mU M t+mf M l
 |[]=>by simp [mf,mU];grind
 |i::M=>by
  have:=pR t l M;simp only [mf,mU,List.map_cons,List.foldr_cons,eR] at this ⊢;rw [this];grind
theorem pS {M:List Int} (hn:M.Nodup) (hM:(-1:Int)∉M):∀l:List WT,(∀t∈l,∀x∈t,x.1= -1∨x.1∈M)->co l=mf M l+eR (-1) l
 |[],_=>by rw [rV];simp only [co,eR];grind
 |t::l,h=>by
  have h1:=pS hn hM l fun x hx=>h x (by simp [hx])
  rw [co,eR,pR,pQ hn hM t (h t (by simp)),h1];grind
theorem rW {cs:List GClaim} {p:bX} (h:pLad cs p):∀M:List Int,(∀i∈M,i∈p.1)->mf M p.2=aK (cs.map fun c=>qOf c.amount) M
 |[],_=>rfl
 |i::M,hM=>by
  have h1:=rW h M fun x hx=>hM x (by simp [hx])
  have h2:=h.inn i (hM i (by simp));have h3:=h.cap i.toNat (by rw [Int.toNat_of_nonneg h2.1];exact hM i (by simp));rw [Int.toNat_of_nonneg h2.1] at h3;simp only [mf,aK,List.map_cons,List.foldr_cons] at h1 ⊢;rw [h1,h3]
theorem tL (i:Int):∀l,wNN l->0<=eR i l
 |[],_=>by simp [eR]
 |t::l,h=>by
  have h1:=tL i l fun x hx=>h x (by simp [hx])
  have h2:=lp i t (h t (by simp));rw [eR];grind
theorem mV:∀(M:List Int) (l:List Rat) (i:Nat),(∀j∈M,0<=j)->(fq M l).getD i 0=if (i:Int)∈M then 0 else l.getD i 0
 |[],l,i,_=>by simp [fq]
 |j::M,l,i,h=>by
  have h1:=mV M (l.set j.toNat 0) i fun x hx=>h x (by simp [hx])
  have h0:=h j (by simp);rw [fq,h1];by_cases h2:(i:Int)∈M
  ·rw [if_pos h2,if_pos (by simp [h2])]
  rw [if_neg h2];by_cases h3:(i:Int)=j
  ·rw [if_pos (by simp [h3])];have h4:j.toNat=i:=by omega
   rw [h4,List.getD_eq_getElem?_getD];by_cases h5:i<l.length
   ·rw [List.getElem?_set_self h5];rfl
   rw [List.getElem?_eq_none (by simpa using Nat.le_of_not_lt h5)];rfl
  rw [if_neg (by simp [h2,h3]),ee (by omega)]
theorem rX:∀(M:List Int) (l:List Rat),M.Nodup->(∀j∈M,0<=j/\j<(l.length:Int))->jk (fq M l)=jk l-aK l M
 |[],l,_,_=>by simp only [fq,aK];grind
 |j::M,l,hn,h=>by
  have h0:=List.nodup_cons.1 hn;have hj:=h j (by simp);have h1:=rX M (l.set j.toNat 0) h0.2 (by simpa using fun x hx=>h x (by simp [hx]));have h2:∀M':List Int,(∀x∈M',0<=x)->j∉M'->aK (l.set j.toNat 0) M'=aK l M':=by
   intro M' hp hm;induction M' with
   |nil=>rfl
   |cons x M' ih=>
    have hx:=hp x (by simp);have hne:j≠x:=fun e=>hm (by simp [e])
    rw [aK,aK,ih (fun y hy=>hp y (by simp [hy])) fun hy=>hm (by simp [hy]),ee (by omega)]
  rw [fq,h1,pH _ _ _ (by omega),h2 M (fun x hx=>(h x (by simp [hx])).1) h0.1,aK];grind
theorem rY {l l':List Rat}:∀M:List Int,(∀i∈M,l.getD i.toNat 0=l'.getD i.toNat 0)->aK l M=aK l' M
 |[],_=>rfl
 |i::M,h=>by rw [aK,aK,h i (by simp),rY M fun x hx=>h x (by simp [hx])]
def Gx (ps:List bX):Prop:=ps.Pairwise fun p q=>∀i∈p.1,i∉q.1
def wPs (g:List Rat) (i:Int):List bX->Rat
 |[]=>0
 |p::ps=>cX p.2 (aK g p.1) i+wPs g i ps
def jF (g:List Rat):List bX->Rat
 |[]=>0
 |p::ps=>aK g p.1+jF g ps
def i6 (i:Int) (ps:List bX):Prop:=∃p∈ps,i∈p.1
theorem mW:∀(ps:List bX) (l:List Rat) (i:Nat),(∀p∈ps,∀j∈p.1,0<=j)->(¬i6 i ps->(cG ps l).getD i 0=l.getD i 0)/\(i6 i ps->(cG ps l).getD i 0=0)
 |[],l,i,_=>⟨fun _=>rfl,fun h=>by obtain ⟨p,h,_⟩:=h;cases h⟩
 |p::ps,l,i,h=>by
  obtain ⟨h1,h2⟩:=mW ps (fq p.1 l) i fun q hq=>h q (by simp [hq])
  have h3:=mV p.1 l i (h p (by simp));refine ⟨fun hn=>?_,fun hp=>?_⟩
  ·have h4:¬i6 i ps:=fun ⟨q,hq,hi⟩=>hn ⟨q,by simp [hq],hi⟩
   have h5:¬(i:Int)∈p.1:=fun hi=>hn ⟨p,by simp,hi⟩
   rw [cG,h1 h4,h3,if_neg h5]
  by_cases h4:i6 i ps
  ·rw [cG,h2 h4]
  obtain ⟨q,hq,hi⟩:=hp;rcases List.mem_cons.1 hq with rfl|hq
  ·rw [cG,h1 h4,h3,if_pos hi]
  exact absurd ⟨q,hq,hi⟩ h4
theorem rZ {cs:List GClaim}:∀(ps:List bX) (l:List Rat),(∀p∈ps,pLad cs p)->Gx ps->l.length=cs.length->jk (cG ps l)=jk l-jF l ps
 |[],l,_,_,_=>by simp only [cG,jF];grind
 |p::ps,l,h,hd,hl=>by
  have hp:=h p (by simp);have hd':=List.pairwise_cons.1 hd;have h1:=rZ ps (fq p.1 l) (fun q hq=>h q (by simp [hq])) hd'.2 (by rw [mS];exact hl);have h2:=rX p.1 l hp.nd fun j hj=>by have:=hp.inn j hj;omega
  have h3:∀qs:List bX,(∀q∈qs,pLad cs q)->(∀q∈qs,∀i∈p.1,i∉q.1)->jF (fq p.1 l) qs=jF l qs:=by
   intro qs hq hx;induction qs with
   |nil=>rfl
   |cons q qs ih=>
    rw [jF,jF,ih (fun y hy=>hq y (by simp [hy])) fun y hy=>hx y (by simp [hy])];rw [rY q.1 fun i hi=>?_];have h4:=(hq q (by simp)).inn i hi;have h5:=mV p.1 l i.toNat fun j hj=>(hp.inn j hj).1
    rw [h5,if_neg];rw [Int.toNat_of_nonneg h4.1];exact fun hm=>hx q (by simp) i hm hi
  rw [cG,h1,h2,h3 ps (fun q hq=>h q (by simp [hq])) hd'.1,jF];grind
theorem gM (g:List Rat) (i:Int) (hi:i= -1∨0<=i):∀(ps:List bX) (R:WR),(∀p∈ps,∀t∈p.2,wIn R.cl.length t)->(f6 g ps R).get i=R.get i+wPs g i ps
 |[],R,_=>by simp only [f6,wPs];grind
 |p::ps,R,h=>by
  have h1:=gM g i hi ps (gJ p.2 (aK g p.1) R) (by rw [l8];exact fun q hq=>h q (by simp [hq]));rw [f6,h1,iy i hi _ _ _ (h p (by simp)),wPs];grind
theorem fk {cs:List GClaim} {p:bX} (h:pLad cs p) {n:Nat} (hn:n=cs.length):∀t∈p.2,wIn n t:=fun t ht x hx=>by
 subst hn;rcases h.rin t ht x hx with h1|h1
 ·exact .inl h1
 exact .inr (h.inn _ h1)
theorem mh (i:Int):∀t:WT,(∀x∈t,x.1≠i)->wAt i t=0
 |[],_=>rfl
 |p::t,h=>by
  rw [wAt,mh i t fun x hx=>h x (by simp [hx]),if_neg (h p (by simp))];grind
theorem tM {cs:List GClaim} (g:List Rat) (i:Nat):∀ps:List bX,(∀p∈ps,pLad cs p)->¬i6 i ps->wPs g i ps=0
 |[],_,_=>rfl
 |p::ps,h,hn=>by
  have hp:=h p (by simp);rw [wPs,tM g i ps (fun q hq=>h q (by simp [hq])) fun ⟨q,hq,hi⟩=>hn ⟨q,by simp [hq],hi⟩,
   lu _ _ _ fun t ht=>mh _ t fun x hx e=>?_]
  ·grind
  rcases hp.rin t ht x hx with h1|h1
  ·omega
  exact hn ⟨p,by simp,by rw [←e];exact h1⟩
structure eOK (e:GEst):Prop where
 cl:wEst e.claims
 ag:∀a∈e.agrs,aOK e.claims.length a
 ds:Gx (az e).pools
theorem zq (cs:List GClaim) (k:Nat) (h:k<cs.length):(cs.map fun c=>qOf c.amount).getD k 0=qOf cs[k].amount:=by
 rw [List.getD_eq_getElem?_getD,List.getElem?_map,List.getElem?_eq_getElem h];rfl
theorem jG {l:List Rat} {i:Nat} (h:l.length<=i):l.getD i 0=0:=by
 rw [List.getD_eq_getElem?_getD,List.getElem?_eq_none h];rfl
theorem mj {e:GEst} {m:Rat} (h:wEst e.claims) (hm:0<=m) (i:Nat):0<=(aW (az e) m).getD i 0/\(aW (az e) m).getD i 0<=(e.claims.map fun c=>qOf c.amount).getD i 0:=by
 by_cases hi:i<e.claims.length
 ·rw [CZ h i hi,zq _ i hi];have h1:=h.am _ (List.getElem_mem hi);obtain ⟨h2,h3⟩:=pK (aC e.claims) m e.claims[i].rank.toNat hm;have h4:=Rat.mul_nonneg h1 h2;have h5:qOf e.claims[i].amount*wFr (aC e.claims) m e.claims[i].rank.toNat<=qOf e.claims[i].amount*1:=Rat.mul_le_mul_of_nonneg_left h3 h1;unfold gFr;exact ⟨h4,by grind⟩
 rw [jG (by rw [gj];omega),jG (by simpa using Nat.le_of_not_lt hi)];grind
theorem tN {l:List Rat} (h:∀i:Nat,0<=l.getD i 0):rNN l:=fun x hx=>by
 obtain ⟨i,hi,rfl⟩:=List.getElem_of_mem hx;have:=h i;rw [List.getD_eq_getElem?_getD,List.getElem?_eq_getElem hi] at this;exact this
theorem pT {e:GEst} {m:Rat} (h:wEst e.claims) (hm:0<=m):rNN (aW (az e) m):=tN fun i=>(mj h hm i).1
theorem xR {e:GEst} {m n:Rat} (h:wEst e.claims) (hm:0<=m) (hmn:m<=n) (i:Nat):(aW (az e) m).getD i 0<=(aW (az e) n).getD i 0:=by
 have h1:=iy (i:Int) (.inr (by omega)) (aC e.claims) m ⟨List.replicate e.claims.length 0,0⟩ (by simpa using dS e.claims);have h2:=iy (i:Int) (.inr (by omega)) (aC e.claims) n ⟨List.replicate e.claims.length 0,0⟩ (by simpa using dS e.claims);have h3:=pJ (i:Int) (aC e.claims) m n hm hmn (eY h.am);have h4:¬((i:Int)= -1):=by omega
 unfold WR.get at h1 h2;simp only [h4,if_false,Int.toNat_natCast] at h1 h2;unfold aW az;rw [h1,h2];grind
theorem ig {e:GEst} (h:eOK e):∀p∈(az e).pools,pLad e.claims p:=fun p hp=>by
 obtain ⟨a,ha,rfl⟩:=List.mem_map.1 hp;exact me (h.ag a ha) h.cl.am
theorem Gy {e:GEst} {m:Rat} (h:eOK e) (i:Nat):(¬i6 i (az e).pools->(eQ (az e) m).cl.getD i 0=(aW (az e) m).getD i 0)/\(i6 i (az e).pools->(eQ (az e) m).cl.getD i 0=wPs (aW (az e) m) i (az e).pools):=by
 have hl:=ig h;have h1:=gM (aW (az e) m) (i:Int) (.inr (by omega)) (az e).pools ⟨cG (az e).pools (aW (az e) m),0⟩ fun p hp=>fk (hl p hp) (by rw [dR,gj])
 have h2:=mW (az e).pools (aW (az e) m) i fun p hp j hj=>((hl p hp).inn j hj).1
 have h4:¬((i:Int)= -1):=by omega
 unfold WR.get at h1;simp only [h4,if_false,Int.toNat_natCast] at h1;unfold eQ;refine ⟨fun hn=>?_,fun hn=>?_⟩
 ·rw [h1,h2.1 hn,tM _ i _ hl hn];grind
 rw [h1,h2.2 hn];grind
theorem Gz {e:GEst} {m:Rat} (h:eOK e):(eQ (az e) m).rv=wPs (aW (az e) m) (-1) (az e).pools:=by
 have hl:=ig h;have h1:=gM (aW (az e) m) (-1) (.inl rfl) (az e).pools ⟨cG (az e).pools (aW (az e) m),0⟩ fun p hp=>fk (hl p hp) (by rw [dR,gj])
 unfold WR.get at h1;simp only [if_true] at h1;unfold eQ;rw [h1];grind
end Go.Proofs.YtokmkopihhnggaaGreatDoor
