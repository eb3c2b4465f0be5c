/- WaterfallRaw: the law's own function; walked by the abstract machine. -/
import Derived.Test.YtokmkopihhnggaaGreatDoorWs3M
import Derived.Test.YtokmkopihhnggaaGreatDoorWrbM
import Derived.Test.YtokmkopihhnggaaGreatDoorLGCM
set_option linter.unusedVariables false
set_option maxHeartbeats 4000000
set_option maxRecDepth 100000
set_option linter.unusedSimpArgs false
set_option linter.defProp false
namespace Go.Proofs.YtokmkopihhnggaaGreatDoor
open Go Go.RowKit Go.Proofs.Tryz
theorem rawI.rd {e:GEst} (hI:rawI e) (h0:bv e=0):rdB e 24 14424 201 280000 282100 2256809 18054481 14424 14042 36510000 36510000:=by
 have hW:=iC h0;have hB:=hI.dB h0;have hla:=jb hW hI.s (by decide) (by decide);have hnc:=hI.nc;have hna:=hI.na;have hrn:=jL e.claims;have hr8:=dI e.claims;have hpl:∀a∈e.agrs,wOK 14424 14042 (aV e.claims a).2/\∀t∈(aV e.claims a).2,wIn e.claims.length t:=fun a ha=>
  ⟨(hB.pl _ (List.mem_map.2 ⟨a,ha,rfl⟩)).1,(hB.pl _ (List.mem_map.2 ⟨a,ha,rfl⟩)).2.1⟩
 have hlen:∀a∈e.agrs,(aV e.claims a).2.length<=25:=fun a ha=>by
  have e4:(aV e.claims a).2.length=a.length+1:=by show ((bb a _).2++[_]).length=_;rw [List.length_append,(eU a _).1];rfl
  have:=(hW.ag a ha).1;omega
 have hwn:∀a∈e.agrs,wN (aV e.claims a).2<=600:=fun a ha=>by
  have h2:=(hW.mi a ha).2;have h3:=(hW.ag a ha).2.2.1;show wN ((bb a _).2++[_])<=600;rw [iV,(eU a _).2,ku];have:(dG (mem a) (bb a (e.claims.map fun c=>qOf c.amount)).1).length<=8:=by unfold dG;rw [List.length_map];omega
  simp only [wN];omega
 have han:=Fv e.claims 600 e.agrs hwn;refine ⟨by omega,by omega,hI.s.2.1,by decide,hB.rk,dS e.claims,by omega,by omega,fun a ha=>hla a ha,hpl,by omega,by decide,fun a ha=>?_,fun a ha=>?_,by decide,by decide,by decide,by decide,by decide,by decide,?_⟩
 ·have:=hlen a ha;omega
 ·have:=hlen a ha;omega
 omega
theorem rawI.gr {e:GEst} (hI:rawI e) (h0:bv e=0):rGr e 280000:=fun q hq=>by
 have hB:=hI.rd h0;have hrn:=jL e.claims;have hnc:=hI.nc;exact wD _ q 24 201 280000 282100 hB.n hB.am hB.kb hB.rk hB.rin hq hB.z (by omega) (by decide)
theorem rawI.de {e:GEst} (hI:rawI e) (h0:bv e=0):rDe e 280000:=fun q hq=>G4 _ q _ _ _ _ _ _ _ _ _ _ _ (hI.rd h0) hq
theorem nu:aR prog 43 [.one (.lit (.slice none 0 0)),.one (.lit (.slice none 0 0))] (one (.bool true)):=by
 have h:=ej [] [] 0 rfl rfl (by decide);rw [(gh rfl).2 rfl] at h;refine xZ h fun κ vs hv=>?_
 match vs,hv with
 |[v1,v2],hv=>
  obtain ⟨d1,d2,_⟩:=hv;exact ⟨m5 3 d1,m5 3 d2,trivial⟩
def IS:=And.intro zS (And.intro ic (And.intro cD (And.intro Ht (dN))))
theorem b7:type_of%IS:=IS
theorem Bs (e:GEst) (r:GRat) (hI:rawI e) (hI2:jC e) (hr:sB 280000 r):aR prog 46 [.agg (aJ e),.agg (ai r)] (one (.bool true)):=by
 have hnc:=hI.nc;refine aP func46 rfl (by decide) (N:=147) rfl (by simp) (R:=[.tmp 4]) rfl fun en k0=>?_
 refine awN ?_;simp only [b7,seval,aJ,ai];repeat refine ob ?_
 by_cases h0:bv e=0
 ·have hT:=sA e hI;simp only [ttR,h0,if_true,ai] at hT;refine awN ?_;simp only [b7,seval,ab ao,ab au];repeat refine ob ?_
  refine ⟨_,hT,(by first|rfl|simp [aU,aD,al,ax,A1.cells,ab ap,ab ao,ab au]),?_⟩;try simp only [ak,b7,seval]
  repeat refine ob ?_
  have hT2:=sG e 24 hI2 (by omega) hI.s.2.1 (by decide) (by decide);simp only [ttR,h0,if_true,ai] at hT2;refine awN ?_;simp only [b7,seval,ab ao,ab au];repeat refine ob ?_
  refine ⟨_,hT2,(by first|rfl|simp [aU,aD,al,ax,A1.cells,ab ap,ab ao,ab au]),?_⟩;try simp only [ak,b7,seval]
  repeat refine ob ?_
  have hG:=sC e r hI hr;simp only [grR,h0,if_true,ai] at hG;refine awN ?_;simp only [b7,seval,ab ao,ab au];repeat refine ob ?_
  refine ⟨_,hG,(by first|rfl|simp [aD,al,ax,A1.cells,ab ap]),?_⟩;try simp only [ak,b7,seval]
  repeat refine ob ?_
  have hG2:=sH e r 280000 hI2 (by decide) (by decide) hr hI.gr;simp only [grR,h0,if_true,ai] at hG2;refine awN ?_;simp only [b7,seval,ab ao,ab au];repeat refine ob ?_
  refine ⟨_,hG2,(by first|rfl|simp [aD,al,ax,A1.cells,ab ap]),?_⟩;try simp only [ak,b7,seval]
  repeat refine ob ?_
  have hSR:=ej (aW (az e) (cx r)) (aW (az e) (cx r)) e.claims.length (gj e _) (gj e _) (by omega);rw [(gh rfl).2 rfl] at hSR;have q1:=cq (enc (cn e.claims)) (enc (cn e.claims));have q2:=cr (cn e.claims) (cn e.claims);have q3:decide (((cn e.claims):Rat)=(cn e.claims))=true:=by simp
  refine awR [] [0,0,0,0,98,98,98,0,0,108,108,108,108,0,0,120,120,120,0] ?_;simp only [b7,seval,ab ap,q1,q2];repeat refine ob ?_
  refine ⟨_,hSR,(by first|rfl|simp [aU,aD,al,ax,A1.cells,ab ap,ab ao,ab au]),?_⟩;try simp only [ak,b7,seval]
  repeat refine ob ?_
  refine awF ?_;refine awK ?_;simp only [b7,seval];have hD:=nR e r hI hr;simp only [dlR,h0,if_true,ai] at hD;refine awN ?_;simp only [b7,seval,ab ao,ab au];repeat refine ob ?_
  refine ⟨_,hD,(by first|rfl|simp [aD,al,ax,A1.cells,ab ap]),?_⟩;try simp only [ak,b7,seval]
  repeat refine ob ?_
  have hD2:=nT e r 280000 hI2 (by decide) (by decide) hr hI.de;simp only [dlR,h0,if_true,ai] at hD2;refine awN ?_;simp only [b7,seval,ab ao,ab au];repeat refine ob ?_
  refine ⟨_,hD2,(by first|rfl|simp [aD,al,ax,A1.cells,ab ap]),?_⟩;try simp only [ak,b7,seval]
  repeat refine ob ?_
  have hSR2:=ej (eQ (az e) (cx r)).cl (eQ (az e) (cx r)).cl e.claims.length (pG _ _) (pG _ _) (by omega);rw [(gh rfl).2 rfl] at hSR2;have q1:=cq (enc (eQ (az e) (cx r)).rv) (enc (eQ (az e) (cx r)).rv);have q2:=cr (eQ (az e) (cx r)).rv (eQ (az e) (cx r)).rv;have q3:decide (((eQ (az e) (cx r)).rv:Rat)=(eQ (az e) (cx r)).rv)=true:=by simp
  refine awR [] [0,0,0,0,0,166,166,166,0,0,176,176,176,0] ?_;simp only [b7,seval,ab ap];repeat refine ob ?_
  refine ⟨_,hSR2,(by first|rfl|simp [aU,aD,al,ax,A1.cells,ab ap,ab ao,ab au]),?_⟩;try simp only [ak,b7,seval,q1,q2]
  repeat refine ob ?_
  refine awF ?_;refine awK ?_;simp only [b7,seval];have hS:=qu e r hI hr;simp only [slR,h0,if_true,ai] at hS;refine awN ?_;simp only [b7,seval,ab ao,ab au];repeat refine ob ?_
  refine ⟨_,hS,(by first|rfl|simp [aD,al,ax,A1.cells,ab ap]),?_⟩;try simp only [ak,b7,seval]
  repeat refine ob ?_
  have hS2:=qE e r 280000 hI2 (by decide) (by decide) hr hI.de;simp only [slR,h0,if_true,ai] at hS2;refine awN ?_;simp only [b7,seval,ab ao,ab au];repeat refine ob ?_
  refine ⟨_,hS2,(by first|rfl|simp [aD,al,ax,A1.cells,ab ap]),?_⟩;try simp only [ak,b7,seval]
  repeat refine ob ?_
  have hSR3:=ej (b9 (az e) (cx r)).cl (b9 (az e) (cx r)).cl e.claims.length (dO _ _) (dO _ _) (by omega);rw [(gh rfl).2 rfl] at hSR3;have q1:=cq (enc (b9 (az e) (cx r)).rv) (enc (b9 (az e) (cx r)).rv);have q2:=cr (b9 (az e) (cx r)).rv (b9 (az e) (cx r)).rv;have q3:decide (((b9 (az e) (cx r)).rv:Rat)=(b9 (az e) (cx r)).rv)=true:=by simp
  refine awR [] [0,0,0,0,0,222,222,222,0,0,232,232,232,0] ?_;simp only [b7,seval,ab ap];repeat refine ob ?_
  refine ⟨_,hSR3,(by first|rfl|simp [aU,aD,al,ax,A1.cells,ab ap,ab ao,ab au]),?_⟩;try simp only [ak,b7,seval,q1,q2]
  repeat refine ob ?_
  refine awF ?_;refine awK ?_;simp only [b7,seval];have hN:=wz e r hI hr;simp only [neR,h0,if_true,decide_true,Bool.true_and,ai] at hN;refine awN ?_;simp only [b7,seval,ab ao,ab au];repeat refine ob ?_
  refine ⟨_,hN,(by first|rfl|simp [aU,aD,al,ax,A1.cells,ab ap,ab ao,ab au]),?_⟩;try simp only [ak,b7,seval]
  repeat refine ob ?_
  have hN2:=wI e r 280000 hI2 (by decide) (by decide) hr hI.de (fun h0 x hx ho=>hI.st h0 hx ho);simp only [neR,h0,if_true,decide_true,Bool.true_and,ai] at hN2;refine awN ?_;simp only [b7,seval,ab ao,ab au];repeat refine ob ?_
  refine ⟨_,hN2,(by first|rfl|simp [aU,aD,al,ax,A1.cells,ab ap,ab ao,ab au]),?_⟩;try simp only [ak,b7,seval]
  repeat refine ob ?_
  have q1:=cq (enc ((eZ (az e) (cx r)).getD 0)) (enc ((eZ (az e) (cx r)).getD 0));have q2:=cr ((eZ (az e) (cx r)).getD 0) ((eZ (az e) (cx r)).getD 0);have q3:decide ((((eZ (az e) (cx r)).getD 0):Rat)=((eZ (az e) (cx r)).getD 0))=true:=by simp
  refine awR [] [0,0,0,0,277,277,277,0,0,287,287,287,0,0] ?_;simp only [b7,seval,q1,q2,BEq.rfl];repeat refine ob ?_
  refine awX ?_;(first|(simp only [b7,seval];done)|(simp only [b7,seval,aJ];first|(simp [h0];done)))
 have hT:=sA e hI;simp only [ttR,h0,if_false,ai] at hT;refine awN ?_;simp only [b7,seval,ab ao,ab au];repeat refine ob ?_
 refine ⟨_,hT,(by first|rfl|simp [aU,aD,al,ax,A1.cells,ab ap,ab ao,ab au]),?_⟩;try simp only [ak,b7,seval]
 repeat refine ob ?_
 have hT2:=sG e 24 hI2 (by omega) hI.s.2.1 (by decide) (by decide);simp only [ttR,h0,if_false,ai] at hT2;refine awN ?_;simp only [b7,seval,ab ao,ab au];repeat refine ob ?_
 refine ⟨_,hT2,(by first|rfl|simp [aU,aD,al,ax,A1.cells,ab ap,ab ao,ab au]),?_⟩;try simp only [ak,b7,seval]
 repeat refine ob ?_
 have hG:=sC e r hI hr;simp only [grR,h0,if_false,ai] at hG;refine awN ?_;simp only [b7,seval,ab ao,ab au];repeat refine ob ?_
 refine ⟨_,hG,(by first|rfl|simp [aU,aD,al,ax,A1.cells,ab ap,ab ao,ab au]),?_⟩;try simp only [ak,b7,seval]
 repeat refine ob ?_
 have hG2:=sH e r 280000 hI2 (by decide) (by decide) hr hI.gr;simp only [grR,h0,if_false,ai] at hG2;refine awN ?_;simp only [b7,seval,ab ao,ab au];repeat refine ob ?_
 refine ⟨_,hG2,(by first|rfl|simp [aU,aD,al,ax,A1.cells,ab ap,ab ao,ab au]),?_⟩;try simp only [ak,b7,seval]
 repeat refine ob ?_
 have hSR:=nu;have q1:=cq (enc 0) (enc 0);have q2:=cr 0 0;have q3:decide ((0:Rat)=0)=true:=by simp
 refine awR [] [0,0,0,0,98,98,98,0,0,108,108,108,108,0,0,120,120,120,0] ?_;simp only [b7,seval,q1,q2];repeat refine ob ?_
 refine ⟨_,hSR,(by first|rfl|simp [aU,aD,al,ax,A1.cells,ab ap,ab ao,ab au]),?_⟩;try simp only [ak,b7,seval]
 repeat refine ob ?_
 refine awF ?_;refine awK ?_;simp only [b7,seval];have hD:=nR e r hI hr;simp only [dlR,h0,if_false,ai] at hD;refine awN ?_;simp only [b7,seval,ab ao,ab au];repeat refine ob ?_
 refine ⟨_,hD,(by first|rfl|simp [aU,aD,al,ax,A1.cells,ab ap,ab ao,ab au]),?_⟩;try simp only [ak,b7,seval]
 repeat refine ob ?_
 have hD2:=nT e r 280000 hI2 (by decide) (by decide) hr hI.de;simp only [dlR,h0,if_false,ai] at hD2;refine awN ?_;simp only [b7,seval,ab ao,ab au];repeat refine ob ?_
 refine ⟨_,hD2,(by first|rfl|simp [aU,aD,al,ax,A1.cells,ab ap,ab ao,ab au]),?_⟩;try simp only [ak,b7,seval]
 repeat refine ob ?_
 have hSR2:=nu;have q1:=cq (enc 0) (enc 0);have q2:=cr 0 0;have q3:decide ((0:Rat)=0)=true:=by simp
 refine awR [] [0,0,0,0,0,166,166,166,0,0,176,176,176,0] ?_;simp only [b7,seval];repeat refine ob ?_
 refine ⟨_,hSR2,(by first|rfl|simp [aU,aD,al,ax,A1.cells,ab ap,ab ao,ab au]),?_⟩;try simp only [ak,b7,seval,q1,q2]
 repeat refine ob ?_
 refine awF ?_;refine awK ?_;simp only [b7,seval];have hS:=qu e r hI hr;simp only [slR,h0,if_false,ai] at hS;refine awN ?_;simp only [b7,seval,ab ao,ab au];repeat refine ob ?_
 refine ⟨_,hS,(by first|rfl|simp [aU,aD,al,ax,A1.cells,ab ap,ab ao,ab au]),?_⟩;try simp only [ak,b7,seval]
 repeat refine ob ?_
 have hS2:=qE e r 280000 hI2 (by decide) (by decide) hr hI.de;simp only [slR,h0,if_false,ai] at hS2;refine awN ?_;simp only [b7,seval,ab ao,ab au];repeat refine ob ?_
 refine ⟨_,hS2,(by first|rfl|simp [aU,aD,al,ax,A1.cells,ab ap,ab ao,ab au]),?_⟩;try simp only [ak,b7,seval]
 repeat refine ob ?_
 have hSR3:=nu;have q1:=cq (enc 0) (enc 0);have q2:=cr 0 0;have q3:decide ((0:Rat)=0)=true:=by simp
 refine awR [] [0,0,0,0,0,222,222,222,0,0,232,232,232,0] ?_;simp only [b7,seval];repeat refine ob ?_
 refine ⟨_,hSR3,(by first|rfl|simp [aU,aD,al,ax,A1.cells,ab ap,ab ao,ab au]),?_⟩;try simp only [ak,b7,seval,q1,q2]
 repeat refine ob ?_
 refine awF ?_;refine awK ?_;simp only [b7,seval];have hN:=wz e r hI hr;simp only [neR,h0,if_false,decide_false,Bool.false_and,ai] at hN;refine awN ?_;simp only [b7,seval,ab ao,ab au];repeat refine ob ?_
 refine ⟨_,hN,(by first|rfl|simp [aU,aD,al,ax,A1.cells,ab ap,ab ao,ab au]),?_⟩;try simp only [ak,b7,seval]
 repeat refine ob ?_
 have hN2:=wI e r 280000 hI2 (by decide) (by decide) hr hI.de (fun h0 x hx ho=>hI.st h0 hx ho);simp only [neR,h0,if_false,decide_false,Bool.false_and,ai] at hN2;refine awN ?_;simp only [b7,seval,ab ao,ab au];repeat refine ob ?_
 refine ⟨_,hN2,(by first|rfl|simp [aU,aD,al,ax,A1.cells,ab ap,ab ao,ab au]),?_⟩;try simp only [ak,b7,seval]
 repeat refine ob ?_
 have q1:=cq (enc 0) (enc 0);have q2:=cr 0 0;have q3:decide ((0:Rat)=0)=true:=by simp
 refine awR [] [0,0,0,0,277,277,277,0,0,287,287,287,0,0] ?_;simp only [b7,seval,q1,q2];repeat refine ob ?_
 refine awX ?_;(first|(simp only [b7,seval];done)|(simp only [b7,seval,aJ];first|(simp [h0];done)))
def IT:=And.intro zS (And.intro ic (cD))
theorem gP:type_of%IT:=IT
theorem IU (e:GEst) (r:GRat) (he:y9 e) (hr:rR r):aR prog 10 [.agg (aJ e),.agg (ai r)] (one (.bool true)):=by
 refine aP func10 rfl (by decide) (N:=20) rfl (by simp) (R:=[.tmp 4]) rfl fun en k0=>?_
 refine awN ?_;simp only [gP,seval,aJ,ai];repeat refine ob ?_
 by_cases hf:eJ e=true
 ·by_cases hm:jj r=true
  ·have hFw:=xN e he;have hFr:=iU r;simp only [aJ,ai] at hFw hFr;refine awR [] [0,0,0,0,18,18,18,0] ?_;simp only [gP,seval,ab ao,ab au];repeat refine ob ?_
   refine ⟨_,hFw,(by first|rfl|simp [aU,aD,al,ax,A1.cells,ab ao,ab au]),?_⟩;try simp only [ak,gP,seval,hf]
   repeat refine ob ?_
   refine ⟨_,hFr,(by first|rfl|simp [aU,aD,al,ax,A1.cells,ab ao,ab au]),?_⟩;try simp only [ak,gP,seval,hm]
   repeat refine ob ?_
   refine awF ?_;refine awK ?_;simp only [gP,seval];have hI:=E3 hf;have h2:=zd hf;have hrs:=(oh hm).mono (n:=280000) (by decide);have hAg:=Bs e r hI h2 hrs;simp only [aJ,ai] at hAg;refine awR [] [0,0,33,33,33,0,0] ?_;simp only [gP,seval];repeat refine ob ?_
   refine ⟨_,nr,(by first|rfl|simp [aU,aD,al,ax,A1.cells,ab ao,ab au]),?_⟩;try simp only [ak,gP,seval,ab ao,ab au]
   repeat refine ob ?_
   refine ⟨_,hAg,(by first|rfl|simp [aU,aD,al,ax,A1.cells,ab ao,ab au]),?_⟩;try simp only [ak,gP,seval]
   repeat refine ob ?_
   refine awX ?_;(first|(simp only [gP,seval];done)|(simp only [gP,seval,aJ,ai];first|(simp [hf,hm];done)))
  have hFw:=xN e he;have hFr:=iU r;simp only [aJ,ai] at hFw hFr;refine awR [] [0,0,0,0,18,18,18,0] ?_;simp only [gP,seval,ab ao,ab au];repeat refine ob ?_
  refine ⟨_,hFw,(by first|rfl|simp [aU,aD,al,ax,A1.cells,ab ao,ab au]),?_⟩;try simp only [ak,gP,seval,hf]
  repeat refine ob ?_
  refine ⟨_,hFr,(by first|rfl|simp [aU,aD,al,ax,A1.cells,ab ao,ab au]),?_⟩;try simp only [ak,gP,seval,hm]
  repeat refine ob ?_
  refine awT ?_;refine awN ?_;simp only [gP,seval];repeat refine ob ?_
  refine ⟨_,nr,(by first|rfl|simp [aU,aD,al,ax,A1.cells,ab ao,ab au]),?_⟩;try simp only [ak,gP,seval]
  repeat refine ob ?_
  refine awX ?_;(first|(simp only [gP,seval];done)|(simp only [gP,seval,aJ,ai];first|(simp [hf,hm];done)))
 have hFw:=xN e he;have hFr:=iU r;simp only [aJ,ai] at hFw hFr;refine awR [] [0,0,0,0,18,18,18,0] ?_;simp only [gP,seval,ab ao,ab au];repeat refine ob ?_
 refine ⟨_,hFw,(by first|rfl|simp [aU,aD,al,ax,A1.cells,ab ao,ab au]),?_⟩;try simp only [ak,gP,seval,hf]
 repeat refine ob ?_
 refine awT ?_;refine awN ?_;simp only [gP,seval];repeat refine ob ?_
 refine ⟨_,nr,(by first|rfl|simp [aU,aD,al,ax,A1.cells,ab ao,ab au]),?_⟩;try simp only [ak,gP,seval]
 repeat refine ob ?_
 refine awX ?_;(first|(simp only [gP,seval];done)|(simp only [gP,seval,aJ,ai];first|(simp [hf];done)))
theorem DW (v0 v1:Value) (e:GEst) (r:GRat) (W:World) (o0:∃cs:Array Value,v0= .agg cs/\rC aJ y9 W (LT W.heap.size) cs.toList e) (o1:∃cs:Array Value,v1= .agg cs/\rC ai rR W (LT W.heap.size) cs.toList r):
  Calls prog 10 #[v0,v1] W fun e w'=>e= .returned (.bool true)/\Below W.heap.size W w':=by
 obtain ⟨h0,k0⟩:=zz o0;obtain ⟨h1,k1⟩:=zz o1;exact Ba (vs:=[v0,v1]) (IU e r k0 k1) ⟨h0,h1,trivial⟩
end Go.Proofs.YtokmkopihhnggaaGreatDoor
