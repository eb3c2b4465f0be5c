/- The reference's waterfall: deliver; walked by the abstract machine. -/
import Derived.Test.YtokmkopihhnggaaGreatDoorWr5M
import Derived.Test.YtokmkopihhnggaaGreatDoorWr3M
import Derived.Test.YtokmkopihhnggaaGreatDoorWp4M
set_option linter.unusedVariables false
set_option maxHeartbeats 4000000
set_option maxRecDepth 100000
set_option linter.unusedSimpArgs false
set_option linter.defProp false
namespace Go.Proofs.YtokmkopihhnggaaGreatDoor
open Go Go.RowKit Go.Proofs.Tryz
noncomputable def cBl (b:Bool):List C:=[.lit (.bool b)]
theorem pj (b:Bool):(cBl b).length=1:=rfl
theorem kJ (n:Nat) (S:RS):al (cRS n S)=true:=by simp [cRS,al,aw,ab aq]
theorem Kv {e:GEst} {m:Rat} {K Km Sm M Z Zg P K2 S2 Z2 Zr:Nat} (hB:rdB e K Km Sm M Z Zg P K2 S2 Z2 Zr) (hr:qB Zr (rG e m).room):(rS0 e m).got.cl.length=e.claims.length/\(rS0 e m).slo.cl.length=e.claims.length/\(rS0 e m).got.B 1/\(rS0 e m).slo.B 1/\qB Zr (rS0 e m).room:=by
 have hz:qB Zr (RS.z e.claims.length).room:=ce.mono (by have:=hr.pos;omega);unfold rS0;split
 ·rw [gx,gy];exact ⟨by simp [RS.z],by simp [RS.z],fL _,fL _,oe hz hr⟩
 exact ⟨by simp [RS.z],by simp [RS.z],fL _,fL _,hz⟩
theorem E8 (n:Nat):dO n [C.lit (.bool false)]=ar cBl (List.replicate n false):=by
 induction n with
 |zero=>rfl
 |succ n ih=>rw [List.replicate_succ,bh,←ih,lj];rfl
def F80:=And.intro zS (And.intro B6 (And.intro qo (And.intro Iy (And.intro ql (And.intro mc (And.intro me (And.intro Iz (And.intro nJ (And.intro qm (And.intro As (And.intro At (And.intro DZ (And.intro D3 (And.intro qn (And.intro nK (And.intro jW (And.intro wk (And.intro il (And.intro cG (And.intro rY (And.intro iy (And.intro d7 (JU)))))))))))))))))))))))
theorem F81:type_of%F80:=F80
theorem Jv (e:GEst) (m:Rat) (K Km Sm M Z Zg P K2 S2 Z2 Zr:Nat) (hB:rdB e K Km Sm M Z Zg P K2 S2 Z2 Zr) (hM:qB M m):aU prog 149 [.agg (aI e),.agg (ai (enc m))] (.val (.one (.sp (cRS e.claims.length (fd e m))))):=by
 have hz:=hB.z;have hn9:=hB.n;have han:=hB.an;have hzgb:=hB.zgb;have hpb:=hB.pb;have hpp:=hB.p;have hbb:=hB.b;have hzg:=hB.zg;have hzr2:=hB.zr2;have hGB:=pi (Z:=Z) (Zr:=Zr) t6 (aF e.claims) m true (RS.z e.claims.length) 1 M hB.rk hM (fL _) (fL _) (ce.mono (by omega)) (by omega) (by omega);obtain ⟨G,hGd⟩:∃G,rG e m=G:=⟨_,rfl⟩;rw [show b6 1 (aF e.claims) m true (RS.z e.claims.length)=G from hGd] at hGB;obtain ⟨hGg0,hGs0,hGr,hGl,hGk⟩:=hGB;have hGg:=hGg0.mono hzg;have hGs:=hGs0.mono hzg;rw [show (RS.z e.claims.length).got.cl.length=e.claims.length by simp [RS.z]] at hGl;rw [show (RS.z e.claims.length).slo.cl.length=e.claims.length by simp [RS.z]] at hGk;have hS0:=Kv hB (hGd▸hGr);refine aT func149 rfl (by decide) (N:=119) rfl (by simp) (R:=[.tmp 4]) rfl fun en k0=>?_
 refine awN ?_;simp only [F81,seval,ai,aI];have hG:=xA e m K Sm M Z hB.n hB.am hB.kb hB.rk hB.rin hM hB.z (by have:=hB.zg;have:=hB.zgb;omega) (by have:=hB.zb;omega);rw [show b6 1 (aF e.claims) m true (RS.z e.claims.length)=G from hGd] at hG;simp only [ai] at hG;refine awN ?_;simp only [F81,seval,ab av,ab aB];refine ⟨_,hG,(by first|rfl|simp [al,aw,kJ]),?_⟩;try simp only [ak,F81,seval]
 refine awR [19] [0,0,0,0,0] ?_;simp only [F81,seval];refine ⟨_,xy _ _ e.claims.length (by have:=hB.n;omega) (fun y B h=>?_),?_⟩
 ·by_cases hy:y<42
  ·exact hy
  exfalso;simp only [ap] at h;repeat rw [if_neg (by omega)] at h
  cases h
 rintro res H' nx' ⟨s,sg,sk,rfl,rfl⟩;simp only [F81,seval];refine qJ (M:=fun st=>∃S0 nx,(S0=rS0 e m)/\st=⟨mkT [(2,.val (.one (.ptr 2 0 0))),(5,.val (.one (.sp (cRS e.claims.length G)))),(6,.val (.one (.ptr 50 s 0)))],mkH [(2,⟨0,36,5,1,aI e⟩),(50,⟨s,214,12,1,[.own 46 sg e.claims.length 3,.own 48 sk e.claims.length 3,.lit (.bool (enc S0.got.rv).neg),.lit (.string (enc S0.got.rv).num),.lit (.string (enc S0.got.rv).den),.lit (.bool (enc S0.slo.rv).neg),.lit (.string (enc S0.slo.rv).num),.lit (.string (enc S0.slo.rv).den),.lit (.bool (enc S0.room).neg),.lit (.string (enc S0.room).num),.lit (.string (enc S0.room).den),.lit (.bool S0.bnd)]⟩),(48,⟨sk,32,3,e.claims.length,ar cQ S0.slo.cl⟩),(46,⟨sg,32,3,e.claims.length,ar cQ S0.got.cl⟩)],nx,0⟩) ?_ ?_
 ·by_cases hgb:G.bnd=true
  ·refine awN ?_;simp only [F81,seval,hgb,cRS];refine awT ?_;refine awR [29] [0,0,0,0,0,0] ?_;simp only [F81,seval];refine ⟨_,A5 _ _ s sg sk e.claims.length (RS.z e.claims.length) G.room (by rfl) (by rfl) (by rfl) (fun y B h=>?_) (ce.mono (by omega)) (hGr.mono (by have:=hB.zrb;omega)),?_⟩
   ·by_cases hy:y<9000
    ·exact hy
    exfalso;simp only [ap] at h;repeat rw [if_neg (by omega)] at h
    cases h
   rintro res H' nx' ⟨rfl,hW⟩;simp only [F81,seval];intro zc zQ hM;refine cq hW ?_;simp only [F81,seval];refine ch (aC [2,5,6] [2,50,48,46]) (hM _ ⟨((RS.z e.claims.length).kink G.room),?_,(by unfold rS0;rw [hGd,if_pos hgb]),?cs5⟩);case cs5=>(simp only [F81,seval,aI];rfl)
  refine awN ?_;simp only [F81,seval,hgb,cRS];refine awF ?_;refine awK ?_;simp only [F81,seval];intro zc zQ hM;refine ch (aC [2,5,6] [2,50,48,46]) (hM _ ⟨(RS.z e.claims.length),?_,(by unfold rS0;rw [hGd,if_neg hgb]),?cs7⟩);case cs7=>(simp only [F81,seval,aI];rfl)
 rintro st ⟨S0,s7,hS0d,rfl⟩;rw [←hS0d] at hS0;obtain ⟨hV0a,hV0b,hV0c0,hV0d0,hV0e⟩:=hS0;have hV0c:S0.got.B (1+0*(Z2+1)):=hV0c0.mono (by omega);have hV0d:S0.slo.B (1+0*(Z2+1)):=hV0d0.mono (by omega);refine awN ?_;simp only [F81,seval,aI,E8];repeat refine ob ?_
 refine awN ?_;simp only [F81,seval];refine aS [2,5,6,7,8] [2,50,48,46,33] ?_;try simp only [ak,F81,seval]
 repeat' first|apply awS|apply awB
 refine aM (fun n st=>∃i0 fl S w nx,i0<=e.agrs.length/\n=e.agrs.length-i0/\kI e.claims G (e.agrs.drop i0) fl S=kI e.claims G e.agrs (List.replicate e.claims.length false) S0/\fl.length=e.claims.length/\S.got.cl.length=e.claims.length/\S.slo.cl.length=e.claims.length/\S.got.B (1+w*(Z2+1))/\S.slo.B (1+w*(Z2+1))/\qB Zr S.room/\w+aN e.claims (e.agrs.drop i0)=aN e.claims e.agrs/\st=⟨mkT [(2,.val (.one (.ptr 2 0 0))),(5,.val (.one (.sp (cRS e.claims.length G)))),(6,.val (.one (.ptr 50 s 0))),(7,.val (.one (.own 33 s7 e.claims.length 1))),(8,one (.int .i64 i0))],mkH [(2,⟨0,36,5,1,aI e⟩),(50,⟨s,214,12,1,[.own 46 sg e.claims.length 3,.own 48 sk e.claims.length 3,.lit (.bool (enc S.got.rv).neg),.lit (.string (enc S.got.rv).num),.lit (.string (enc S.got.rv).den),.lit (.bool (enc S.slo.rv).neg),.lit (.string (enc S.slo.rv).num),.lit (.string (enc S.slo.rv).den),.lit (.bool (enc S.room).neg),.lit (.string (enc S.room).num),.lit (.string (enc S.room).den),.lit (.bool S.bnd)]⟩),(48,⟨sk,32,3,e.claims.length,ar cQ S.slo.cl⟩),(46,⟨sg,32,3,e.claims.length,ar cQ S.got.cl⟩),(33,⟨s7,4,1,e.claims.length,ar cBl fl⟩)],nx,0⟩) (e.agrs.length) ⟨0,(List.replicate e.claims.length false),S0,0,_,by omega,by omega,by rfl,(by first|omega|assumption|rfl|simp|(simp;omega)),(by first|omega|assumption|rfl|simp|(simp;omega)),(by first|omega|assumption|rfl|simp|(simp;omega)),(by first|omega|assumption|rfl|simp|(simp;omega)),(by first|omega|assumption|rfl|simp|(simp;omega)),(by first|omega|assumption|rfl|simp|(simp;omega)),(by first|omega|assumption|rfl|simp|(simp;omega)),rfl⟩ ?_;rintro n0 st ⟨i0,fl,S,w,nx0,hk0,rfl,hL0,hV0_1,hV0_2,hV0_3,hV0_4,hV0_5,hV0_6,hV0_7,rfl⟩;by_cases hlt0:i0<e.agrs.length
 ·have hI0:(i0:Int)<(e.agrs.length:Int):=by omega
  have hat0:=aO jd e.agrs i0 hlt0;try rw [Nat.mul_one] at hat0
  rw [List.drop_eq_getElem_cons hlt0] at hL0;have hla:=hB.la _ (List.getElem_mem hlt0);have hpl:=hB.pl _ (List.getElem_mem hlt0);have hz2:=hB.z2 _ (List.getElem_mem hlt0);have hzr:=hB.zr _ (List.getElem_mem hlt0);have hfl:=hV0_1;have hSg:=hV0_2;have hSs:=hV0_3;have hSB:=hV0_4;have hSC:=hV0_5;have hSr:=hV0_6;have hw0:=hV0_7;rw [List.drop_eq_getElem_cons hlt0] at hw0;simp only [aN] at hw0;have hmw:(w+wN (ba e.claims (e.agrs[i0])).2)*(Z2+1)=w*(Z2+1)+wN (ba e.claims (e.agrs[i0])).2*(Z2+1):=Nat.add_mul _ _ _;have hm1:(w+wN (ba e.claims (e.agrs[i0])).2)*(Z2+1)<=aN e.claims e.agrs*(Z2+1):=Nat.mul_le_mul_right _ (by omega);generalize e.agrs[i0]=a at *
  simp only [kI] at hL0;refine awN ?_;simp only [F81,seval,hI0,aI];refine awT ?_;refine awK ?_;simp only [F81,seval];refine awN ?_;simp only [F81,seval];refine awN ?_;simp only [F81,seval];refine awN ?_;simp only [F81,seval];refine ch (dl 9 (ai (enc 0)) (by rfl) (by show (3:Nat)≠0;decide) (by rfl) (fun κ vs h=>by rw [br];exact h)) ?_;refine ch (dl 10 (ai (enc 0)) (by rfl) (by show (3:Nat)≠0;decide) (by rfl) (fun κ vs h=>by rw [br];exact h)) ?_;simp only [F81,seval];have hV1a:qB (1+0*(Zg+1)) 0:=ce.mono (by omega);refine aS [2,5,6,7,8,9,10,11] [2,50,48,46,33,9,10] ?_;try simp only [ak,F81,seval,ai]
  repeat' first|apply awS|apply awB
  refine aM (fun n st=>∃i1 fl2 p r s9 s10 nx,i1<=e.claims.length/\n=e.claims.length-i1/\rIn a G.got.cl G.slo.cl (e.claims.drop i1) i1 fl2 p r=rIn a G.got.cl G.slo.cl e.claims 0 fl 0 0/\fl2.length=e.claims.length/\qB (1+i1*(Zg+1)) p/\qB (1+i1*(Zg+1)) r/\st=⟨mkT [(2,.val (.one (.ptr 2 0 0))),(5,.val (.one (.sp (cRS e.claims.length G)))),(6,.val (.one (.ptr 50 s 0))),(7,.val (.one (.own 33 s7 e.claims.length 1))),(8,one (.int .i64 i0)),(9,.val (.one (.ptr 9 s9 0))),(10,.val (.one (.ptr 10 s10 0))),(11,one (.int .i64 i1))],mkH [(2,⟨0,36,5,1,aI e⟩),(50,⟨s,214,12,1,[.own 46 sg e.claims.length 3,.own 48 sk e.claims.length 3,.lit (.bool (enc S.got.rv).neg),.lit (.string (enc S.got.rv).num),.lit (.string (enc S.got.rv).den),.lit (.bool (enc S.slo.rv).neg),.lit (.string (enc S.slo.rv).num),.lit (.string (enc S.slo.rv).den),.lit (.bool (enc S.room).neg),.lit (.string (enc S.room).num),.lit (.string (enc S.room).den),.lit (.bool S.bnd)]⟩),(48,⟨sk,32,3,e.claims.length,ar cQ S.slo.cl⟩),(46,⟨sg,32,3,e.claims.length,ar cQ S.got.cl⟩),(33,⟨s7,4,1,e.claims.length,ar cBl fl2⟩),(9,⟨s9,32,3,1,ai (enc p)⟩),(10,⟨s10,32,3,1,ai (enc r)⟩)],nx,0⟩) (e.claims.length) ⟨0,fl,0,0,_,_,_,by omega,by omega,by rfl,(by first|omega|assumption|rfl|simp|(simp;omega)),(by first|omega|assumption|rfl|simp|(simp;omega)),(by first|omega|assumption|rfl|simp|(simp;omega)),rfl⟩ ?_;rintro n1 st ⟨i1,fl2,p,r,s9,s10,nx1,hk1,rfl,hL1,hV1_1,hV1_2,hV1_3,rfl⟩;by_cases hlt1:i1<e.claims.length
  ·have hI1:(i1:Int)<(e.claims.length:Int):=by omega
   have hat1:=aO dk e.claims i1 hlt1;try rw [Nat.mul_one] at hat1
   rw [List.drop_eq_getElem_cons hlt1] at hL1;have hpB:=hV1_2;have hrB:=hV1_3;have hkg:i1<G.got.cl.length:=by omega
   have hks:i1<G.slo.cl.length:=by omega
   have hgB:=hGg.1 _ (List.getElem_mem hkg);have hsB:=hGs.1 _ (List.getElem_mem hks);have hgg:G.got.cl.getD i1 0=G.got.cl[i1]:=by rw [List.getD_eq_getElem?_getD,List.getElem?_eq_getElem hkg];rfl
   have hgs:G.slo.cl.getD i1 0=G.slo.cl[i1]:=by rw [List.getD_eq_getElem?_getD,List.getElem?_eq_getElem hks];rfl
   have hatg:=aO bV G.got.cl i1 hkg;have hats:=aO bV G.slo.cl i1 hks;simp only [cQ,ai] at hatg hats;have hi1:(i1+1)*(Zg+1)=i1*(Zg+1)+(Zg+1):=Nat.succ_mul _ _;have hi2:(i1+1)*(Zg+1)<=e.claims.length*(Zg+1):=Nat.mul_le_mul_right _ hlt1;have hpn:=(hpB.add hgB).mono (n:=1+(i1+1)*(Zg+1)) (by omega);have hrn:=(hrB.add hsB).mono (n:=1+(i1+1)*(Zg+1)) (by omega);have hp0:qB (1+(i1+1)*(Zg+1)) p:=hpB.mono (by omega);have hr0:qB (1+(i1+1)*(Zg+1)) r:=hrB.mono (by omega);generalize e.claims[i1]=c at *
   simp only [rIn] at hL1;refine awN ?_;simp only [F81,seval,ai,hI1,aI];refine awT ?_;refine awK ?_;simp only [F81,seval];by_cases hmb:mbA (i1:Int) a=true
   ·have hMb:=ks a (i1:Int) (by have:=hla.tn;omega) (fun t ht=>by have:=(hla.pn t ht).1;omega);refine awN ?_;simp only [F81,seval,hI0,hat0,bz,ab bR];repeat refine ob ?_
    refine ⟨_,hMb,(by first|rfl|simp [a8,aK,al,aw,A1.cells,ab bp,kJ]),?_⟩;try simp only [ak,F81,seval,hmb]
    refine awT ?_;have hset:=dJ pj fl2 i1 true (by omega);have hflb:=be pj fl2;simp only [cBl,Nat.mul_one] at hset;refine awN ?_;simp only [F81,seval,hI1,hset,hflb];repeat refine ob ?_
    have hP1:=mV p G.got.cl[i1] _ Zg hpB hgB (by omega) (by omega);simp only [ai] at hP1;refine awD (scT 0 8 (scq [16,18] .nil)) [0,0,0,0,0,0,0,0,0,0] ?_;simp only [F81,seval,hI1,cRS,hatg];repeat refine ob ?_
    refine ⟨_,hP1,(by first|rfl|simp [a8,aK,al,aw,A1.cells,ab bp,kJ]),?_⟩;try simp only [ak,F81,seval]
    have hP2:=mV r G.slo.cl[i1] _ Zg hrB hsB (by omega) (by omega);simp only [ai] at hP2;refine awD (scT 0 8 (scq [16,18] .nil)) [0,0,0,0,0,0,0,0,0,0] ?_;simp only [F81,seval,hI1,hats];repeat refine ob ?_
    refine ⟨_,hP2,(by first|rfl|simp [a8,aK,al,aw,A1.cells,ab bp,kJ]),?_⟩;try simp only [ak,F81,seval]
    refine awN ?_;simp only [F81,seval];repeat refine ob ?_
    refine ⟨_,aC [2,5,6,7,8,9,10,11] [2,50,48,46,33,9,10],e.claims.length-(i1+1),by omega,i1+1,(fl2.set i1 true),(p+G.got.cl[i1]),(r+G.slo.cl[i1]),?a20_s9,?a20_s10,?a20_nx,by omega,rfl,?i20_0,?i20_1,?i20_2,?i20_3,?st20⟩;case st20=>(simp only [F81,seval];first|rfl|(simp [aI,bz,hI0,hat0,hI1,hat1,hmb,Nat.add_mul];done))
    case i20_0=>(have h:=hL1;rw [if_pos hmb,hgg,hgs] at h;exact h)
    all_goals (first|omega|assumption|(simp;omega)|(simp_all;done))
   have hMb:=ks a (i1:Int) (by have:=hla.tn;omega) (fun t ht=>by have:=(hla.pn t ht).1;omega);refine awN ?_;simp only [F81,seval,hI0,hat0,bz,ab bR];repeat refine ob ?_
   refine ⟨_,hMb,(by first|rfl|simp [a8,aK,al,aw,A1.cells,ab bp,kJ]),?_⟩;try simp only [ak,F81,seval,hmb]
   refine awF ?_;refine awK ?_;simp only [F81,seval];refine awN ?_;simp only [F81,seval];repeat refine ob ?_
   refine ⟨_,aC [2,5,6,7,8,9,10,11] [2,50,48,46,33,9,10],e.claims.length-(i1+1),by omega,i1+1,?a23_fl2,?a23_p,?a23_r,?a23_s9,?a23_s10,?a23_nx,by omega,rfl,?i23_0,?i23_1,?i23_2,?i23_3,?st23⟩;case st23=>(simp only [F81,seval];first|rfl|(simp [aI,bz,hI0,hat0,hI1,hat1,hmb,Nat.add_mul];done))
   case i23_0=>(have h:=hL1;rw [if_neg hmb] at h;exact h)
   all_goals (first|omega|assumption|(simp;omega)|(simp_all;done))
  obtain rfl:i1=e.claims.length:=by omega
  have hI1:¬(e.claims.length:Int)<(e.claims.length:Int):=by omega
  rw [List.drop_length] at hL1;simp only [rIn] at hL1;have hpP:qB P p:=hV1_2.mono (by have:=hB.p;omega);have hrP:qB P r:=hV1_3.mono (by have:=hB.p;omega);refine awN ?_;simp only [F81,seval,ai,hI1,aI];refine awF ?_;refine awQ ?_;simp only [F81,seval];have hTi:=EY e a K Km hla;repeat' first|apply awS|apply awB
  refine cm [88] (by kernel_rfl) (.cons 0 true (.cons 1 true (.cons 2 true (.cons 3 true (.cons 4 true (.cons 5 true (.cons 6 true (.cons 8 true (.cons 9 true (.cons 7 false (.cons 10 false .nil))))))))))) (by kernel_rfl) (gs:=[none,none,none,none,none,none,none,none,none,none,none]) (by kernel_rfl) (by simp only [zT,seval];rfl) (by decide) ?_;simp only [F81,seval,hI0,hat0,bz,ab av,ab aB,ab bR,(id SD)];repeat refine ob ?_
  refine ⟨_,hTi,(by first|rfl|simp [al,aw,ab bp]),?_⟩;try simp only [ak,F81,seval,ai,hI0,hat0,hI1,aI,bz,ab av,ab aB,ab bR,ab bp]
  repeat refine ob ?_
  refine ⟨_,A6 _ _ s sg sk e.claims.length S (ba e.claims a).2 p r K2 S2 P P (1+w*(Z2+1)) Z2 Zr (by rfl) (by rfl) (by rfl) hSg hSs (fun y B h=>?_) (by omega) hpl.1 hpl.2 hpP hrP hSB hSC hSr hB.k2 hz2 hzr (by omega) hB.z2b hB.zrb,?_⟩
  ·by_cases hy:y<7000
   ·exact hy
   exfalso;simp only [ap] at h;repeat rw [if_neg (by omega)] at h
   cases h
  rintro res H' nx' ⟨rfl,hW⟩;simp only [F81,seval,(id SD)];refine cq hW ?_;simp only [F81,seval];obtain ⟨hQ1,hQ2,hQ3,hQ4,hQ5⟩:=pi (Z:=Z2) (Zr:=Zr) hrP (ba e.claims a).2 p true S (1+w*(Z2+1)) P hpl.1 hpP hSB hSC hSr hz2 hzr;have hQ6:(b6 r (ba e.claims a).2 p true S).got.B (1+(w+wN (ba e.claims a).2)*(Z2+1)):=hQ1.mono (by omega);have hQ7:(b6 r (ba e.claims a).2 p true S).slo.B (1+(w+wN (ba e.claims a).2)*(Z2+1)):=hQ2.mono (by omega);rw [hSg] at hQ4;rw [hSs] at hQ5;refine awN ?_;simp only [F81,seval];repeat refine ob ?_
  refine ⟨_,aC [2,5,6,7,8] [2,50,48,46,33],e.agrs.length-(i0+1),by omega,i0+1,(fl2),(b6 r (ba e.claims a).2 p true S),(w+wN (ba e.claims a).2),?a27_nx,by omega,rfl,?i27_0,?i27_1,?i27_2,?i27_3,?i27_4,?i27_5,?i27_6,?i27_7,?st27⟩;case st27=>(simp only [F81,seval];first|rfl|(simp [aI,hI0,hat0,hI1,Nat.add_mul];done))
  case i27_0=>(rw [←hL1] at hL0;exact hL0)
  all_goals (first|omega|assumption|(simp;omega)|(simp_all;done))
 obtain rfl:i0=e.agrs.length:=by omega
 have hI0:¬(e.agrs.length:Int)<(e.agrs.length:Int):=by omega
 rw [List.drop_length] at hL0;simp only [kI] at hL0;refine awN ?_;simp only [F81,seval,hI0,aI];refine awF ?_;refine awQ ?_;simp only [F81,seval];refine awN ?_;simp only [F81,seval];have hwe:w=aN e.claims e.agrs:=by have h:=hV0_7;rw [List.drop_length] at h;simpa [aN] using h
 have hSBe:S.got.B (1+aN e.claims e.agrs*(Z2+1)):=by rw [←hwe];exact hV0_4
 have hSCe:S.slo.B (1+aN e.claims e.agrs*(Z2+1)):=by rw [←hwe];exact hV0_5
 have hSBf:S.got.B (1+aN e.claims e.agrs*(Z2+1)+0*(Zg+1)):=hSBe.mono (by omega);have hSCf:S.slo.B (1+aN e.claims e.agrs*(Z2+1)+0*(Zg+1)):=hSCe.mono (by omega);refine aS [2,5,6,7,12] [2,50,48,46,33] ?_;try simp only [ak,F81,seval]
 repeat' first|apply awS|apply awB
 refine aM (fun n st=>∃i2 S2 nx,i2<=e.claims.length/\n=e.claims.length-i2/\gM G fl (e.claims.drop i2) i2 S2=gM G fl e.claims 0 S/\S2.got.cl.length=e.claims.length/\S2.slo.cl.length=e.claims.length/\S2.got.B (1+aN e.claims e.agrs*(Z2+1)+i2*(Zg+1))/\S2.slo.B (1+aN e.claims e.agrs*(Z2+1)+i2*(Zg+1))/\qB Zr S2.room/\st=⟨mkT [(2,.val (.one (.ptr 2 0 0))),(5,.val (.one (.sp (cRS e.claims.length G)))),(6,.val (.one (.ptr 50 s 0))),(7,.val (.one (.own 33 s7 e.claims.length 1))),(12,one (.int .i64 i2))],mkH [(2,⟨0,36,5,1,aI e⟩),(50,⟨s,214,12,1,[.own 46 sg e.claims.length 3,.own 48 sk e.claims.length 3,.lit (.bool (enc S2.got.rv).neg),.lit (.string (enc S2.got.rv).num),.lit (.string (enc S2.got.rv).den),.lit (.bool (enc S2.slo.rv).neg),.lit (.string (enc S2.slo.rv).num),.lit (.string (enc S2.slo.rv).den),.lit (.bool (enc S2.room).neg),.lit (.string (enc S2.room).num),.lit (.string (enc S2.room).den),.lit (.bool S2.bnd)]⟩),(48,⟨sk,32,3,e.claims.length,ar cQ S2.slo.cl⟩),(46,⟨sg,32,3,e.claims.length,ar cQ S2.got.cl⟩),(33,⟨s7,4,1,e.claims.length,ar cBl fl⟩)],nx,0⟩) (e.claims.length) ⟨0,S,_,by omega,by omega,by rfl,(by first|omega|assumption|rfl|simp|(simp;omega)),(by first|omega|assumption|rfl|simp|(simp;omega)),(by first|omega|assumption|rfl|simp|(simp;omega)),(by first|omega|assumption|rfl|simp|(simp;omega)),(by first|omega|assumption|rfl|simp|(simp;omega)),rfl⟩ ?_;rintro n2 st ⟨i2,S2,nx2,hk2,rfl,hL2,hV2_1,hV2_2,hV2_3,hV2_4,hV2_5,rfl⟩;by_cases hlt2:i2<e.claims.length
 ·have hI2:(i2:Int)<(e.claims.length:Int):=by omega
  have hat2:=aO dk e.claims i2 hlt2;try rw [Nat.mul_one] at hat2
  rw [List.drop_eq_getElem_cons hlt2] at hL2;have hfl2:i2<fl.length:=by omega
  have hSg2:=hV2_1;have hSs2:=hV2_2;have hSB2:=hV2_3;have hSC2:=hV2_4;have hkg:i2<G.got.cl.length:=by omega
  have hks:i2<G.slo.cl.length:=by omega
  have hgB2:=hGg.1 _ (List.getElem_mem hkg);have hsB2:=hGs.1 _ (List.getElem_mem hks);have hatg:=aO bV G.got.cl i2 hkg;have hats:=aO bV G.slo.cl i2 hks;simp only [cQ,ai] at hatg hats;have hj2:(i2+1)*(Zg+1)=i2*(Zg+1)+(Zg+1):=Nat.succ_mul _ _;have hj3:(i2+1)*(Zg+1)<=e.claims.length*(Zg+1):=Nat.mul_le_mul_right _ hlt2;have hSB9:S2.got.B (1+aN e.claims e.agrs*(Z2+1)+(i2+1)*(Zg+1)):=hSB2.mono (by omega);have hSC9:S2.slo.B (1+aN e.claims e.agrs*(Z2+1)+(i2+1)*(Zg+1)):=hSC2.mono (by omega);have hSBn:(S2.put (i2:Int) G.got.cl[i2] G.slo.cl[i2]).got.B (1+aN e.claims e.agrs*(Z2+1)+(i2+1)*(Zg+1)):=(eU hSB2 _ hgB2).mono (by omega);have hSCn:(S2.put (i2:Int) G.got.cl[i2] G.slo.cl[i2]).slo.B (1+aN e.claims e.agrs*(Z2+1)+(i2+1)*(Zg+1)):=(eU hSC2 _ hsB2).mono (by omega);have hln1:(S2.put (i2:Int) G.got.cl[i2] G.slo.cl[i2]).got.cl.length=e.claims.length:=(cb _ _ _).trans hSg2;have hln2:(S2.put (i2:Int) G.got.cl[i2] G.slo.cl[i2]).slo.cl.length=e.claims.length:=(cb _ _ _).trans hSs2;have hatf:=aO pj fl i2 hfl2;rw [Nat.mul_one] at hatf;have hflb2:(ar cBl fl).length=e.claims.length:=by rw [be pj fl];omega
  have hget:(ar cBl fl)[i2]? =some (.lit (.bool fl[i2])):=by have h:=congrArg (fun l=>l[0]?) hatf;simpa [cBl] using h
  generalize e.claims[i2]=c at *
  simp only [gM] at hL2;refine awN ?_;simp only [F81,seval,hI2,aI];refine awT ?_;refine awK ?_;simp only [F81,seval];by_cases hfp:fl[i2]=true
  ·refine awN ?_;simp only [F81,seval,hI2,hfp,hflb2,hget];repeat refine ob ?_
   refine awF ?_;refine awK ?_;simp only [F81,seval];refine awN ?_;simp only [F81,seval];repeat refine ob ?_
   refine ⟨_,aC [2,5,6,7,12] [2,50,48,46,33],e.claims.length-(i2+1),by omega,i2+1,?a33_S2,?a33_nx,by omega,rfl,?i33_0,?i33_1,?i33_2,?i33_3,?i33_4,?i33_5,?st33⟩;case st33=>(simp only [F81,seval];first|rfl|(simp [aI,hI0,hI2,hat2,hfp,Nat.add_mul];done))
   case i33_0=>(first|exact hL2|(rw [←hL2];simp only [reduceIte,hI0,hI2,hat2,hfp];done)|(rw [←hL2];simp [hI0];done)|(simp [hI0] at hL2;simpa using hL2)|(rw [←hL2];simp [*];done))
   all_goals (first|omega|assumption|(simp;omega)|(simp_all;done))
  refine awN ?_;simp only [F81,seval,hI2,hfp,hflb2,hget];repeat refine ob ?_
  refine awT ?_;repeat' first|apply awS|apply awB
  refine cm [117] (by kernel_rfl) (.cons 0 true (.cons 1 true (.cons 2 true (.cons 3 true (.cons 4 true (.cons 5 true (.cons 6 true (.cons 7 true (.cons 8 true (.cons 9 true (.cons 10 true (.cons 11 true (.cons 12 true (.cons 13 true (.cons 14 true (.cons 15 true (.cons 16 false .nil))))))))))))))))) (by kernel_rfl) (gs:=[none,none,none,none,none,none,none,none,none,none,none,none,none,none,none,none,none]) (by kernel_rfl) (by simp only [zT,seval];rfl) (by decide) ?_;simp only [F81,seval,hI2,cRS,hatg,hats,(id SD)];repeat refine ob ?_
  refine ⟨_,rt _ _ s sg sk e.claims.length S2 (i2:Int) G.got.cl[i2] G.slo.cl[i2] (by rfl) (by rfl) (by rfl) hSg2 hSs2 (fun y B h=>?_) (by omega) (.inr ⟨by omega,by omega⟩) (hSB2.mono (by omega)) (hSC2.mono (by omega)) (hgB2.mono (by omega)) (hsB2.mono (by omega)),?_⟩
  ·by_cases hy:y<9000
   ·exact hy
   exfalso;simp only [ap] at h;repeat rw [if_neg (by omega)] at h
   cases h
  rintro res H' nx' ⟨rfl,hW⟩;try simp only [F81,seval]
  refine cq hW ?_;simp only [F81,seval];refine awN ?_;simp only [F81,seval];repeat refine ob ?_
  refine ⟨_,aC [2,5,6,7,12] [2,50,48,46,33],e.claims.length-(i2+1),by omega,i2+1,(S2.put (i2:Int) G.got.cl[i2] G.slo.cl[i2]),?a37_nx,by omega,rfl,?i37_0,?i37_1,?i37_2,?i37_3,?i37_4,?i37_5,?st37⟩;case st37=>(simp only [F81,seval];first|rfl|(simp [aI,hI0,hI2,hat2,hfp,Nat.add_mul];done))
  case i37_0=>(first|exact hL2|(rw [←hL2];simp only [reduceIte,hI0,hI2,hat2,hfp];done)|(rw [←hL2];simp [hI0];done)|(simp [hI0] at hL2;simpa using hL2)|(rw [←hL2];simp [*];done))
  all_goals (first|omega|assumption|(simp;omega)|(simp_all;done))
 obtain rfl:i2=e.claims.length:=by omega
 have hI2:¬(e.claims.length:Int)<(e.claims.length:Int):=by omega
 rw [List.drop_length] at hL2;simp only [gM] at hL2;refine awN ?_;simp only [F81,seval,hI2,aI];refine awF ?_;refine awQ ?_;simp only [F81,seval];refine bE 46 50 0 (by rfl) (by rfl) (by rfl) (by decide) (by show (3:Nat)≠0;decide) (by show (12:Nat)≠0;decide) rfl ?_;simp only [F81,seval];refine bE 48 50 1 (by rfl) (by rfl) (by rfl) (by decide) (by show (3:Nat)≠0;decide) (by show (12:Nat)≠0;decide) rfl ?_;simp only [F81,seval];refine wZ (t:=6) (by rfl) (by rfl) (by show (12:Nat)≠0;decide) (by rfl) ?_;simp only [F81,seval];refine awN ?_;simp only [F81,seval];refine awX ?_;simp only [F81,seval];have hd:fd e m=S2:=by unfold fd rO;rw [hGd,←hS0d,←hL0];exact hL2.symm
 simp [cRS,hd,ab aq]
structure delB (L:WL) (K Sm M Z G K2 S2 Z2:Nat):Prop where
 n:L.count<=1000
 pn:L.pools.length<=1000
 rk:wOK K Sm L.ranks
 rin:∀t∈L.ranks,wIn L.count t
 z:K+(M+L.ranks.length*(Sm+1))+Sm<=Z
 g:1+wN L.ranks*(Z+1)<=G
 gz:Z<=G
 gb:G<=40000000
 pl:∀p∈L.pools,wOK K2 S2 p.2/\(∀t∈p.2,wIn L.count t)/\p.1.length<=1000/\∀i∈p.1,0<=i/\i<(L.count:Int)
 pz:∀p∈L.pools,K2+(1+p.1.length*(G+1)+p.2.length*(S2+1))+S2<=Z2
 zb:Z2<=40000000000
 b:G+(L.pools.map fun p=>wN p.2).sum*(Z2+1)<=50000000000
def rA (ps:List ci):Nat:=(ps.map fun p=>wN p.2).sum
theorem tI (p:ci) (ps:List ci):rA (p::ps)=wN p.2+rA ps:=rfl
theorem np {L:WL} {K Sm M Z G K2 S2 Z2:Nat} (h:delB L K Sm M Z G K2 S2 Z2) {m:Rat} (hm:qB M m):∀x∈aX L m,qB G x:=fun x hx=>by
 have h1:=Ed h.rk hm (fL L.count);refine (h1.1 x hx).mono ?_;have h2:=h.g;have h3:=h.z;have h4:wN L.ranks*(K+(M+L.ranks.length*(Sm+1))+Sm+1)<=wN L.ranks*(Z+1):=Nat.mul_le_mul_left _ (by omega);omega
theorem A7 {n:Nat} (hn:0<n):∀(M:List Int) (l:List Rat),(∀x∈l,qB n x)->∀x∈fP M l,qB n x
 |[],_,h=>h
 |i::M,l,h=>A7 hn M _ fun x hx=>by
  rcases List.mem_or_eq_of_mem_set hx with h1|rfl
  ·exact h x h1
  exact ce.mono hn
theorem uV {n:Nat} (hn:0<n):∀(ps:List ci) (l:List Rat),(∀x∈l,qB n x)->∀x∈cO ps l,qB n x
 |[],_,h=>h
 |p::ps,l,h=>uV hn ps _ (A7 hn p.1 l h)
theorem iW {G:Nat} {g:List Rat} (hg:∀x∈g,qB G x) (h0:0<G):∀M:List Int,qB (1+M.length*(G+1)) (aQ g M)
 |[]=>by simpa [aQ] using ce
 |i::M=>by
  have h1:=iW hg h0 M;refine ((pe hg h0 i.toNat).add h1).mono ?_;simp only [List.length_cons,Nat.add_mul,Nat.one_mul];omega
noncomputable def xF (n:Nat) (R:WR):AV:= .tup [.one (.sh 3 n (ar cQ R.cl)),.agg (ai (enc R.rv))]
def F82:=And.intro zS (And.intro Au (And.intro wt (And.intro wu (And.intro Ap (And.intro sT (And.intro DV (And.intro jW (And.intro wv (And.intro cG (And.intro wy (And.intro qp (And.intro ws (And.intro d7 (sV))))))))))))))
theorem F83:type_of%F82:=F82
theorem Jw (L:WL) (m:Rat) (K Sm M Z G K2 S2 Z2:Nat) (hB:delB L K Sm M Z G K2 S2 Z2) (hM:qB M m):aU prog 80 [.agg (ck L),.agg (ai (enc m))] (xF L.count (fo L m)):=by
 have hGg:=hB.g;have hGz:=hB.gz;have hGb:=hB.gb;have hBb:G+rA L.pools*(Z2+1)<=50000000000:=hB.b;have hG0:0<G:=by omega
 have hLn:=hB.n;have hLp:=hB.pn;refine aT func80 rfl (by decide) (N:=39) rfl (by simp) (R:=[.tmp 4,.cell 5 32]) rfl fun en k0=>?_
 refine awN ?_;simp only [F83,seval,ai,ck];have hG:=nl L m K Sm M Z (by have:=hB.n;omega) hB.rk hB.rin hM hB.z (by omega) (by have:=hB.zb;omega);simp only [ai] at hG;refine awN ?_;simp only [F83,seval,ab az,ab ax];refine ⟨_,hG,(by first|rfl|simp [al,aw,ab aq]),?_⟩;try simp only [ak,F83,seval]
 have hgl:=iq L m;have hgB:=np hB hM;obtain ⟨g,hg⟩:∃g,aX L m=g:=⟨_,rfl⟩;rw [hg] at hgl hgB;rw [hg];refine awR [15] [0,0,0,0] ?_;simp only [F83,seval];refine ⟨_,E7 L g _ _ hgl (by have:=hB.n;omega) hB.pn (fun p hp=>⟨(hB.pl p hp).2.2.1,(hB.pl p hp).2.2.2⟩) (fun y B h=>?_),?_⟩
 ·by_cases hy:y<37
  ·exact hy
  exfalso;simp only [ap] at h;repeat rw [if_neg (by omega)] at h
  cases h
 rintro res H' nx' ⟨s,sc,rfl,rfl⟩;simp only [F83,seval];obtain ⟨nx9,hnx9⟩:∃n,nx'=n:=⟨_,rfl⟩;simp only [hnx9];refine awN ?_;simp only [F83,seval,ai];have hR0:(⟨cO L.pools g,0⟩:WR).B (G+0*(Z2+1)):=⟨fun x hx=>(uV (by omega) L.pools g hgB x hx).mono (by omega),ce.mono (by omega)⟩;have hR1:(⟨cO L.pools g,0⟩:WR).cl.length=L.count:=by show (cO L.pools g).length=_;rw [ee];exact hgl
 refine aS [5,6,7,17,18,19] [50,48,5] ?_;try simp only [ak,F83,seval]
 repeat' first|apply awS|apply awB
 refine aM (fun n st=>∃i0 R w nx,i0<=L.pools.length/\n=L.pools.length-i0/\gJ g (L.pools.drop i0) R=gJ g L.pools ⟨cO L.pools g,0⟩/\R.cl.length=L.count/\R.B (G+w*(Z2+1))/\w+rA (L.pools.drop i0)=rA L.pools/\st=⟨mkT [(5,.val (.one (.ptr 5 2 0))),(6,.val (.one (.sh 3 L.count (ar cQ g)))),(7,.val (.one (.ptr 50 s 0))),(17,.val (.one (.sh 2 L.pools.length (ar dv L.pools)))),(18,one (.int .i64 L.pools.length)),(19,one (.int .i64 i0))],mkH [(50,⟨s,200,4,1,.own 48 sc L.count 3::ai (enc R.rv)⟩),(48,⟨sc,32,3,L.count,ar cQ R.cl⟩),(5,⟨2,32,3,1,[.lit (.bool false),.lit (.string aA),.lit (.string aA)]⟩)],nx,0⟩) (L.pools.length) ⟨0,⟨cO L.pools g,0⟩,0,_,by omega,by omega,by rfl,(by first|omega|assumption|rfl|simp|(simp;omega)),(by first|omega|assumption|rfl|simp|(simp;omega)),(by first|omega|assumption|rfl|simp|(simp;omega)),rfl⟩ ?_;rintro n0 st ⟨i0,R,w,nx0,hk0,rfl,hL0,hV0_1,hV0_2,hV0_3,rfl⟩;by_cases hlt0:i0<L.pools.length
 ·have hI0:(i0:Int)<(L.pools.length:Int):=by omega
  have hat0:=aO lv L.pools i0 hlt0;try rw [Nat.mul_one] at hat0
  rw [List.drop_eq_getElem_cons hlt0] at hL0;have hpp:=hB.pl _ (List.getElem_mem hlt0);have hpz:=hB.pz _ (List.getElem_mem hlt0);have hw0:=hV0_3;rw [List.drop_eq_getElem_cons hlt0,tI] at hw0;have hmw:(w+wN (L.pools[i0]).2)*(Z2+1)=w*(Z2+1)+wN (L.pools[i0]).2*(Z2+1):=Nat.add_mul _ _ _;have hm1:(w+wN (L.pools[i0]).2)*(Z2+1)<=rA L.pools*(Z2+1):=Nat.mul_le_mul_right _ (by omega);have hnl:=mW (L.pools[i0]).2 (aQ g (L.pools[i0]).1) R;have hnx:=(Ed hpp.1 (iW hgB (by omega) (L.pools[i0]).1) hV0_2).mono (n:=G+(w+wN (L.pools[i0]).2)*(Z2+1)) (by have h7:wN (L.pools[i0]).2*(K2+(1+(L.pools[i0]).1.length*(G+1)+(L.pools[i0]).2.length*(S2+1))+S2+1)<=wN (L.pools[i0]).2*(Z2+1):=Nat.mul_le_mul_left _ (by omega);omega);generalize L.pools[i0]=p at *
  simp only [gJ] at hL0;refine awN ?_;simp only [F83,seval,ai,hI0];refine awT ?_;refine awK ?_;simp only [F83,seval];refine awN ?_;simp only [F83,seval,hI0,hat0,dv];repeat refine ob ?_
  have hT:=m6 p g L.count hgl G (fun i hi=>by have:=hpp.2.2.2 i hi;omega) hgB (by omega) (by have:=hpp.2.2.1;omega) (by omega) (by have h8:=Nat.mul_le_mul hpp.2.2.1 (show G+1<=40000001 by omega);omega);simp only [dv,ai] at hT;have hTB:=iW hgB (by omega) p.1;have hRn:=hV0_1;have hRB:=hV0_2;repeat' first|apply awS|apply awB
  refine cm [29] (by kernel_rfl) (.cons 0 true (.cons 1 true (.cons 2 true (.cons 3 true (.cons 5 true (.cons 4 false (.cons 6 false .nil))))))) (by kernel_rfl) (gs:=[none,none,none,none,none,none,none]) (by kernel_rfl) (by simp only [zT,seval];rfl) (by decide) ?_;simp only [F83,seval,ab aq,ab az,ab bm,(id SD)];refine ⟨_,hT,(by first|rfl|simp [a8,aK,al,aw,A1.cells,ab aq]),?_⟩;try simp only [ak,F83,seval,ai,hI0,hat0,dv,ab aq,ab az,ab bm]
  repeat refine ob ?_
  refine ⟨_,Hq _ _ s sc L.count R p.2 (aQ g p.1) K2 S2 (1+p.1.length*(G+1)) (G+w*(Z2+1)) Z2 (by rfl) (by rfl) hRn (fun y B h=>?_) (by have:=hB.n;omega) hpp.1 hpp.2.1 hTB hRB hpz (by omega) hB.zb,?_⟩
  ·by_cases hy:y<7000
   ·exact hy
   exfalso;simp only [ap] at h;repeat rw [if_neg (by omega)] at h
   cases h
  rintro res H' nx' ⟨rfl,hW⟩;simp only [F83,seval,(id SD)];refine cq hW ?_;simp only [F83,seval];refine awN ?_;simp only [F83,seval,ai];repeat refine ob ?_
  refine ⟨_,aC [5,6,7,17,18,19] [50,48,5],L.pools.length-(i0+1),by omega,i0+1,(io p.2 (aQ g p.1) R),(w+wN p.2),?a8_nx,by omega,rfl,?i8_0,?i8_1,?i8_2,?i8_3,?st8⟩;case st8=>(simp only [F83,seval];first|rfl|(simp [hI0,hat0,Nat.add_mul];done))
  case i8_0=>(first|exact hL0|(rw [←hL0];simp only [reduceIte,hI0,hat0];done)|(rw [←hL0];simp [hI0,hat0];done)|(simp [hI0,hat0] at hL0;simpa using hL0)|(rw [←hL0];simp [*];done))
  all_goals (first|omega|assumption|(simp;omega)|(simp_all;done))
 obtain rfl:i0=L.pools.length:=by omega
 have hI0:¬(L.pools.length:Int)<(L.pools.length:Int):=by omega
 rw [List.drop_length] at hL0;simp only [gJ] at hL0;refine awN ?_;simp only [F83,seval,ai,hI0];refine awF ?_;refine awQ ?_;simp only [F83,seval];refine bE 48 50 0 (by rfl) (by rfl) (by rfl) (by decide) (by show (3:Nat)≠0;decide) (by show (4:Nat)≠0;decide) rfl ?_;simp only [F83,seval];refine awD (scT 0 9 (scq [18] .nil)) [0,0,0,0,0,0,0,0,0,0] ?_;simp only [F83,seval];refine awX ?_;simp only [F83,seval,ab aq];have hd:fo L m=R:=by unfold fo;rw [hg,hL0]
 simp [xF,hd,ai]
theorem A8 {q:Rat} (h:¬cr q<0):0<=q:=by
 unfold cr at h;rw [fF] at h;grind
theorem A9:∀{l:List GClaim},bu l=0->∀c∈l,0<=c.rank/\c.rank<=7/\0<=qOf c.amount
 |d::l,h,c,hc=>by
  simp only [bu] at h;split at h
  ·cases h
  split at h
  ·cases h
  split at h
  ·cases h
  rename_i h1 h2;rcases List.mem_cons.1 hc with rfl|hc
  ·exact ⟨by omega,by omega,A8 h2⟩
  exact A9 h c hc
theorem E9 {tk : List Bool} : ∀ {l : List GPart}, dP tk l = 0 → ∀ p ∈ l, pOK tk.length p ∧ (p.claim ≠ -1 → tk.getD p.claim.toNat false = false)
  | q :: l, h, p, hp => by
    simp only [dP] at h
    split at h
    · cases h
    rename_i h1
    split at h
    · cases h
    rename_i h2
    split at h
    · cases h
    rename_i h3
    split at h
    · cases h
    rename_i h4
    rcases List.mem_cons.1 hp with rfl | hp
    · refine ⟨⟨?_, fun h5 => ?_⟩, fun h5 => ?_⟩
      · by_cases h6 : p.claim = -1
        · exact .inl h6
        have h7 := fun h => h1 ⟨h6, h⟩
        exact .inr ⟨by omega, by omega⟩
      · have hc : p.capped = true := by
          rcases h5 with h5 | h5
          · cases hx : p.capped with
            | true => rfl
            | false => exact absurd ⟨h5, hx⟩ h2
          exact h5
        exact A8 fun h => h3 ⟨hc, h⟩
      cases hx : tk.getD p.claim.toNat false with
      | false => rfl
      | true => exact absurd ⟨h5, hx⟩ h4
    exact E9 h p hp
theorem Jx {a:bP} {tk:List Bool} (h:fm a tk=0):a.length<=24/\(∀t∈a,t.length<=24)/\a.flatten.length<=576/\(∀p∈a.flatten,pOK tk.length p/\(p.claim≠ -1->tk.getD p.claim.toNat false=false)):=by
 have h0:=nN h;unfold fm at h;split at h
 ·cases h
 rename_i h1;refine ⟨h0.1,fun t ht=>?_,h0.2.1,E9 h⟩;have h2:¬a.any er=true:=fun h=>h1 (.inr h)
 have h3:er t≠true:=fun h=>h2 (List.any_eq_true.2 ⟨t,ht,h⟩)
 unfold er at h3;simp only [ne_eq,decide_eq_true_eq] at h3;omega
theorem oh:∀(l:List Int) (tk:List Bool) (i:Nat),tk.getD i false=true->(mU tk l).getD i false=true
 |[],_,_,h=>h
 |j::l,tk,i,h=>by
  rw [mU];refine oh l _ i ?_;by_cases hj:j.toNat=i
  ·subst hj;have hi:j.toNat<tk.length:=by
    apply Classical.byContradiction;intro hn;rw [List.getD_eq_getElem?_getD,List.getElem?_eq_none (by omega)] at h;cases h
   rw [List.getD_eq_getElem?_getD,List.getElem?_set_self hi];rfl
  rw [List.getD_eq_getElem?_getD,List.getElem?_set_ne hj,←List.getD_eq_getElem?_getD];exact h
theorem Ba:∀(l:List Int) (tk:List Bool) (i:Int),i∈l->i.toNat<tk.length->(mU tk l).getD i.toNat false=true
 |j::l,tk,i,h,hi=>by
  rw [mU];by_cases hj:i=j
  ·subst hj;refine oh l _ _ ?_;rw [List.getD_eq_getElem?_getD,List.getElem?_set_self hi];rfl
  refine Ba l _ i ?_ (by rw [List.length_set];exact hi);rcases List.mem_cons.1 h with h|h
  ·exact absurd h hj
  exact h
theorem Bb:∀{l:List bP} {tk:List Bool},gH tk l=0->(∀a∈l,a.length<=24/\(∀t∈a,t.length<=24)/\a.flatten.length<=576/\aOK tk.length a/\∀i∈mem a,tk.getD i.toNat false=false)/\l.Pairwise fun a b=>∀i∈mem a,i∉mem b
 |[],tk,_=>⟨by simp,.nil⟩
 |a::l,tk,h=>by
  simp only [gH] at h;split at h
  ·rename_i h1;exact absurd h h1
  rename_i h1;have h1':fm a tk=0:=Classical.not_not.1 h1;obtain ⟨g1,g2,g3,g4⟩:=Jx h1';obtain ⟨k1,k2⟩:=Bb h;have hmem:∀i∈mem a,tk.getD i.toNat false=false/\i.toNat<tk.length:=fun i hi=>by
   obtain ⟨p,p1,p2,p3⟩:=jC (lk hi);obtain ⟨q1,q2⟩:=g4 p p1;rw [←p2];refine ⟨q2 p3,?_⟩;rcases q1.1 with h|h
   ·exact absurd h p3
   omega
  rw [iD] at k1;refine ⟨fun b hb=>?_,List.pairwise_cons.2 ⟨fun b hb i hi hib=>?_,k2⟩⟩
  ·rcases List.mem_cons.1 hb with rfl|hb
   ·exact ⟨g1,g2,g3,fun t ht x hx=>(g4 x (List.mem_flatten.2 ⟨t,ht,hx⟩)).1,fun i hi=>(hmem i hi).1⟩
   obtain ⟨j1,j2,j3,j4,j5⟩:=k1 b hb;refine ⟨j1,j2,j3,j4,fun i hi=>?_⟩;cases hx:tk.getD i.toNat false with
   |false=>rfl
   |true=>
    have h8:=oh (mem a) tk _ hx;rw [j5 i hi] at h8;cases h8
  have h8:=Ba (mem a) tk i hi (hmem i hi).2;rw [(k1 b hb).2.2.2.2 i hib] at h8;cases h8
theorem xG:∀(n:Nat) (M:List Int),M.Nodup->(∀i∈M,0<=i/\i<(n:Int))->M.length<=n
 |0,M,_,h=>by
  cases M with
  |nil=>simp
  |cons i M=>have:=h i (by simp);omega
 |n+1,M,hn,h=>by
  have h1:=xG n (M.erase (n:Int)) (hn.erase _) fun i hi=>by
   have h2:=(List.Nodup.mem_erase_iff hn).1 hi;have h3:=h i h2.2;omega
  have h4:M.length<=(M.erase (n:Int)).length+1:=by
   rw [List.length_erase];split<;>omega
  omega
structure wcOK (e:GEst):Prop where
 n:e.claims.length<=24
 an:e.agrs.length<=12
 cl:wEst e.claims
 ag:∀a∈e.agrs,a.length<=24/\(∀t∈a,t.length<=24)/\a.flatten.length<=576/\aOK e.claims.length a
 mi:∀a∈e.agrs,(∀i∈mem a,0<=i/\i<(e.claims.length:Int))/\(mem a).length<=e.claims.length
 ds:Jq (ay e).pools
theorem kL {e:GEst} (h:bS e=0):wcOK e:=by
 unfold bS at h;split at h
 ·cases h
 rename_i h1;split at h
 ·cases h
 split at h
 ·rename_i h3;exact absurd h h3
 rename_i h3;have hc:=A9 (Classical.not_not.1 h3);obtain ⟨g1,g2⟩:=Bb h;rw [List.length_replicate] at g1;have hm:∀a∈e.agrs,∀i∈mem a,0<=i/\i<(e.claims.length:Int):=fun a ha i hi=>by
  obtain ⟨p,p1,p2,p3⟩:=jC (lk hi);obtain ⟨t,ht,hp⟩:=List.mem_flatten.1 p1;rcases ((g1 a ha).2.2.2.1 t ht p hp).1 with h|h
  ·exact absurd h p3
  rw [←p2];exact h
 refine ⟨by omega,by omega,⟨fun c hcm=>(hc c hcm).2.2,fun c hcm=>⟨(hc c hcm).1,(hc c hcm).2.1⟩⟩,fun a ha=>⟨(g1 a ha).1,(g1 a ha).2.1,(g1 a ha).2.2.1,(g1 a ha).2.2.2.1⟩,fun a ha=>⟨hm a ha,xG _ _ (lD a) (hm a ha)⟩,?_⟩;show (e.agrs.map (ba e.claims)).Pairwise _;rw [List.pairwise_map];exact g2
theorem wcOK.eOK {e:GEst} (h:wcOK e):eOK e:=⟨h.cl,fun a ha=>(h.ag a ha).2.2.2,h.ds⟩
theorem uW:∀a:List (List GPart),pN a=a.flatten.length
 |[]=>rfl
 |t::a=>by rw [pN,uW a,List.flatten_cons,List.length_append]
theorem tJ:∀(t:List GPart) (rest:List Rat),(cy t rest).2.length=t.length
 |[],_=>rfl
 |x::t,rest=>by simp only [cy,List.length_cons,tJ t]
theorem iw:∀(a:List (List GPart)) (rest:List Rat),(bD a rest).2.length=a.length/\wN (bD a rest).2=pN a
 |[],_=>⟨rfl,rfl⟩
 |t::a,rest=>by
  obtain ⟨h1,h2⟩:=iw a (cy t rest).1;simp only [bD,List.length_cons,wN,pN,h1,h2,tJ,and_self]
theorem Hr (c:GClaim) (l:List GClaim) (i:Nat):∀(n s:Nat),wN ((List.range' s n).map fun r:Nat=>wRk (r:Int) (c::l) i)<=wN ((List.range' s n).map fun r:Nat=>wRk (r:Int) l (i+1))+if (s:Int)<=c.rank then 1 else 0
 |0,s=>by simp [wN]
 |n+1,s=>by
  have ih:=Hr c l i n (s+1);rw [List.range'_succ,List.map_cons,List.map_cons,wN,wN];simp only [wRk] at ih ⊢;by_cases h1:c.rank=(s:Int)
  ·rw [if_pos h1];have h2:¬((s+1:Nat):Int)<=c.rank:=by omega
   rw [if_neg h2] at ih;rw [if_pos (by omega)];simp only [List.length_cons];omega
  rw [if_neg h1];by_cases h2:((s+1:Nat):Int)<=c.rank
  ·rw [if_pos h2] at ih;rw [if_pos (by omega)];omega
  rw [if_neg h2] at ih;split<;>omega
theorem Fa:∀(n s i:Nat),wN ((List.range' s n).map fun r:Nat=>wRk (r:Int) [] i)=0
 |0,_,_=>rfl
 |n+1,s,i=>by rw [List.range'_succ,List.map_cons,wN,Fa n (s+1) i];rfl
theorem xH:∀(cs:List GClaim) (i:Nat),wN ((List.range' 0 8).map fun r:Nat=>wRk (r:Int) cs i)<=cs.length
 |[],i=>by rw [Fa];exact Nat.zero_le _
 |c::cs,i=>by
  have h1:=Hr c cs i 8 0;have h2:=xH cs (i+1);have h3:(if ((0:Nat):Int)<=c.rank then 1 else 0)<=1:=by split<;>omega
  rw [List.length_cons];omega
theorem nq (cs:List GClaim):wN (aF cs)<=cs.length:=by
 unfold aF;rw [List.range_eq_range'];exact xH cs 0
theorem Bc {n K Km:Nat} (hK0:0<K):∀(t:List GPart) (rest:List Rat) (B:Nat),(∀y∈rest,qB B y)->K<=B->B+t.length*(K+1)<=Km->(∀x∈t,sB K x.cap)->
  (∀y∈(cy t rest).1,qB (B+t.length*(K+1)) y)/\∀p∈(cy t rest).2,qB Km p.2
 |[],rest,B,h,_,_,_=>⟨by simpa [cy] using h,by simp [cy]⟩
 |x::t,rest,B,h,hK,hm,hx=>by
  simp only [List.length_cons,Nat.succ_mul] at hm ⊢;obtain ⟨h1,h2⟩:=lz h ((hx x (by simp)).qB hK0) hK (by omega);obtain ⟨h3,h4⟩:=Bc (n:=n) (Km:=Km) hK0 t (cV rest x).1 (B+(K+1)) h1 (by omega) (by omega) fun y hy=>hx y (by simp [hy])
  refine ⟨fun y hy=>(h3 y hy).mono (by omega),fun p hp=>?_⟩;simp only [cy] at hp;rcases List.mem_cons.1 hp with rfl|hp
  ·exact h2.mono (by omega)
  exact h4 p hp
theorem xI {K Km:Nat} (hK0:0<K):∀(a:List (List GPart)) (rest:List Rat) (B:Nat),(∀y∈rest,qB B y)->K<=B->B+pN a*(K+1)<=Km->(∀t∈a,∀x∈t,sB K x.cap)->
  (∀y∈(bD a rest).1,qB Km y)/\∀t∈(bD a rest).2,∀p∈t,qB Km p.2
 |[],rest,B,h,_,hm,_=>⟨fun y hy=>(h y hy).mono (by omega),by simp [bD]⟩
 |t::a,rest,B,h,hK,hm,hx=>by
  simp only [pN,Nat.add_mul] at hm;obtain ⟨h1,h2⟩:=Bc (n:=0) (Km:=Km) hK0 t rest B h hK (by omega) (hx t (by simp));obtain ⟨h3,h4⟩:=xI (Km:=Km) hK0 a (cy t rest).1 _ h1 (by omega) (by omega) fun u hu=>hx u (by simp [hu])
  refine ⟨h3,fun u hu=>?_⟩;simp only [bD] at hu;rcases List.mem_cons.1 hu with rfl|hu
  ·exact h2
  exact h4 u hu
def GK (K:Nat) (e:GEst):Prop:=sB K e.cash/\(∀c∈e.claims,sB K c.amount)/\∀a∈e.agrs,∀t∈a,∀p∈t,sB K p.cap
theorem lG {e:GEst} (h:wcOK e) {K:Nat} (hs:GK K e) (hK0:0<K) (hK:K<=10000):∀a∈e.agrs,layB e.claims a K (K+576*(K+1)):=fun a ha=>by
 obtain ⟨g1,g2,g3,g4⟩:=h.ag a ha;obtain ⟨m1,m2⟩:=h.mi a ha;have hn:=h.n;refine ⟨by omega,hs.2.1,by omega,fun t ht=>⟨by have:=g2 t ht;omega,fun x hx=>⟨(g4 t ht x hx).1,hs.2.2 a ha t ht x hx⟩⟩,by omega,m1,hK0,?_,by omega⟩;have:=Nat.mul_le_mul_right (K+1) (show pN a<=576 by rw [uW];exact g3);omega
def kS (nc K:Nat):Nat:=1+nc*(K+1)
def kZ (nc K M:Nat):Nat:=K+(M+8*(kS nc K+1))+kS nc K
def kG (nc K M:Nat):Nat:=1+nc*(kZ nc K M+1)+kZ nc K M
def kK (K:Nat):Nat:=K+576*(K+1)
def kT (K:Nat):Nat:=1+24*(kK K+1)
def kY (nc K M:Nat):Nat:=kK K+(1+nc*(kG nc K M+1)+25*(kT K+1))+kT K
theorem jO {e:GEst} (h:wcOK e) {K M nc na:Nat} (hs:GK K e) (hK0:0<K) (hnc:e.claims.length<=nc) (hnc2:nc<=24) (hna:e.agrs.length<=na)
  (hb:kG nc K M<=40000000/\kY nc K M<=40000000000/\kG nc K M+(na*600)*(kY nc K M+1)<=50000000000):delB (ay e) K (kS nc K) M (kZ nc K M) (kG nc K M) (kK K) (kT K) (kY nc K M):=by
 obtain ⟨b1,b2,b3⟩:=hb;have hn:=h.n;have han:=h.an;have e1:(ay e).count=e.claims.length:=rfl;have e2:(ay e).ranks=aF e.claims:=rfl;have e3:(ay e).pools=e.agrs.map (ba e.claims):=rfl;have hrn:=nq e.claims;have hpl:∀p∈(ay e).pools,wOK (kK K) (kT K) p.2/\(∀t∈p.2,wIn (ay e).count t)/\(p.1.length<=nc/\p.2.length<=25/\wN p.2<=600)/\∀i∈p.1,0<=i/\i<((ay e).count:Int):=fun p hp=>by
  rw [e3] at hp;obtain ⟨a,ha,rfl⟩:=List.mem_map.1 hp;obtain ⟨g1,g2,g3,g4⟩:=h.ag a ha;obtain ⟨m1,m2⟩:=h.mi a ha;have hlad:=q8 (cs:=e.claims) g4 h.cl.am;obtain ⟨w1,w2⟩:=iw a (e.claims.map fun c=>qOf c.amount);have hpn:pN a<=576:=by rw [uW];exact g3
  have hpk:=Nat.mul_le_mul_right (K+1) hpn;obtain ⟨B1,B2⟩:=xI (Km:=kK K) hK0 a (e.claims.map fun c=>qOf c.amount) K (fun y hy=>by
   obtain ⟨c,hc,rfl⟩:=List.mem_map.1 hy;exact (hs.2.1 c hc).qB hK0) (Nat.le_refl _) (by unfold kK;omega) (hs.2.2 a ha)
  have htl:∀t∈(ba e.claims a).2,t.length<=24/\∀p∈t,qB (kK K) p.2:=fun t ht=>by
   rcases List.mem_append.1 ht with ht|ht
   ·refine ⟨?_,B2 t ht⟩;obtain ⟨_,_,_,_,hmap⟩:=nY a (e.claims.map fun c=>qOf c.amount) g4 (by simp) (fun x hx=>by obtain ⟨c,h1,rfl⟩:=List.mem_map.1 hx;exact h.cl.am c h1);have h1:t.map (·.1)∈(bD a (e.claims.map fun c=>qOf c.amount)).2.map (fun t=>t.map (·.1)):=List.mem_map.2 ⟨t,ht,rfl⟩;rw [hmap] at h1;obtain ⟨u,hu,he⟩:=List.mem_map.1 h1;have h2:=congrArg List.length he;simp only [List.length_map] at h2;have:=g2 u hu;omega
   simp only [List.mem_singleton] at ht;subst ht;refine ⟨by unfold fa;rw [List.length_map];omega,fun p hp=>?_⟩;obtain ⟨j,_,rfl⟩:=List.mem_map.1 hp;exact pe B1 (by unfold kK;omega) _
  have e4:(ba e.claims a).2.length=a.length+1:=by show ((bD a _).2++[_]).length=_;rw [List.length_append,w1];rfl
  refine ⟨⟨by omega,fun t ht=>?_⟩,ge hlad rfl,⟨?_,by omega,?_⟩,m1⟩
  ·obtain ⟨t1,t2⟩:=htl t ht;refine ⟨by omega,(lm t t2).mono ?_,t2⟩;have:=Nat.mul_le_mul_right (kK K+1) t1;unfold kT;omega
  ·show (mem a).length<=nc;omega
  show wN ((bD a _).2++[_])<=600;rw [nQ,w2];have:(fa (mem a) (bD a (e.claims.map fun c=>qOf c.amount)).1).length<=24:=by unfold fa;rw [List.length_map];omega
  simp only [wN];omega
 refine ⟨by omega,by rw [e3,List.length_map];omega,⟨by rw [e2,fv];omega,fun t ht=>?_⟩,by rw [e2];exact eR e.claims,?_,?_,by unfold kG;omega,b1,fun p hp=>?_,fun p hp=>?_,b2,?_⟩
 ·rw [e2] at ht;obtain ⟨r,_,rfl⟩:=jI ht;have h1:=uL (r:Int) e.claims 0;have h2:∀p∈wRk (r:Int) e.claims 0,qB K p.2:=fun p hp=>by
   obtain ⟨_,_,c,h3,h4⟩:=nW (r:Int) e.claims 0 p hp;rw [h4];exact (hs.2.1 c h3).qB hK0
  refine ⟨by omega,(lm _ h2).mono ?_,h2⟩;have:=Nat.mul_le_mul_right (K+1) (show (wRk (r:Int) e.claims 0).length<=nc by omega);unfold kS;omega
 ·rw [e2,fv];unfold kZ;omega
 ·have:=Nat.mul_le_mul_right (kZ nc K M+1) (show wN (ay e).ranks<=nc by rw [e2];omega);unfold kG;omega
 ·obtain ⟨p1,p2,p3,p4⟩:=hpl p hp;exact ⟨p1,p2,by omega,p4⟩
 ·obtain ⟨p1,p2,p3,p4⟩:=hpl p hp;have h1:=Nat.mul_le_mul_right (kG nc K M+1) p3.1;have h2:=Nat.mul_le_mul_right (kT K+1) p3.2.1;unfold kY;omega
 have h1:∀ps:List ci,(∀p∈ps,wN p.2<=600)->(ps.map fun p=>wN p.2).sum<=ps.length*600:=by
  intro ps;induction ps with
  |nil=>intro _;simp
  |cons p ps ih=>
   intro hp;have h2:=ih fun q hq=>hp q (by simp [hq])
   have h3:=hp p (by simp);simp only [List.map_cons,List.sum_cons,List.length_cons];omega
 have h2:=h1 (ay e).pools fun p hp=>(hpl p hp).2.2.1.2.2
 have h3:(ay e).pools.length<=na:=by rw [e3,List.length_map];exact hna
 have h4:=Nat.mul_le_mul_right (kY nc K M+1) (Nat.le_trans h2 (Nat.mul_le_mul_right 600 h3));omega
theorem xJ {K S A n:Nat} {l:List WT} (h:wOK K S l) (m:Rat) {r:Rat} (hr:qB A r) {R:WR} (hR:R.B n):(cZ l m r R).B (n+wN l*(K+(A+S)+1)):=by
 unfold cZ ef;split
 ·rename_i hk;have hN:=Az l _ hk;have hgd:l.getD (aJ l m).1 []=l[(aJ l m).1]:=by rw [List.getD_eq_getElem?_getD,List.getElem?_eq_getElem hk];rfl
  have hmem:l.getD (aJ l m).1 []∈l:=by rw [hgd];exact List.getElem_mem hk
  rw [←hgd] at hN;have h5:=h.2 _ hmem;generalize l.getD (aJ l m).1 []=t at *
  have h6:=yO (z:=K+(A+S)) (r/au t) t _ _ hR fun p hp=>((h5.2.2 p hp).mul (hr.div h5.2.1))
  have h7:t.length*(K+(A+S)+1)<=wN l*(K+(A+S)+1):=Nat.mul_le_mul_right _ (by omega);exact h6.mono (by omega)
 exact hR.mono (by omega)
theorem tK {L:WL} {K S:Nat} (h:wOK K S L.ranks) (m:Rat):∀x∈bg L m,qB (1+wN L.ranks*(K+(1+S)+1)) x:=
 (xJ h m t6 (fL L.count)).1
theorem xK {L:WL} {K Sm M Z G K2 S2 Z2:Nat} (h:delB L K Sm M Z G K2 S2 Z2) (hM:0<M) (m:Rat):∀x∈bg L m,qB G x:=fun x hx=>by
 refine (tK h.rk m x hx).mono ?_;have h2:=h.g;have h3:=h.z;have h4:wN L.ranks*(K+(1+Sm)+1)<=wN L.ranks*(Z+1):=Nat.mul_le_mul_left _ (by omega);omega
theorem uX {S:Nat}:∀(l:List WT),(∀t∈l,qB S (au t))->qB (1+l.length*(S+1)) (cK l)
 |[],_=>by simpa [cK] using ce
 |t::l,h=>by
  have h1:=uX l fun x hx=>h x (by simp [hx])
  refine ((h t (by simp)).add h1).mono ?_;simp only [List.length_cons,Nat.add_mul,Nat.one_mul];omega
theorem ol:∀(l:List WT) (m:Rat),m=cK (l.take (aJ l m).1)+(aJ l m).2
 |[],m=>by simp only [aJ,List.take_nil,cK];grind
 |t::l,m=>by
  by_cases h:m<au t
  ·simp only [aJ,h,if_true,List.take_zero,cK];grind
  have h1:=ol l (m-au t);simp only [aJ,h,if_false,List.take_succ_cons,cK];grind
theorem oT:∀(l:List WT) (m:Rat),0<=m->wNN l->bd l m->aJ l (cK (l.take (aJ l m).1))=((aJ l m).1,0)
 |[],m,_,_,h=>absurd h (by simp [bd,aJ])
 |t::l,m,hm,hn,ho=>by
  by_cases h:m<au t
  ·have h0:(0:Rat)<au t:=by grind
   simp only [aJ,h,if_true,List.take_zero,cK,h0]
  have h2:bd l (m-au t):=by
   rcases (dn t l m).1 ho with h3|h3
   ·exact absurd h3 h
   exact h3
  have h1:=oT l (m-au t) (by grind) (fun x hx=>hn x (by simp [hx])) h2;have hc:=m5 (l.take (aJ l (m-au t)).1) fun x hx=>hn x (by have:=List.mem_of_mem_take hx;simp [this])
  simp only [aJ,h,if_false,List.take_succ_cons,cK];have h3:¬au t+cK (l.take (aJ l (m-au t)).1)<au t:=by grind
  rw [if_neg h3,show au t+cK (l.take (aJ l (m-au t)).1)-au t=cK (l.take (aJ l (m-au t)).1) by grind,h1]
theorem Cv (l:List WT) (k:Nat) (h:k<l.length):cK (l.take (k+1))=cK (l.take k)+au (l.getD k []):=by
 have hgd:l.getD k []=l[k]:=by rw [List.getD_eq_getElem?_getD,List.getElem?_eq_getElem h];rfl
 rw [List.take_add_one,List.getElem?_eq_getElem h,xq,hgd];simp only [Option.toList,cK];grind
theorem Bd (l:List WT) (m:Rat) (h:bd l m):m+cA l m=cK (l.take ((aJ l m).1+1)):=by
 have h1:=ol l m;rw [Cv l _ h];unfold cA;grind
theorem Cw {e:GEst} {m:Rat} (h:wEst e.claims) (hm:0<=m) (ho:bd (aF e.claims) m):
  ∃B,B=cK ((aF e.claims).take (aJ (aF e.claims) m).1)/\bg (ay e) m=bg (ay e) B/\(m+bJ (ay e) m=cK ((aF e.claims).take ((aJ (aF e.claims) m).1+1))∨
   ∃p∈(ay e).pools,∃k,m+bJ (ay e) m=B+(cK (p.2.take k)-aQ (aX (ay e) B) p.1)/aQ (bg (ay e) B) p.1):=by
 refine ⟨_,rfl,?_⟩;have hn:=fA h.am;have hb:=oT _ m hm hn ho;have he:=ol (aF e.claims) m;have hB0:=m5 ((aF e.claims).take (aJ (aF e.claims) m).1) fun x hx=>hn x (List.mem_of_mem_take hx)
 have hp:=qC (aF e.claims) m hm;generalize hB:cK ((aF e.claims).take (aJ (aF e.claims) m).1)=B at *
 have hr:bg (ay e) m=bg (ay e) B:=by
  show (ef (aF e.claims) (aJ (aF e.claims) m).1 1 _).cl=(ef (aF e.claims) (aJ (aF e.claims) B).1 1 _).cl;rw [hb]
 refine ⟨hr,?_⟩;rcases oa (aX (ay e) m) (bg (ay e) m) (ay e).pools (cA (aF e.claims) m) with h1|⟨p,k1,k2,k3,k4⟩
 ·have h2:bJ (ay e) m=cA (aF e.claims) m:=h1;exact .inl (by rw [h2];exact Bd _ _ ho)
 have h2:bJ (ay e) m=cA p.2 (aQ (aX (ay e) m) p.1)/aQ (bg (ay e) m) p.1:=k4;refine .inr ⟨p,k1,(aJ p.2 (aQ (aX (ay e) m) p.1)).1+1,?_⟩;have h3:=Bd _ _ k2;rw [←h3,h2];have hoB:bd (aF e.claims) B:=by
  unfold bd;rw [hb];exact ho
 have hg:=tB (m:=B) (h:=(aJ (aF e.claims) m).2) h hB0 hp.1 fun _=>by
  have h5:=hp.2 ho;rw [←jM _ _ hoB];unfold cA;rw [hb];have hgd:(aF e.claims).getD (aJ (aF e.claims) m).1 []=(aF e.claims)[(aJ (aF e.claims) m).1]'ho:=by rw [List.getD_eq_getElem?_getD,List.getElem?_eq_getElem ho];rfl
  rw [hgd];grind
 rw [←he] at hg;have hT:=rn hg p.1;rw [←hr] at hT ⊢;generalize aQ (bg (ay e) m) p.1=κ at *
 generalize aQ (aX (ay e) B) p.1=gB at *
 generalize cA p.2 (aQ (aX (ay e) m) p.1)=gp at *
 generalize aQ (aX (ay e) m) p.1=gm at *
 generalize (aJ (aF e.claims) m).2=lf at *
 have h6:(gm+gp-gB)/κ=lf+gp/κ:=by
  have h7:gm+gp-gB=lf*κ+gp:=by grind
  rw [h7,Rat.div_def,Rat.div_def,Rat.add_mul];have h8:κ*κ⁻¹=1:=Rat.mul_inv_cancel κ (by grind);rw [Rat.mul_assoc,h8];grind
 rw [h6];grind
def kB (nc K:Nat):Nat:=1+8*(kS nc K+1)
def kR (nc K:Nat):Nat:=1+nc*(K+(1+kS nc K)+1)
def kU (nc K:Nat):Nat:=kB nc K+((1+25*(kT K+1))+(1+nc*(kG nc K (kB nc K)+1))+1+(1+nc*(kR nc K+1)))+1
theorem Hs {e:GEst} (h:wcOK e) {K nc na:Nat} (hs:GK K e) (hK0:0<K) (hnc:e.claims.length<=nc) (hnc2:nc<=24) (hna:e.agrs.length<=na)
  (hb:kG nc K (kB nc K)<=40000000/\kY nc K (kB nc K)<=40000000000/\kG nc K (kB nc K)+(na*600)*(kY nc K (kB nc K)+1)<=50000000000) {m:Rat} (hm:0<=m) (ho:bd (aF e.claims) m):qB (kU nc K) (m+bJ (ay e) m):=by
 have hB:=jO h hs hK0 hnc hnc2 hna hb;obtain ⟨B,hBe,hr,hk⟩:=Cw h.cl hm ho;have hl8:(aF e.claims).length=8:=fv _;have hcap:∀k,qB (kB nc K) (cK ((aF e.claims).take k)):=fun k=>by
  have h1:=uX ((aF e.claims).take k) fun t ht=>(hB.rk.2 t (List.mem_of_mem_take ht)).2.1
  refine h1.mono ?_;have h2:((aF e.claims).take k).length<=8:=by rw [List.length_take];omega
  have:=Nat.mul_le_mul_right (kS nc K+1) h2;unfold kB;omega
 have hG0:0<kG nc K (kB nc K):=by unfold kG;omega
 rcases hk with hk|⟨p,hp,k,hk⟩
 ·rw [hk];exact (hcap _).mono (by unfold kU;omega)
 rw [hk];have hpn:p.1.length<=nc:=by
  have e3:(ay e).pools=e.agrs.map (ba e.claims):=rfl;rw [e3] at hp;obtain ⟨a,ha,rfl⟩:=List.mem_map.1 hp;exact Nat.le_trans (h.mi a ha).2 hnc
 have hpl:=hB.pl p hp;have h25:p.2.length<=25:=by
  have e3:(ay e).pools=e.agrs.map (ba e.claims):=rfl;rw [e3] at hp;obtain ⟨a,ha,rfl⟩:=List.mem_map.1 hp;have e4:(ba e.claims a).2.length=a.length+1:=by show ((bD a _).2++[_]).length=_;rw [List.length_append,(iw a _).1];rfl
  have:=(h.ag a ha).1;omega
 have c1:qB (1+25*(kT K+1)) (cK (p.2.take k)):=by
  have h1:=uX (p.2.take k) fun t ht=>(hpl.1.2 t (List.mem_of_mem_take ht)).2.1
  refine h1.mono ?_;have h2:(p.2.take k).length<=25:=by rw [List.length_take];omega
  have:=Nat.mul_le_mul_right (kT K+1) h2;omega
 have hBq:qB (kB nc K) B:=by rw [hBe];exact hcap _
 have c2:qB (1+nc*(kG nc K (kB nc K)+1)) (aQ (aX (ay e) B) p.1):=by
  refine (iW (np hB hBq) hG0 p.1).mono ?_;have:=Nat.mul_le_mul_right (kG nc K (kB nc K)+1) hpn;omega
 have c3:qB (1+nc*(kR nc K+1)) (aQ (bg (ay e) B) p.1):=by
  have hR:∀x∈bg (ay e) B,qB (kR nc K) x:=fun x hx=>by
   refine (tK hB.rk B x hx).mono ?_;have h1:wN (ay e).ranks<=nc:=Nat.le_trans (nq e.claims) hnc;have:=Nat.mul_le_mul_right (K+(1+kS nc K)+1) h1;unfold kR;omega
  refine (iW hR (by unfold kR;omega) p.1).mono ?_;have:=Nat.mul_le_mul_right (kR nc K+1) hpn;omega
 refine (hBq.add ((c1.sub c2).div c3)).mono ?_;unfold kU;omega
theorem rB {cs:List GClaim} {a:bP} (ha:aOK cs.length a):(ba cs a).1=rMs a cs.length 0:=zj fun t ht x hx=>(ha t ht x hx).1
theorem Jy {cs:List GClaim} {a:bP} (ha:aOK cs.length a) (g k:List Rat) (fl:List Bool):(rIn a g k cs 0 fl 0 0).2=(aQ g (ba cs a).1,aQ k (ba cs a).1):=by
 refine Prod.ext ?_ ?_
 ·rw [ru,rB ha];grind
 rw [ry,rB ha];grind
theorem Jz {s:RS} {d:Rat} (h:s.bnd=true):(s.kink d).bnd=true/\(s.kink d).room=bT s.room d:=by
 unfold RS.kink bT;rw [if_neg (by rw [h];decide)];split
 ·exact ⟨rfl,rfl⟩
 exact ⟨h,rfl⟩
theorem Be (cs : List GClaim) (G : RS) (hg : rNN G.got.cl) (hk : rNN G.slo.cl) (hc : ∀ c ∈ cs, 0 ≤ qOf c.amount) : ∀ (l : List bP) (fl : List Bool) (S : RS), (∀ a ∈ l, aOK cs.length a) →
    (kI cs G l fl S).2.got = gJ G.got.cl (l.map (ba cs)) S.got ∧ (kI cs G l fl S).2.slo = dX G.got.cl G.slo.cl (l.map (ba cs)) S.slo ∧ (S.bnd = true → (kI cs G l fl S).2.bnd = true ∧ (kI cs G l fl S).2.room = eW G.got.cl G.slo.cl (l.map (ba cs)) S.room) ∧ (S.bnd = false → (∀ a ∈ l, aQ G.slo.cl (ba cs a).1 = 0) → (kI cs G l fl S).2.bnd = false)
  | [], fl, S, _ => ⟨rfl, rfl, fun h => ⟨h, rfl⟩, fun h _ => h⟩
  | a :: l, fl, S, ha => by
    have h0 := ha a (by simp)
    have hp := q8 h0 hc
    have hr := Jy h0 G.got.cl G.slo.cl fl
    have e := ni (aQ G.slo.cl (ba cs a).1) (ba cs a).2 (aQ G.got.cl (ba cs a).1) S (jJ hg _) hp.nn
    have hrn := jJ hk (ba cs a).1
    have hu : kI cs G (a :: l) fl S = kI cs G l (rIn a G.got.cl G.slo.cl cs 0 fl 0 0).1 (b6 (aQ G.slo.cl (ba cs a).1) (ba cs a).2 (aQ G.got.cl (ba cs a).1) true S) := by rw [kI, hr]
    obtain ⟨i1, i2, i3, i4⟩ := Be cs G hg hk hc l (rIn a G.got.cl G.slo.cl cs 0 fl 0 0).1 (b6 (aQ G.slo.cl (ba cs a).1) (ba cs a).2 (aQ G.got.cl (ba cs a).1) true S) (fun x hx => ha x (by simp [hx]))
    rw [hu]
    generalize b6 (aQ G.slo.cl (ba cs a).1) (ba cs a).2 (aQ G.got.cl (ba cs a).1) true S = T at *
    have hT1 : T.got = io (ba cs a).2 (aQ G.got.cl (ba cs a).1) S.got := by
      rw [e]; split
      · rw [gx]
      rfl
    have hT2 : T.slo = cZ (ba cs a).2 (aQ G.got.cl (ba cs a).1) (aQ G.slo.cl (ba cs a).1) S.slo := by
      rw [e]; split
      · rw [gy]
      rfl
    refine ⟨?_, ?_, fun hb => ?_, fun hb hz => ?_⟩
    · rw [i1, hT1]; rfl
    · rw [i2, hT2]; rfl
    · have hT : T.bnd = true ∧ T.room = if bd (ba cs a).2 (aQ G.got.cl (ba cs a).1) ∧ 0 < aQ G.slo.cl (ba cs a).1 then bT S.room (cA (ba cs a).2 (aQ G.got.cl (ba cs a).1) / aQ G.slo.cl (ba cs a).1) else S.room := by
        by_cases ho : bd (ba cs a).2 (aQ G.got.cl (ba cs a).1) ∧ aQ G.slo.cl (ba cs a).1 ≠ 0
        · rw [if_pos ho] at e
          rw [if_pos ⟨ho.1, by grind⟩, e]
          exact Jz hb
        rw [if_neg ho] at e
        rw [if_neg (fun h => ho ⟨h.1, by grind⟩), e]
        exact ⟨hb, rfl⟩
      obtain ⟨j1, j2⟩ := i3 hT.1
      refine ⟨j1, ?_⟩
      rw [j2, hT.2]; rfl
    refine i4 ?_ fun x hx => hz x (by simp [hx])
    rw [e, if_neg (fun h => h.2 (hz a (by simp)))]
    exact hb
theorem Cx (i:Int) (p:ci) (ps:List ci):jK i (p::ps)↔i∈p.1∨jK i ps:=by simp [jK]
theorem Bf (cs:List GClaim) (G:RS) (j:Nat):∀(l:List bP) (fl:List Bool) (S:RS),cs.length<=fl.length->(∀a∈l,aOK cs.length a)->((kI cs G l fl S).1.getD j false=true↔fl.getD j false=true∨jK (j:Int) (l.map (ba cs)))
 |[],fl,S,_,_=>by simp [kI,jK]
 |a::l,fl,S,hn,ha=>by
  have h0:=ha a (by simp);rw [kI,Bf cs G j l _ _ (by rw [uU];exact hn) (fun x hx=>ha x (by simp [hx])),rz _ _ _ _ _ _ _ _ _ (by omega),List.map_cons,Cx,rB h0];exact or_assoc
theorem om (G:RS) (fl:List Bool):∀(l:List GClaim) (i:Nat) (s:RS),(gM G fl l i s).got.cl.length=s.got.cl.length/\(gM G fl l i s).slo.cl.length=s.slo.cl.length/\(gM G fl l i s).room=s.room/\(gM G fl l i s).bnd=s.bnd
 |[],_,_=>⟨rfl,rfl,rfl,rfl⟩
 |c::l,i,s=>by
  rw [gM];split
  ·exact om G fl l _ _
  obtain ⟨a,b,c,d⟩:=om G fl l (i+1) (s.put (i:Int) (G.got.cl.getD i 0) (G.slo.cl.getD i 0));exact ⟨a.trans (cb _ _ _),b.trans (cb _ _ _),c,d⟩
theorem Bg {i n:Nat} {j:Int} {fl:List Bool} {x:Rat} (hf:fl.getD i false=true):(if ((i+1:Nat):Int)<=j/\j<((i+1+n:Nat):Int)/\fl.getD j.toNat false=false then x else 0)=if (i:Int)<=j/\j<((i+(n+1):Nat):Int)/\fl.getD j.toNat false=false then x else 0:=by
 by_cases hj:j=(i:Int)
 ·subst hj;rw [if_neg (by omega),if_neg (by rw [Int.toNat_natCast,hf];simp)]
 have:(((i+1:Nat):Int)<=j/\j<((i+1+n:Nat):Int)/\fl.getD j.toNat false=false)↔((i:Int)<=j/\j<((i+(n+1):Nat):Int)/\fl.getD j.toNat false=false):=by
  constructor
  ·rintro ⟨a,b,c⟩;exact ⟨by omega,by omega,c⟩
  rintro ⟨a,b,c⟩;exact ⟨by omega,by omega,c⟩
 simp only [this]
theorem xL {i n:Nat} {j:Int} {fl:List Bool} {g:List Rat} {y:Rat} (hf:¬fl.getD i false=true):(y+if (i:Int)=j then g.getD i 0 else 0)+(if ((i+1:Nat):Int)<=j/\j<((i+1+n:Nat):Int)/\fl.getD j.toNat false=false then g.getD j.toNat 0 else 0)=y+if (i:Int)<=j/\j<((i+(n+1):Nat):Int)/\fl.getD j.toNat false=false then g.getD j.toNat 0 else 0:=by
 by_cases hj:(i:Int)=j
 ·subst hj;have hf2:fl.getD i false=false:=by simpa using hf
  rw [if_pos rfl,if_neg (by omega),Int.toNat_natCast,if_pos ⟨by omega,by omega,hf2⟩];grind
 have:(((i+1:Nat):Int)<=j/\j<((i+1+n:Nat):Int)/\fl.getD j.toNat false=false)↔((i:Int)<=j/\j<((i+(n+1):Nat):Int)/\fl.getD j.toNat false=false):=by
  constructor
  ·rintro ⟨a,b,c⟩;exact ⟨by omega,by omega,c⟩
  rintro ⟨a,b,c⟩;exact ⟨by omega,by omega,c⟩
 simp only [this,hj,if_false];grind
theorem gW (G:RS) (fl:List Bool) (j:Int) (hj:j= -1∨0<=j):∀(l:List GClaim) (i:Nat) (s:RS),i+l.length<=s.got.cl.length->i+l.length<=s.slo.cl.length->
  (gM G fl l i s).got.get j=s.got.get j+(if (i:Int)<=j/\j<((i+l.length:Nat):Int)/\fl.getD j.toNat false=false then G.got.cl.getD j.toNat 0 else 0)/\
  (gM G fl l i s).slo.get j=s.slo.get j+(if (i:Int)<=j/\j<((i+l.length:Nat):Int)/\fl.getD j.toNat false=false then G.slo.cl.getD j.toNat 0 else 0)
 |[],i,s,_,_=>by
  rw [gM,List.length_nil,if_neg (by omega),if_neg (by omega)];exact ⟨by grind,by grind⟩
 |c::l,i,s,h1,h2=>by
  rw [gM];simp only [List.length_cons] at h1 h2 ⊢;by_cases hf:fl.getD i false=true
  ·obtain ⟨a,b⟩:=gW G fl j hj l (i+1) s (by omega) (by omega);rw [if_pos hf,a,b,Bg hf,Bg hf];exact ⟨rfl,rfl⟩
  have e1:(s.put (i:Int) (G.got.cl.getD i 0) (G.slo.cl.getD i 0)).got=s.got.add (i:Int) (G.got.cl.getD i 0):=rfl;have e2:(s.put (i:Int) (G.got.cl.getD i 0) (G.slo.cl.getD i 0)).slo=s.slo.add (i:Int) (G.slo.cl.getD i 0):=rfl;obtain ⟨a,b⟩:=gW G fl j hj l (i+1) (s.put (i:Int) (G.got.cl.getD i 0) (G.slo.cl.getD i 0)) (by rw [e1,cb];omega) (by rw [e2,cb];omega);rw [if_neg hf,a,b,e1,e2,qM (.inr ⟨by omega,by omega⟩) hj,qM (.inr ⟨by omega,by omega⟩) hj];exact ⟨xL hf,xL hf⟩
theorem Fb {A B:WR} (hl:A.cl.length=B.cl.length) (h:∀i:Nat,A.cl.getD i 0=B.cl.getD i 0) (hr:A.rv=B.rv):A=B:=by
 obtain ⟨a,x⟩:=A;obtain ⟨b,y⟩:=B;simp only at hl h hr;subst hr;congr 1;refine List.ext_getElem hl fun i h1 h2=>?_
 have:=h i;rw [List.getD_eq_getElem?_getD,List.getD_eq_getElem?_getD,List.getElem?_eq_getElem h1,List.getElem?_eq_getElem h2] at this;exact this
theorem uY (R:WR) (i:Nat):R.get (i:Int)=R.cl.getD i 0:=by
 unfold WR.get;rw [if_neg (by omega),Int.toNat_natCast]
theorem uZ (R:WR):R.get (-1)=R.rv:=by
 unfold WR.get;rw [if_pos rfl]
theorem Ht {e:GEst} {m:Rat} (he:wEst e.claims) (hm:0<=m):(rG e m).got.cl=aX (ay e) m/\(rG e m).slo.cl=bg (ay e) m/\((rG e m).bnd=true↔bd (aF e.claims) m)/\(bd (aF e.claims) m->(rG e m).room=cA (aF e.claims) m):=by
 have h:=ni 1 (aF e.claims) m (RS.z e.claims.length) hm (fA he.am);have h1:(1:Rat)≠0:=by grind
 have hd:cA (aF e.claims) m/1=cA (aF e.claims) m:=by rw [Rat.div_def];grind
 unfold rG;rw [h];by_cases ho:bd (aF e.claims) m
 ·rw [if_pos ⟨ho,h1⟩,hd];refine ⟨by rw [gx];rfl,by rw [gy];rfl,⟨fun _=>ho,fun _=>?_⟩,fun _=>?_⟩
  ·simp [RS.kink,RS.z]
  simp [RS.kink,RS.z]
 rw [if_neg (fun h=>ho h.1)];refine ⟨rfl,rfl,⟨fun h=>?_,fun h=>absurd h ho⟩,fun h=>absurd h ho⟩;cases h
theorem pk {e:GEst} {m:Rat} (he:eOK e) (hm:0<=m):(fd e m).got=fo (ay e) m/\(fd e m).slo=cn (ay e) m/\((fd e m).bnd=true↔bd (aF e.claims) m)/\(bd (aF e.claims) m->(fd e m).room=bJ (ay e) m):=by
 obtain ⟨g1,g2,g3,g4⟩:=Ht he.cl hm;have hl:=iU he;have hgn:=rg he.cl hm;have hkn:=rl he.cl hm;obtain ⟨z1,z2⟩:(rS0 e m).got=⟨List.replicate e.claims.length 0,0⟩/\(rS0 e m).slo=⟨List.replicate e.claims.length 0,0⟩:=by
  unfold rS0;split
  ·exact ⟨by rw [gx];rfl,by rw [gy];rfl⟩
  exact ⟨rfl,rfl⟩
 have hps:(ay e).pools=e.agrs.map (ba e.claims):=rfl;obtain ⟨o1,o2,o3,o4⟩:=Be e.claims (rG e m) (by rw [g1];exact hgn) (by rw [g2];exact hkn) he.cl.am e.agrs (List.replicate e.claims.length false) (rS0 e m) he.ag;have hfl:=fun j=>Bf e.claims (rG e m) j e.agrs (List.replicate e.claims.length false) (rS0 e m) (by simp) he.ag
 rw [g1,z1,←hps] at o1;rw [g1,g2,z2,←hps] at o2;rw [g1,g2,←hps] at o3;change (rO e m).2.got=_ at o1;change (rO e m).2.slo=_ at o2;have hL1:(rO e m).2.got.cl.length=e.claims.length:=by rw [o1,mh];simp
 have hL2:(rO e m).2.slo.cl.length=e.claims.length:=by rw [o2,kH];simp
 obtain ⟨r1,r2,r3,r4⟩:=om (rG e m) (rO e m).1 e.claims 0 (rO e m).2;have hzero:∀i:Nat,(⟨List.replicate e.claims.length 0,0⟩:WR).get (i:Int)=0:=fun i=>by rw [uY];exact lC _ _
 have hflj:∀j:Nat,(rO e m).1.getD j false=true↔jK (j:Int) (ay e).pools:=fun j=>by
  have h:=hfl j;have h0:¬(List.replicate e.claims.length false).getD j false=true:=by
   rw [List.getD_eq_getElem?_getD];cases hx:(List.replicate e.claims.length false)[j]? with
   |none=>simp
   |some b=>have:=List.mem_of_getElem? hx;simp at this;simp [this.2]
  exact ⟨fun x=>(h.1 x).resolve_left h0,fun x=>h.2 (.inr x)⟩
 refine ⟨Fb (by rw [qF];exact r1.trans hL1) (fun i=>?_) ?_,Fb (by rw [d9];exact r2.trans hL2) (fun i=>?_) ?_,?_,?_⟩
 ·have h:=(gW (rG e m) (rO e m).1 (i:Int) (.inr (by omega)) e.claims 0 (rO e m).2 (by omega) (by omega)).1;have hp:=iu (aX (ay e) m) (i:Int) (.inr (by omega)) (ay e).pools ⟨List.replicate e.claims.length 0,0⟩ fun p hp=>ge (hl p hp) (by simp)
  rw [o1,hp,hzero,uY,g1,Int.toNat_natCast] at h;change (fd e m).got.cl.getD i 0=_ at h;rw [h];obtain ⟨d1,d2⟩:=Jr (m:=m) he i;by_cases hi:jK (i:Int) (ay e).pools
  ·rw [if_neg (fun hh=>by rw [(hflj i).2 hi] at hh;simp at hh),d2 hi];grind
  have hf:(rO e m).1.getD i false=false:=by
   have:=mt (hflj i).1 hi;simpa using this
  rw [d1 hi,uR _ i _ hl hi];by_cases hin:i<e.claims.length
  ·rw [if_pos ⟨by omega,by omega,hf⟩];grind
  rw [if_neg (by omega),kE (by rw [gV];omega)];grind
 ·have h:=(gW (rG e m) (rO e m).1 (-1) (.inl rfl) e.claims 0 (rO e m).2 (by omega) (by omega)).1;have hp:=iu (aX (ay e) m) (-1) (.inl rfl) (ay e).pools ⟨List.replicate e.claims.length 0,0⟩ fun p hp=>ge (hl p hp) (by simp)
  rw [o1,hp,uZ,uZ,if_neg (by omega)] at h;change (fd e m).got.rv=_ at h;rw [h,Js he];grind
 ·have h:=(gW (rG e m) (rO e m).1 (i:Int) (.inr (by omega)) e.claims 0 (rO e m).2 (by omega) (by omega)).2;have hp:=gw (aX (ay e) m) (bg (ay e) m) (i:Int) (.inr (by omega)) (ay e).pools ⟨List.replicate e.claims.length 0,0⟩ fun p hp=>ge (hl p hp) (by simp)
  rw [o2,hp,hzero,uY,g2,Int.toNat_natCast] at h;change (fd e m).slo.cl.getD i 0=_ at h;rw [h];obtain ⟨d1,d2⟩:=EZ (m:=m) he i;by_cases hi:jK (i:Int) (ay e).pools
  ·rw [if_neg (fun hh=>by rw [(hflj i).2 hi] at hh;simp at hh),d2 hi];grind
  have hf:(rO e m).1.getD i false=false:=by
   have:=mt (hflj i).1 hi;simpa using this
  rw [d1 hi,uT _ _ i _ hl hi];by_cases hin:i<e.claims.length
  ·rw [if_pos ⟨by omega,by omega,hf⟩];grind
  rw [if_neg (by omega),kE (by rw [jk];omega)];grind
 ·have h:=(gW (rG e m) (rO e m).1 (-1) (.inl rfl) e.claims 0 (rO e m).2 (by omega) (by omega)).2;have hp:=gw (aX (ay e) m) (bg (ay e) m) (-1) (.inl rfl) (ay e).pools ⟨List.replicate e.claims.length 0,0⟩ fun p hp=>ge (hl p hp) (by simp)
  rw [o2,hp,uZ,uZ,if_neg (by omega)] at h;change (fd e m).slo.rv=_ at h;rw [h,E3 he];grind
 ·change (fd e m).bnd=(rO e m).2.bnd at r4;rw [r4];constructor
  ·intro hb;rcases Classical.em (bd (aF e.claims) m) with ho|ho
   ·exact ho
   exfalso;have hb0:(rS0 e m).bnd=false:=by
    unfold rS0;rw [if_neg (fun hx=>ho (g3.1 hx))];rfl
   have:=o4 hb0 fun a _=>by rw [g2];exact nh ho _
   change (rO e m).2.bnd=false at this;rw [this] at hb;cases hb
  intro ho;have hb0:(rS0 e m).bnd=true:=by
   unfold rS0;rw [if_pos (g3.2 ho)];simp [RS.kink,RS.z]
  exact (o3 hb0).1
 intro ho;change (fd e m).room=(rO e m).2.room at r3;rw [r3];have hb0:(rS0 e m).bnd=true/\(rS0 e m).room=cA (aF e.claims) m:=by
  unfold rS0;rw [if_pos (g3.2 ho),g4 ho];simp [RS.kink,RS.z]
 have h:=(o3 hb0.1).2;rw [hb0.2] at h;exact h
noncomputable def gpR (l:List WT) (m:Rat):AV:= .tup [.agg (ai (enc (if bd l m then cA l m else 0))),.one (.lit (.bool (decide (bd l m))))]
def F84:=And.intro zS (And.intro wq (And.intro sU (And.intro cG (And.intro An (d7)))))
theorem F85:type_of%F84:=F84
theorem Bh (H:Hp) (ny s sc nn:Nat) (R0:WR) (l:List WT) (m r:Rat) (K Sm M A C Z:Nat) (h50:H 50=some ⟨s,200,4,1,.own 48 sc nn 3::ai (enc R0.rv)⟩) (h48:H 48=some ⟨sc,32,3,nn,ar cQ R0.cl⟩) (hR0:R0.cl.length=nn) (hbH:∀y B,H y=some B->y<7000) (hn:nn<=1000000) (hl:wOK K Sm l) (hin:∀t∈l,wIn nn t) (hM:qB M m) (hMb:M+l.length*(Sm+1)<=50000000000) (hr:qB A r) (hC:R0.B C) (hZ:K+(A+Sm)<=Z) (hB:C+wN l*(Z+1)<=50000000000) (hZb:Z<=40000000000):cX prog 145 [.one (.sh 4 l.length (ar cWT l)),.agg (ai (enc m)),.agg (ai (enc r)),.one (.ptr 50 s 0)] H ny
  (fun res H' _=>res= .tup []/\∀y B',bC H [(50,⟨s,200,4,1,.own 48 sc nn 3::ai (enc (cZ l m r R0).rv)⟩),(48,⟨sc,32,3,nn,ar cQ (cZ l m r R0).cl⟩)] y=some B'->H' y=some B'):=by
 have hfl:=ll l m;have hll:=hl.1;refine cN 7000 func145 rfl (by decide) (N:=27) rfl (by simp) (Rl:=[]) rfl fun en k0=>?_
 refine awN ?_;simp only [F85,seval,ai];have hA:=uK l m K Sm M hl hM (by omega) (by omega);simp only [spR,ai] at hA;refine awN ?_;simp only [F85,seval,ab az];refine ⟨_,hA,(by first|rfl|simp [a8,aK,al,aw,A1.cells,ab az]),?_⟩;try simp only [ak,F85,seval]
 by_cases hk:((aJ l m).1:Int)<(l.length:Int)
 ·skip;refine awN ?_;simp only [F85,seval,hk];refine awT ?_;have hkl:(aJ l m).1<l.length:=by omega
  have hat:=aO lu l (aJ l m).1 hkl;obtain ⟨t,ht⟩:∃t,l[(aJ l m).1]=t:=⟨_,rfl⟩;rw [ht] at hat;have htm:t∈l:=ht▸List.getElem_mem hkl;have hgt:l.getD (aJ l m).1 []=t:=by rw [List.getD_eq_getElem?_getD,List.getElem?_eq_getElem hkl,ht];rfl
  have hsz:=hl.2 t htm;have hwl:t.length<=wN l:=by have h8:=Az l _ hkl;rw [ht] at h8;omega
  have hm2:t.length*(Z+1)<=wN l*(Z+1):=Nat.mul_le_mul_right _ hwl;have hfw:=hfl;repeat' first|apply awS|apply awB
  refine cm [26] (by kernel_rfl) (.cons 0 true (.cons 1 true (.cons 2 true (.cons 3 true (.cons 4 true (.cons 5 true (.cons 6 false .nil))))))) (by kernel_rfl) (gs:=[none,none,none,none,none,none,none]) (by kernel_rfl) (by simp only [zT,seval];rfl) (by decide) ?_;simp only [F85,seval,ai,hk,hat,cWT,(id SD)];repeat refine ob ?_
  refine ⟨_,AQ _ _ s sc nn R0 t r K A Sm C Z (by simp only [ap];(repeat rw [if_neg (by decide)]);exact h50) (by simp only [ap];(repeat rw [if_neg (by decide)]);exact h48) hR0 (fun y B h=>?_) (by omega) hsz.1 (hin _ htm) hr hsz.2.1 hsz.2.2 hC (by omega) (by omega) (by omega),?_⟩
  ·simp only [ap] at h;repeat (split at h;· omega)
   have h9:=hbH y B h;omega
  rintro res H' nx' ⟨rfl,hW⟩;simp only [F85,seval,(id SD)];try refine ⟨rfl,?_⟩
  intro y B h;have hpay:cZ l m r R0=e7 (r/au t) t R0:=by unfold cZ ef;rw [if_pos hkl,hgt]
  rw [hpay] at h;refine hW y B ?_;try simp only [bC,ap] at h ⊢
  by_cases hy:y=50
  ·subst hy;first|exact h|(simpa [h50,ai] using h)
  simp only [hy,if_false] at h ⊢;by_cases hy2:y=48
  ·subst hy2;first|exact h|(simpa [h48] using h)
  simp only [hy2,if_false] at h ⊢;have h9:=hbH y B h;repeat rw [if_neg (by omega)]
  exact h
 skip;refine awN ?_;simp only [F85,seval,hk];refine awF ?_;refine awK ?_;simp only [F85,seval];try refine ⟨rfl,?_⟩
 intro y B h;have hpay:cZ l m r R0=R0:=by unfold cZ ef;rw [if_neg (by omega)]
 rw [hpay] at h;try simp only [bC,ap] at h ⊢
 by_cases hy:y=50
 ·subst hy;first|exact h|(simpa [h50,ai] using h)
 simp only [hy,if_false] at h ⊢;by_cases hy2:y=48
 ·subst hy2;first|exact h|(simpa [h48] using h)
 simp only [hy2,if_false] at h ⊢;have h9:=hbH y B h;repeat rw [if_neg (by omega)]
 exact h
def F86:=And.intro zS (And.intro wq (And.intro sU (And.intro FV (And.intro cG (And.intro iy (d7))))))
theorem F87:type_of%F86:=F86
theorem Hu (l:List WT) (m:Rat) (K Sm M:Nat) (hl:wOK K Sm l) (hM:qB M m) (hS:Sm<=40000000000) (hB:M+l.length*(Sm+1)<=50000000000):aU prog 172 [.one (.sh 4 l.length (ar cWT l)),.agg (ai (enc m))] (gpR l m):=by
 have hfl:=ll l m;have hll:=hl.1;refine aT func172 rfl (by decide) (N:=26) rfl (by simp) (R:=[.cell 4 32,.tmp 5]) rfl fun en k0=>?_
 refine awN ?_;simp only [F87,seval,ai];have hA:=uK l m K Sm M hl hM (by omega) (by omega);simp only [spR,ai] at hA;refine awN ?_;simp only [F87,seval,ab az];refine ⟨_,hA,(by first|rfl|simp [a8,aK,al,aw,A1.cells,ab az]),?_⟩;try simp only [ak,F87,seval]
 by_cases hk:((aJ l m).1:Int)=(l.length:Int)
 ·refine awN ?_;simp only [F87,seval,hk];refine awT ?_;refine awN ?_;simp only [F87,seval];refine awX ?_;have ho:¬bd l m:=by unfold bd;omega
  simp only [F87,seval];simp [gpR,ho,br]
 refine awN ?_;simp only [F87,seval,hk];refine awF ?_;refine awK ?_;simp only [F87,seval];have hkl:(aJ l m).1<l.length:=by omega
 have hat:=aO lu l (aJ l m).1 hkl;obtain ⟨t,ht⟩:∃t,l[(aJ l m).1]=t:=⟨_,rfl⟩;rw [ht] at hat;have htm:t∈l:=ht▸List.getElem_mem hkl;have hgt:l.getD (aJ l m).1 []=t:=by rw [List.getD_eq_getElem?_getD,List.getElem?_eq_getElem hkl,ht];rfl
 have hsz:=hl.2 t htm;have hkI:((aJ l m).1:Int)<(l.length:Int):=by omega
 have hB4:=AP (au t) (aJ l m).2 _ _ hsz.2.1 (kw l m M (fun t ht=>(hl.2 t ht).2.1) hM) (by omega) (by omega);simp only [ai] at hB4;refine awD (scT 0 6 (scq [12,14,17] .nil)) [0,0,0,0,0,0,0,0,0] ?_;simp only [F87,seval,ai,hat,cWT,hkI];repeat refine ob ?_
 refine ⟨_,hB4,(by first|rfl|simp [a8,aK,al,aw,A1.cells,ab az]),?_⟩;try simp only [ak,F87,seval]
 refine awX ?_;have ho:bd l m:=hkl;have hgv:cA l m=au t-(aJ l m).2:=by unfold cA;rw [hgt]
 simp only [F87,seval];simp [gpR,ho,hgv,ai]
def F88:=And.intro zS (And.intro me (And.intro Hi (And.intro Aq (And.intro sT (And.intro jW (And.intro cG (And.intro jc (And.intro qp (And.intro D5 (And.intro d7 (D6)))))))))))
theorem F89:type_of%F88:=F88
theorem Bi (L:WL) (m:Rat) (K Sm M Z:Nat) (hn:L.count<=1000000) (hl:wOK K Sm L.ranks) (hin:∀t∈L.ranks,wIn L.count t) (hM:qB M m) (hMb:M+L.ranks.length*(Sm+1)<=50000000000) (hZ:K+(1+Sm)<=Z) (hB:1+wN L.ranks*(Z+1)<=50000000000) (hZb:Z<=40000000000):aU prog 144 [.agg (ck L),.agg (ai (enc m))] (.val (.one (.sh 3 L.count (ar cQ (bg L m))))):=by
 refine aT func144 rfl (by decide) (N:=21) rfl (by simp) (R:=[.tmp 4]) rfl fun en k0=>?_
 refine awN ?_;simp only [F89,seval,ai,ck];refine eF 40 ?_;dsimp only;refine awN ?_;simp only [F89,seval,jF];repeat refine ob ?_
 refine ch (dl 50 (.own 48 2 L.count 3::ai (enc 0)) (by rfl) (by show (4:Nat)≠0;decide) (by rfl) (fun κ vs h=>og _ h)) ?_;simp only [F89,seval];have h1:=Kj 1 (by decide) (by decide);rw [show (((1:Int):Rat))=1 by rfl] at h1;simp only [ai] at h1;repeat' first|apply awS|apply awB
 refine cm [16] (by kernel_rfl) (.cons 0 true (.cons 1 true (.cons 2 true (.cons 4 true (.cons 3 false (.cons 5 false .nil)))))) (by kernel_rfl) (gs:=[none,none,none,none,none,none]) (by kernel_rfl) (by simp only [zT,seval];rfl) (by decide) ?_;simp only [F89,seval,ai,(id SD)];refine ⟨_,h1,rfl,?_⟩;try simp only [ak,F89,seval,ai,ck,ab az]
 repeat refine ob ?_
 refine ⟨_,Bh _ _ 3 2 L.count ⟨List.replicate L.count 0,0⟩ L.ranks m 1 K Sm M 1 1 Z (by rfl) (by rfl) (by simp) (fun y B h=>?_) hn hl hin hM hMb t6 (fL _) (by omega) hB hZb,?_⟩
 ·simp only [ap] at h;repeat (split at h;· omega)
  cases h
 rintro res H' nx' ⟨rfl,hW⟩;simp only [F89,seval,(id SD)];refine cq hW ?_;simp only [F89,seval];refine bE 48 50 0 (by rfl) (by rfl) (by rfl) (by decide) (by show (3:Nat)≠0;decide) (by show (4:Nat)≠0;decide) rfl ?_;simp only [F89,seval];refine awN ?_;simp only [F89,seval,ai];refine awX ?_;(first|(simp only [F89,seval,ab aq,bg];done)|(simp only [F89,seval,ai];first|(simp [ab aq,bg];done)))
end Go.Proofs.YtokmkopihhnggaaGreatDoor
