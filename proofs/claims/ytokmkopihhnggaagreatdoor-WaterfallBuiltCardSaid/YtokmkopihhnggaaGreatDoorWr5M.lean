/- The reference's waterfall: pour; walked by the abstract machine. -/
import Derived.Test.YtokmkopihhnggaaGreatDoorWr3M
import Derived.Test.YtokmkopihhnggaaGreatDoorWp4M
import Derived.Test.YtokmkopihhnggaaGreatDoorPl3M
set_option linter.unusedVariables false
set_option maxHeartbeats 4000000
set_option maxRecDepth 100000
set_option linter.unusedSimpArgs false
set_option linter.defProp false
namespace Go.Proofs.YtokmkopihhnggaaGreatDoor
open Go Go.RowKit Go.Proofs.Tryz
theorem oS (q:Rat):(enc q).num={data:= #[]}↔q=0:=⟨fun h=>(cg q).1 (by rw [h];rfl),fun h=>ByteArray.ext (Array.eq_empty_of_size_eq_zero ((cg q).2 h))⟩
theorem o6 {H f:Hp} {b:Nat} (hbH:∀y B,H y=some B->y<b) (hf:∀x,x<b->x≠50->x≠48->x≠46->f x=H x) (l:List Nat) (h1:fM l 50=true) (h2:fM l 48=true) (h3:fM l 46=true):∀x B,H x=some B->fM l x=true∨f x=some B:=fun x B hB=>by
 by_cases e1:x=50
 ·subst e1;exact .inl h1
 by_cases e2:x=48
 ·subst e2;exact .inl h2
 by_cases e3:x=46
 ·subst e3;exact .inl h3
 exact .inr (by rw [hf x (hbH x B hB) e1 e2 e3];exact hB)
theorem E5 {a n:Nat} {m t:Rat} (hm:qB a m) (ht:qB n t):qB (a+(n+1)) (m-bT m t):=by
 unfold bT;split
 ·exact (hm.sub ht).mono (by omega)
 rw [show m-m=0 by grind];exact ce.mono (by omega)
theorem E6 {a n:Nat} {m t:Rat} (hm:qB a m) (ht:qB n t):qB (a+n) (bT m t):=by
 unfold bT;split
 ·exact ht.mono (by omega)
 exact hm.mono (by omega)
theorem nj (S:RS) (c:Int) (g q:Rat):(S.put c g q).got=S.got.add c g:=rfl
theorem nk (S:RS) (c:Int) (g q:Rat):(S.put c g q).slo=S.slo.add c q:=rfl
theorem gx (S:RS) (d:Rat):(S.kink d).got=S.got:=by unfold RS.kink;(repeat' split)<;>rfl
theorem gy (S:RS) (d:Rat):(S.kink d).slo=S.slo:=by unfold RS.kink;(repeat' split)<;>rfl
theorem oe {n:Nat} {S:RS} {d:Rat} (h:qB n S.room) (hd:qB n d):qB n (S.kink d).room:=by
 unfold RS.kink;split
 ·exact hd
 split
 ·exact hd
 exact h
def F66:=And.intro zS (And.intro Kc (And.intro G8 (And.intro DY (And.intro Ar (And.intro IQ (And.intro Kd (And.intro G9 (And.intro Ke (And.intro cG (And.intro jc (And.intro IR (And.intro iy (d7)))))))))))))
theorem F67:type_of%F66:=F66
theorem A6 (H:Hp) (ny s sg sk nn:Nat) (S0:RS) (l:List WT) (m0 rate:Rat) (K Sm M R9 C Z Zr:Nat) (h50:H 50=some ⟨s,214,12,1,[.own 46 sg nn 3,.own 48 sk nn 3,.lit (.bool (enc S0.got.rv).neg),.lit (.string (enc S0.got.rv).num),.lit (.string (enc S0.got.rv).den),.lit (.bool (enc S0.slo.rv).neg),.lit (.string (enc S0.slo.rv).num),.lit (.string (enc S0.slo.rv).den),.lit (.bool (enc S0.room).neg),.lit (.string (enc S0.room).num),.lit (.string (enc S0.room).den),.lit (.bool S0.bnd)]⟩) (h48:H 48=some ⟨sk,32,3,nn,ar cQ S0.slo.cl⟩) (h46:H 46=some ⟨sg,32,3,nn,ar cQ S0.got.cl⟩) (hgn:S0.got.cl.length=nn) (hsn:S0.slo.cl.length=nn) (hbH:∀y B,H y=some B->y<7000) (hn:nn<=1000000) (hl:wOK K Sm l) (hin:∀t∈l,wIn nn t) (hM:qB M m0) (hrate:qB R9 rate) (hC1:S0.got.B C) (hC2:S0.slo.B C) (hC3:qB Zr S0.room) (hKb:K<=10000000) (hZ:K+Sm+(M+l.length*(Sm+1))+Sm+R9<=Z) (hZr:Sm+(M+l.length*(Sm+1))+Sm+1+R9<=Zr) (hB:C+wN l*(Z+1)<=50000000000) (hZb:Z<=40000000000) (hZrb:Zr<=40000000000):cX prog 178 [.one (.ptr 50 s 0),.one (.sh 1 l.length (ar cRT l)),.agg (ai (enc m0)),.agg (ai (enc rate))] H ny
  (fun res H' _=>res= .tup []/\∀y B',bC H [(50,⟨s,214,12,1,[.own 46 sg nn 3,.own 48 sk nn 3,.lit (.bool (enc (b6 rate l m0 true S0).got.rv).neg),.lit (.string (enc (b6 rate l m0 true S0).got.rv).num),.lit (.string (enc (b6 rate l m0 true S0).got.rv).den),.lit (.bool (enc (b6 rate l m0 true S0).slo.rv).neg),.lit (.string (enc (b6 rate l m0 true S0).slo.rv).num),.lit (.string (enc (b6 rate l m0 true S0).slo.rv).den),.lit (.bool (enc (b6 rate l m0 true S0).room).neg),.lit (.string (enc (b6 rate l m0 true S0).room).num),.lit (.string (enc (b6 rate l m0 true S0).room).den),.lit (.bool (b6 rate l m0 true S0).bnd)]⟩),(48,⟨sk,32,3,nn,ar cQ (b6 rate l m0 true S0).slo.cl⟩),(46,⟨sg,32,3,nn,ar cQ (b6 rate l m0 true S0).got.cl⟩)] y=some B'->H' y=some B'):=by
 have hll:=hl.1;refine cN 7000 func178 rfl (by decide) (N:=91) rfl (by simp) (Rl:=[]) rfl fun en k0=>?_
 refine awN ?_;simp only [F67,seval,ai];refine awN ?_;simp only [F67,seval];refine awN ?_;simp only [F67,seval];have hV0a:S0.got.B (C+0*(Z+1)):=hC1.mono (by omega);have hV0b:S0.slo.B (C+0*(Z+1)):=hC2.mono (by omega);have hV0c:qB (M+0*(Sm+1)) m0:=hM.mono (by omega);refine eE H [0,1,6,7,8,9] [50,48,46,7006,7007] (o6 hbH (fun x h1 h2 h3 h4=>by simp only [ap];repeat rw [if_neg (by omega)]) _ (by rfl) (by rfl) (by rfl)) ?_;try simp only [ak,F67,seval,h50,h48,h46]
 repeat' first|apply awS|apply awB
 refine aM (fun n st=>∃i0 m mg S w nx,i0<=l.length/\n=l.length-i0/\b6 rate (l.drop i0) m mg S=b6 rate l m0 true S0/\S.got.cl.length=nn/\S.slo.cl.length=nn/\S.got.B (C+w*(Z+1))/\S.slo.B (C+w*(Z+1))/\qB Zr S.room/\qB (M+i0*(Sm+1)) m/\w+wN (l.drop i0)=wN l/\st=⟨mkT [(0,.val (.one (.ptr 50 s 0))),(1,.val (.one (.sh 1 l.length (ar cRT l)))),(6,.val (.one (.ptr 7006 ny 0))),(7,.val (.one (.ptr 7007 (ny+1) 0))),(8,one (.bool mg)),(9,one (.int .i64 i0))],bC H [(50,⟨s,214,12,1,[.own 46 sg nn 3,.own 48 sk nn 3,.lit (.bool (enc S.got.rv).neg),.lit (.string (enc S.got.rv).num),.lit (.string (enc S.got.rv).den),.lit (.bool (enc S.slo.rv).neg),.lit (.string (enc S.slo.rv).num),.lit (.string (enc S.slo.rv).den),.lit (.bool (enc S.room).neg),.lit (.string (enc S.room).num),.lit (.string (enc S.room).den),.lit (.bool S.bnd)]⟩),(48,⟨sk,32,3,nn,ar cQ S.slo.cl⟩),(46,⟨sg,32,3,nn,ar cQ S.got.cl⟩),(7006,⟨ny,32,3,1,ai (enc m)⟩),(7007,⟨ny+1,32,3,1,ai (enc rate)⟩)],nx,7000⟩) (l.length) ⟨0,m0,true,S0,0,_,by omega,by omega,by rfl,(by first|omega|assumption|rfl|simp|(simp;omega)),(by first|omega|assumption|rfl|simp|(simp;omega)),(by first|omega|assumption|rfl|simp|(simp;omega)),(by first|omega|assumption|rfl|simp|(simp;omega)),(by first|omega|assumption|rfl|simp|(simp;omega)),(by first|omega|assumption|rfl|simp|(simp;omega)),(by first|omega|assumption|rfl|simp|(simp;omega)),rfl⟩ ?_;rintro n0 st ⟨i0,m,mg,S,w,nx0,hk0,rfl,hL0,hV0_1,hV0_2,hV0_3,hV0_4,hV0_5,hV0_6,hV0_7,rfl⟩;by_cases hlt0:i0<l.length
 ·have hI0:(i0:Int)<(l.length:Int):=by omega
  have hat0:=aO GE l i0 hlt0;try rw [Nat.mul_one] at hat0
  rw [List.drop_eq_getElem_cons hlt0] at hL0;have htm:=(List.getElem_mem hlt0);have hsz:=hl.2 _ htm;have hGn:=hV0_1;have hSn:=hV0_2;have hGB:=hV0_3;have hSB:=hV0_4;have hRm:=hV0_5;have hmB0:=hV0_6;have hw0:=hV0_7;rw [List.drop_eq_getElem_cons hlt0] at hw0;simp only [wN] at hw0;have hmw:(w+(l[i0]).length)*(Z+1)=w*(Z+1)+(l[i0]).length*(Z+1):=Nat.add_mul _ _ _;have hm1:(w+(l[i0]).length)*(Z+1)<=wN l*(Z+1):=Nat.mul_le_mul_right _ (by omega);have hi1:(i0+1)*(Sm+1)<=l.length*(Sm+1):=Nat.mul_le_mul_right _ hlt0;have hi2:(i0+1)*(Sm+1)=i0*(Sm+1)+(Sm+1):=Nat.succ_mul _ _;have hmB:qB (M+l.length*(Sm+1)) m:=hmB0.mono (by omega);obtain ⟨tk,htk⟩:∃x,bT m (au (l[i0]))=x:=⟨_,rfl⟩;have htkB:=E6 hmB hsz.2.1;have hnm:=E5 hmB0 hsz.2.1;rw [htk] at htkB hnm;have hnm2:qB (M+(i0+1)*(Sm+1)) (m-tk):=hnm.mono (by omega);have hnw:qB (M+(i0+1)*(Sm+1)) m:=hmB0.mono (by omega);have hnG:S.got.B (C+(w+(l[i0]).length)*(Z+1)):=hGB.mono (by omega);have hnS:S.slo.B (C+(w+(l[i0]).length)*(Z+1)):=hSB.mono (by omega);generalize l[i0]=t at *
  simp only [b6] at hL0;refine awN ?_;simp only [F67,seval,ai,hI0];refine awT ?_;refine awK ?_;simp only [F67,seval];have hSu:=Jp t K hsz.1 hsz.2.2 (by omega);simp only [ai] at hSu;refine awN ?_;simp only [F67,seval,hI0,hat0,cRT,ab bN];repeat refine ob ?_
  refine ⟨_,hSu,(by first|rfl|simp [a8,aK,al,aw,A1.cells,ab bp,ab bN]),?_⟩;try simp only [ak,F67,seval]
  by_cases h0:au t=0
  ·have hz:(enc (au t)).num={data:= #[]}:=(oS _).2 h0;refine awN ?_;simp only [F67,seval,hz];refine awT ?_;refine awQ ?_;simp only [F67,seval];refine awN ?_;simp only [F67,seval];repeat refine ob ?_
   refine ⟨_,dq H [0,1,6,7,8,9] [50,48,46,7006,7007] (o6 hbH (fun x h1 h2 h3 h4=>by simp only [ap];repeat rw [if_neg (by omega)]) _ (by rfl) (by rfl) (by rfl)),l.length-(i0+1),by omega,i0+1,?a7_m,?a7_mg,?a7_S,(w+t.length),?a7_nx,by omega,rfl,?i7_0,?i7_1,?i7_2,?i7_3,?i7_4,?i7_5,?i7_6,?i7_7,?st7⟩;case st7=>(simp only [F67,seval];first|rfl|(simp [hI0,hat0,hz,Nat.add_mul];done))
   case i7_0=>(have h:=hL0;rw [if_pos h0] at h;exact h)
   all_goals (first|omega|assumption|(simp;omega)|(simp_all;done))
  have hz:¬(enc (au t)).num={data:= #[]}:=fun h=>h0 ((oS _).1 h)
  refine awN ?_;simp only [F67,seval,hz];refine awF ?_;refine awK ?_;simp only [F67,seval];have hLe:=Ga m (au t) _ _ hmB hsz.2.1 (by omega) (by omega);rw [htk] at hLe;simp only [ai] at hLe;refine awN ?_;simp only [F67,seval];refine ⟨_,hLe,(by first|rfl|simp [a8,aK,al,aw,A1.cells,ab bp,ab bN]),?_⟩;try simp only [ak,F67,seval]
  refine qJ (M:=fun st=>∃hr s10 s11 nx,(hr=decide (mg=true/\m<au t))/\st=⟨mkT [(0,.val (.one (.ptr 50 s 0))),(1,.val (.one (.sh 1 l.length (ar cRT l)))),(6,.val (.one (.ptr 7006 ny 0))),(7,.val (.one (.ptr 7007 (ny+1) 0))),(8,one (.bool mg)),(9,one (.int .i64 i0)),(10,.val (.one (.ptr 7010 s10 0))),(11,.val (.one (.ptr 7011 s11 0))),(12,one (.bool hr))],bC H [(50,⟨s,214,12,1,[.own 46 sg nn 3,.own 48 sk nn 3,.lit (.bool (enc S.got.rv).neg),.lit (.string (enc S.got.rv).num),.lit (.string (enc S.got.rv).den),.lit (.bool (enc S.slo.rv).neg),.lit (.string (enc S.slo.rv).num),.lit (.string (enc S.slo.rv).den),.lit (.bool (enc S.room).neg),.lit (.string (enc S.room).num),.lit (.string (enc S.room).den),.lit (.bool S.bnd)]⟩),(48,⟨sk,32,3,nn,ar cQ S.slo.cl⟩),(46,⟨sg,32,3,nn,ar cQ S.got.cl⟩),(7006,⟨ny,32,3,1,ai (enc m)⟩),(7007,⟨ny+1,32,3,1,ai (enc rate)⟩),(7010,⟨s10,32,3,1,ai (enc (au t))⟩),(7011,⟨s11,32,3,1,ai (enc tk)⟩)],nx,7000⟩) ?_ ?_
  ·by_cases hmg:mg=true
   ·have hLs:=Ax m (au t) _ _ hmB hsz.2.1 (by omega) (by omega);simp only [ai] at hLs;refine awR [] [0,0,71,71,71,0,0] ?_;simp only [F67,seval,ai,hmg];refine ⟨_,hLs,(by first|rfl|simp [a8,aK,al,aw,A1.cells,ab bp,ab bN]),?_⟩;try simp only [ak,F67,seval]
    intro zc zQ hM;refine ch (dq H [0,1,6,7,8,9,10,11,12] [50,48,46,7006,7007,7010,7011] (o6 hbH (fun x h1 h2 h3 h4=>by simp only [ap];repeat rw [if_neg (by omega)]) _ (by rfl) (by rfl) (by rfl))) (hM _ ⟨decide (m<au t),?_,?_,?_,(by simp [hmg]),?cs11⟩);case cs11=>(simp only [F67,seval];rfl)
   have hLs:=Ax m (au t) _ _ hmB hsz.2.1 (by omega) (by omega);simp only [ai] at hLs;refine awR [] [0,0,71,71,71,0,0] ?_;simp only [F67,seval,ai,hmg];intro zc zQ hM;refine ch (dq H [0,1,6,7,8,9,10,11,12] [50,48,46,7006,7007,7010,7011] (o6 hbH (fun x h1 h2 h3 h4=>by simp only [ap];repeat rw [if_neg (by omega)]) _ (by rfl) (by rfl) (by rfl))) (hM _ ⟨false,?_,?_,?_,(by simp [hmg]),?cs13⟩);case cs13=>(simp only [F67,seval];rfl)
  rintro st ⟨hr,s10,s11,nx9,hhr9,rfl⟩;have hhp:hr=true->(mg=true/\m<au t):=fun h=>by rw [hhr9] at h;exact of_decide_eq_true h
  have hhn:¬hr=true->¬(mg=true/\m<au t):=fun h hh=>h (by rw [hhr9];exact decide_eq_true hh)
  refine awN ?_;simp only [F67,seval,ai];have hV1a:S.got.B (C+w*(Z+1)+0*(Z+1)):=hGB.mono (by omega);have hV1b:S.slo.B (C+w*(Z+1)+0*(Z+1)):=hSB.mono (by omega);refine eE H [0,1,6,7,8,9,10,11,12,13] [50,48,46,7006,7007,7010,7011] (o6 hbH (fun x h1 h2 h3 h4=>by simp only [ap];repeat rw [if_neg (by omega)]) _ (by rfl) (by rfl) (by rfl)) ?_;try simp only [ak,F67,seval]
  repeat' first|apply awS|apply awB
  refine aM (fun n st=>∃i1 R nx,i1<=t.length/\n=t.length-i1/\eh (au t) tk rate hr (t.drop i1) R=eh (au t) tk rate hr t S/\R.got.cl.length=nn/\R.slo.cl.length=nn/\R.got.B (C+w*(Z+1)+i1*(Z+1))/\R.slo.B (C+w*(Z+1)+i1*(Z+1))/\qB Zr R.room/\st=⟨mkT [(0,.val (.one (.ptr 50 s 0))),(1,.val (.one (.sh 1 l.length (ar cRT l)))),(6,.val (.one (.ptr 7006 ny 0))),(7,.val (.one (.ptr 7007 (ny+1) 0))),(8,one (.bool mg)),(9,one (.int .i64 i0)),(10,.val (.one (.ptr 7010 s10 0))),(11,.val (.one (.ptr 7011 s11 0))),(12,one (.bool hr)),(13,one (.int .i64 i1))],bC H [(50,⟨s,214,12,1,[.own 46 sg nn 3,.own 48 sk nn 3,.lit (.bool (enc R.got.rv).neg),.lit (.string (enc R.got.rv).num),.lit (.string (enc R.got.rv).den),.lit (.bool (enc R.slo.rv).neg),.lit (.string (enc R.slo.rv).num),.lit (.string (enc R.slo.rv).den),.lit (.bool (enc R.room).neg),.lit (.string (enc R.room).num),.lit (.string (enc R.room).den),.lit (.bool R.bnd)]⟩),(48,⟨sk,32,3,nn,ar cQ R.slo.cl⟩),(46,⟨sg,32,3,nn,ar cQ R.got.cl⟩),(7006,⟨ny,32,3,1,ai (enc m)⟩),(7007,⟨ny+1,32,3,1,ai (enc rate)⟩),(7010,⟨s10,32,3,1,ai (enc (au t))⟩),(7011,⟨s11,32,3,1,ai (enc tk)⟩)],nx,7000⟩) (t.length) ⟨0,S,_,by omega,by omega,by rfl,(by first|omega|assumption|rfl|simp|(simp;omega)),(by first|omega|assumption|rfl|simp|(simp;omega)),(by first|omega|assumption|rfl|simp|(simp;omega)),(by first|omega|assumption|rfl|simp|(simp;omega)),(by first|omega|assumption|rfl|simp|(simp;omega)),rfl⟩ ?_;rintro n1 st ⟨i1,R,nx1,hk1,rfl,hL1,hV1_1,hV1_2,hV1_3,hV1_4,hV1_5,rfl⟩;by_cases hlt1:i1<t.length
  ·have hI1:(i1:Int)<(t.length:Int):=by omega
   have hat1:=aO pg t i1 hlt1;try rw [Nat.mul_one] at hat1
   rw [List.drop_eq_getElem_cons hlt1] at hL1;have hpm:=(List.getElem_mem hlt1);have hpK:=hsz.2.2 _ hpm;have hRg:=hV1_1;have hRs:=hV1_2;have hRB:=hV1_3;have hRC:=hV1_4;have hRr:=hV1_5;have hshB:=hpK.div hsz.2.1;have hupB:=hshB.mul htkB;have hmul:(i1+1)*(Z+1)<=t.length*(Z+1):=Nat.mul_le_mul_right _ hlt1;have hmul1:(i1+1)*(Z+1)=i1*(Z+1)+(Z+1):=Nat.succ_mul _ _;generalize t[i1]=p at *
   simp only [eh] at hL1;refine awN ?_;simp only [F67,seval,ai,hI0,hat0,hI1,cRT];repeat refine ob ?_
   refine awT ?_;refine awK ?_;simp only [F67,seval];have hO:=Hn p.2 (au t) _ _ hpK hsz.2.1 (by omega) (by omega) h0;simp only [ai] at hO;refine awD (scT 0 9 (.two 9 10 (scq [20,22] .nil) (scq [18,22] .nil))) [0,0,0,0,0,0,0,0,0,0,0,0] ?_;simp only [F67,seval,ai,hI0,hat0,hI1,hat1,cRT,cWP];repeat refine ob ?_
   refine ⟨?_,?_⟩
   ·refine ⟨_,hO,(by first|rfl|simp [a8,aK,al,aw,A1.cells,ab bp,ab bN]),?_⟩;try simp only [ak,F67,seval]
    refine awN ?_;simp only [F67,seval];by_cases hhr:hr=true
    ·refine awN ?_;simp only [F67,seval,hhr];refine awT ?_;have hT:=nV (p.2/au t) rate _ _ hshB hrate (by omega) (by omega);simp only [ai] at hT;refine awN ?_;simp only [F67,seval];refine ⟨_,hT,(by first|rfl|simp [a8,aK,al,aw,A1.cells,ab bp,ab bN]),?_⟩;try simp only [ak,F67,seval]
     have hU:=nV (p.2/au t) tk _ _ hshB htkB (by omega) (by omega);have hslB:qB Z (p.2/au t*rate):=(hshB.mul hrate).mono (by omega);simp only [ai] at hU;repeat' first|apply awS|apply awB
     refine cm [76] (by kernel_rfl) (.cons 0 true (.cons 1 true (.cons 2 true (.cons 3 true (.cons 4 true (.cons 5 true (.cons 6 true (.cons 7 true (.cons 8 true (.cons 9 true (.cons 10 true (.cons 12 true (.cons 11 false (.cons 13 false .nil)))))))))))))) (by kernel_rfl) (gs:=[none,none,none,none,none,none,none,none,none,none,none,none,none,none]) (by kernel_rfl) (by simp only [zT,seval];rfl) (by decide) ?_;simp only [F67,seval,ai,hI0,hat0,hI1,hat1,cRT,cWP,(id SD)];repeat refine ob ?_
     refine ⟨_,hU,(by first|rfl|simp [a8,aK,al,aw,A1.cells,ab bp,ab bN]),?_⟩;try simp only [ak,F67,seval,ai,h50,h48,h46,hI0,hat0,hz,hI1,hat1,hhr,cRT,cWP]
     repeat refine ob ?_
     refine ⟨_,rt _ _ s sg sk nn R p.1 (p.2/au t*tk) (p.2/au t*rate) (by rfl) (by rfl) (by rfl) hRg hRs (fun y B h=>?_) (by omega) (hin _ htm _ hpm) (hRB.mono (by omega)) (hRC.mono (by omega)) (hupB.mono (by omega)) (hslB.mono (by omega)),?_⟩
     ·by_cases hy:y<9000
      ·exact hy
      exfalso;simp only [ap] at h;repeat rw [if_neg (by omega)] at h
      have h9:=hbH y B h;omega
     rintro res H' nx' ⟨rfl,hW⟩;simp only [F67,seval];refine cq hW ?_;simp only [F67,seval];have hn1:(R.put p.1 (p.2/au t*tk) (p.2/au t*rate)).got.cl.length=nn:=by rw [nj,cb];exact hRg
     have hn2:(R.put p.1 (p.2/au t*tk) (p.2/au t*rate)).slo.cl.length=nn:=by rw [nk,cb];exact hRs
     have hn3:(R.put p.1 (p.2/au t*tk) (p.2/au t*rate)).got.B (C+w*(Z+1)+(i1+1)*(Z+1)):=(eU hRB p.1 (hupB.mono (n:=Z) (by omega))).mono (by omega);have hn4:(R.put p.1 (p.2/au t*tk) (p.2/au t*rate)).slo.B (C+w*(Z+1)+(i1+1)*(Z+1)):=(eU hRC p.1 (hslB.mono (n:=Z) (by omega))).mono (by omega);have hn5:qB Zr (R.put p.1 (p.2/au t*tk) (p.2/au t*rate)).room:=hRr;refine awN ?_;simp only [F67,seval];repeat refine ob ?_
     refine ⟨_,dq H [0,1,6,7,8,9,10,11,12,13] [50,48,46,7006,7007,7010,7011] (o6 hbH (fun x h1 h2 h3 h4=>by simp only [ap];repeat rw [if_neg (by omega)]) _ (by rfl) (by rfl) (by rfl)),t.length-(i1+1),by omega,i1+1,(R.put p.1 (p.2/au t*tk) (p.2/au t*rate)),?a22_nx,by omega,rfl,?i22_0,?i22_1,?i22_2,?i22_3,?i22_4,?i22_5,?st22⟩;case st22=>(simp only [F67,seval];first|rfl|(simp [hI0,hat0,hz,hI1,hat1,hhr,Nat.add_mul];done))
     case i22_0=>(have h:=hL1;rw [if_pos hhr] at h;first|exact h|(rw [hhr] at h;exact h))
     all_goals (first|omega|assumption|(simp;omega)|(simp_all;done))
    refine awN ?_;simp only [F67,seval,hhr];refine awF ?_;refine awK ?_;simp only [F67,seval];have hU:=nV (p.2/au t) tk _ _ hshB htkB (by omega) (by omega);have hslB:qB Z (0):=ce.mono (by omega);simp only [ai] at hU;refine ch (dl 7015 (ai (enc 0)) (by rfl) (by show (3:Nat)≠0;decide) (by rfl) (fun κ vs h=>by rw [br];exact h)) ?_;simp only [F67,seval];repeat' first|apply awS|apply awB
    refine cm [76] (by kernel_rfl) (.cons 0 true (.cons 1 true (.cons 2 true (.cons 3 true (.cons 4 true (.cons 5 true (.cons 6 true (.cons 7 true (.cons 8 true (.cons 9 true (.cons 10 true (.cons 12 true (.cons 11 false (.cons 13 false .nil)))))))))))))) (by kernel_rfl) (gs:=[none,none,none,none,none,none,none,none,none,none,none,none,none,none]) (by kernel_rfl) (by simp only [zT,seval];rfl) (by decide) ?_;simp only [F67,seval,ai,hI0,hat0,hI1,hat1,cRT,cWP,(id SD)];repeat refine ob ?_
    refine ⟨_,hU,(by first|rfl|simp [a8,aK,al,aw,A1.cells,ab bp,ab bN]),?_⟩;try simp only [ak,F67,seval,ai,h50,h48,h46,hI0,hat0,hz,hI1,hat1,hhr,cRT,cWP]
    repeat refine ob ?_
    refine ⟨_,rt _ _ s sg sk nn R p.1 (p.2/au t*tk) (0) (by rfl) (by rfl) (by rfl) hRg hRs (fun y B h=>?_) (by omega) (hin _ htm _ hpm) (hRB.mono (by omega)) (hRC.mono (by omega)) (hupB.mono (by omega)) (hslB.mono (by omega)),?_⟩
    ·by_cases hy:y<9000
     ·exact hy
     exfalso;simp only [ap] at h;repeat rw [if_neg (by omega)] at h
     have h9:=hbH y B h;omega
    rintro res H' nx' ⟨rfl,hW⟩;simp only [F67,seval];refine cq hW ?_;simp only [F67,seval];have hn1:(R.put p.1 (p.2/au t*tk) (0)).got.cl.length=nn:=by rw [nj,cb];exact hRg
    have hn2:(R.put p.1 (p.2/au t*tk) (0)).slo.cl.length=nn:=by rw [nk,cb];exact hRs
    have hn3:(R.put p.1 (p.2/au t*tk) (0)).got.B (C+w*(Z+1)+(i1+1)*(Z+1)):=(eU hRB p.1 (hupB.mono (n:=Z) (by omega))).mono (by omega);have hn4:(R.put p.1 (p.2/au t*tk) (0)).slo.B (C+w*(Z+1)+(i1+1)*(Z+1)):=(eU hRC p.1 (hslB.mono (n:=Z) (by omega))).mono (by omega);have hn5:qB Zr (R.put p.1 (p.2/au t*tk) (0)).room:=hRr;refine awN ?_;simp only [F67,seval];repeat refine ob ?_
    refine ⟨_,dq H [0,1,6,7,8,9,10,11,12,13] [50,48,46,7006,7007,7010,7011] (o6 hbH (fun x h1 h2 h3 h4=>by simp only [ap];repeat rw [if_neg (by omega)]) _ (by rfl) (by rfl) (by rfl)),t.length-(i1+1),by omega,i1+1,(R.put p.1 (p.2/au t*tk) (0)),?a26_nx,by omega,rfl,?i26_0,?i26_1,?i26_2,?i26_3,?i26_4,?i26_5,?st26⟩;case st26=>(simp only [F67,seval];first|rfl|(simp [hI0,hat0,hz,hI1,hat1,hhr,Nat.add_mul];done))
    case i26_0=>(have h:=hL1;rw [if_neg hhr] at h;first|exact h|(rw [show hr=false by simpa using hhr] at h;exact h))
    all_goals (first|omega|assumption|(simp;omega)|(simp_all;done))
   refine ⟨_,hO,(by first|rfl|simp [a8,aK,al,aw,A1.cells,ab bp,ab bN]),?_⟩;try simp only [ak,F67,seval]
   refine awN ?_;simp only [F67,seval];by_cases hhr:hr=true
   ·refine awN ?_;simp only [F67,seval,hhr];refine awT ?_;have hT:=nV (p.2/au t) rate _ _ hshB hrate (by omega) (by omega);simp only [ai] at hT;refine awN ?_;simp only [F67,seval];refine ⟨_,hT,(by first|rfl|simp [a8,aK,al,aw,A1.cells,ab bp,ab bN]),?_⟩;try simp only [ak,F67,seval]
    have hU:=nV (p.2/au t) tk _ _ hshB htkB (by omega) (by omega);have hslB:qB Z (p.2/au t*rate):=(hshB.mul hrate).mono (by omega);simp only [ai] at hU;repeat' first|apply awS|apply awB
    refine cm [76] (by kernel_rfl) (.cons 0 true (.cons 1 true (.cons 2 true (.cons 3 true (.cons 4 true (.cons 5 true (.cons 6 true (.cons 7 true (.cons 8 true (.cons 9 true (.cons 10 true (.cons 12 true (.cons 11 false (.cons 13 false .nil)))))))))))))) (by kernel_rfl) (gs:=[none,none,none,none,none,none,none,none,none,none,none,none,none,none]) (by kernel_rfl) (by simp only [zT,seval];rfl) (by decide) ?_;simp only [F67,seval,ai,hI0,hat0,hI1,hat1,cRT,cWP,(id SD)];repeat refine ob ?_
    refine ⟨_,hU,(by first|rfl|simp [a8,aK,al,aw,A1.cells,ab bp,ab bN]),?_⟩;try simp only [ak,F67,seval,ai,h50,h48,h46,hI0,hat0,hz,hI1,hat1,hhr,cRT,cWP]
    repeat refine ob ?_
    refine ⟨_,rt _ _ s sg sk nn R p.1 (p.2/au t*tk) (p.2/au t*rate) (by rfl) (by rfl) (by rfl) hRg hRs (fun y B h=>?_) (by omega) (hin _ htm _ hpm) (hRB.mono (by omega)) (hRC.mono (by omega)) (hupB.mono (by omega)) (hslB.mono (by omega)),?_⟩
    ·by_cases hy:y<9000
     ·exact hy
     exfalso;simp only [ap] at h;repeat rw [if_neg (by omega)] at h
     have h9:=hbH y B h;omega
    rintro res H' nx' ⟨rfl,hW⟩;simp only [F67,seval];refine cq hW ?_;simp only [F67,seval];have hn1:(R.put p.1 (p.2/au t*tk) (p.2/au t*rate)).got.cl.length=nn:=by rw [nj,cb];exact hRg
    have hn2:(R.put p.1 (p.2/au t*tk) (p.2/au t*rate)).slo.cl.length=nn:=by rw [nk,cb];exact hRs
    have hn3:(R.put p.1 (p.2/au t*tk) (p.2/au t*rate)).got.B (C+w*(Z+1)+(i1+1)*(Z+1)):=(eU hRB p.1 (hupB.mono (n:=Z) (by omega))).mono (by omega);have hn4:(R.put p.1 (p.2/au t*tk) (p.2/au t*rate)).slo.B (C+w*(Z+1)+(i1+1)*(Z+1)):=(eU hRC p.1 (hslB.mono (n:=Z) (by omega))).mono (by omega);have hn5:qB Zr (R.put p.1 (p.2/au t*tk) (p.2/au t*rate)).room:=hRr;refine awN ?_;simp only [F67,seval];repeat refine ob ?_
    refine ⟨_,dq H [0,1,6,7,8,9,10,11,12,13] [50,48,46,7006,7007,7010,7011] (o6 hbH (fun x h1 h2 h3 h4=>by simp only [ap];repeat rw [if_neg (by omega)]) _ (by rfl) (by rfl) (by rfl)),t.length-(i1+1),by omega,i1+1,(R.put p.1 (p.2/au t*tk) (p.2/au t*rate)),?a32_nx,by omega,rfl,?i32_0,?i32_1,?i32_2,?i32_3,?i32_4,?i32_5,?st32⟩;case st32=>(simp only [F67,seval];first|rfl|(simp [hI0,hat0,hz,hI1,hat1,hhr,Nat.add_mul];done))
    case i32_0=>(have h:=hL1;rw [if_pos hhr] at h;first|exact h|(rw [hhr] at h;exact h))
    all_goals (first|omega|assumption|(simp;omega)|(simp_all;done))
   refine awN ?_;simp only [F67,seval,hhr];refine awF ?_;refine awK ?_;simp only [F67,seval];have hU:=nV (p.2/au t) tk _ _ hshB htkB (by omega) (by omega);have hslB:qB Z (0):=ce.mono (by omega);simp only [ai] at hU;refine ch (dl 7015 (ai (enc 0)) (by rfl) (by show (3:Nat)≠0;decide) (by rfl) (fun κ vs h=>by rw [br];exact h)) ?_;simp only [F67,seval];repeat' first|apply awS|apply awB
   refine cm [76] (by kernel_rfl) (.cons 0 true (.cons 1 true (.cons 2 true (.cons 3 true (.cons 4 true (.cons 5 true (.cons 6 true (.cons 7 true (.cons 8 true (.cons 9 true (.cons 10 true (.cons 12 true (.cons 11 false (.cons 13 false .nil)))))))))))))) (by kernel_rfl) (gs:=[none,none,none,none,none,none,none,none,none,none,none,none,none,none]) (by kernel_rfl) (by simp only [zT,seval];rfl) (by decide) ?_;simp only [F67,seval,ai,hI0,hat0,hI1,hat1,cRT,cWP,(id SD)];repeat refine ob ?_
   refine ⟨_,hU,(by first|rfl|simp [a8,aK,al,aw,A1.cells,ab bp,ab bN]),?_⟩;try simp only [ak,F67,seval,ai,h50,h48,h46,hI0,hat0,hz,hI1,hat1,hhr,cRT,cWP]
   repeat refine ob ?_
   refine ⟨_,rt _ _ s sg sk nn R p.1 (p.2/au t*tk) (0) (by rfl) (by rfl) (by rfl) hRg hRs (fun y B h=>?_) (by omega) (hin _ htm _ hpm) (hRB.mono (by omega)) (hRC.mono (by omega)) (hupB.mono (by omega)) (hslB.mono (by omega)),?_⟩
   ·by_cases hy:y<9000
    ·exact hy
    exfalso;simp only [ap] at h;repeat rw [if_neg (by omega)] at h
    have h9:=hbH y B h;omega
   rintro res H' nx' ⟨rfl,hW⟩;simp only [F67,seval];refine cq hW ?_;simp only [F67,seval];have hn1:(R.put p.1 (p.2/au t*tk) (0)).got.cl.length=nn:=by rw [nj,cb];exact hRg
   have hn2:(R.put p.1 (p.2/au t*tk) (0)).slo.cl.length=nn:=by rw [nk,cb];exact hRs
   have hn3:(R.put p.1 (p.2/au t*tk) (0)).got.B (C+w*(Z+1)+(i1+1)*(Z+1)):=(eU hRB p.1 (hupB.mono (n:=Z) (by omega))).mono (by omega);have hn4:(R.put p.1 (p.2/au t*tk) (0)).slo.B (C+w*(Z+1)+(i1+1)*(Z+1)):=(eU hRC p.1 (hslB.mono (n:=Z) (by omega))).mono (by omega);have hn5:qB Zr (R.put p.1 (p.2/au t*tk) (0)).room:=hRr;refine awN ?_;simp only [F67,seval];repeat refine ob ?_
   refine ⟨_,dq H [0,1,6,7,8,9,10,11,12,13] [50,48,46,7006,7007,7010,7011] (o6 hbH (fun x h1 h2 h3 h4=>by simp only [ap];repeat rw [if_neg (by omega)]) _ (by rfl) (by rfl) (by rfl)),t.length-(i1+1),by omega,i1+1,(R.put p.1 (p.2/au t*tk) (0)),?a36_nx,by omega,rfl,?i36_0,?i36_1,?i36_2,?i36_3,?i36_4,?i36_5,?st36⟩;case st36=>(simp only [F67,seval];first|rfl|(simp [hI0,hat0,hz,hI1,hat1,hhr,Nat.add_mul];done))
   case i36_0=>(have h:=hL1;rw [if_neg hhr] at h;first|exact h|(rw [show hr=false by simpa using hhr] at h;exact h))
   all_goals (first|omega|assumption|(simp;omega)|(simp_all;done))
  obtain rfl:i1=t.length:=by omega
  have hI1:¬(t.length:Int)<(t.length:Int):=by omega
  rw [List.drop_length] at hL1;simp only [eh] at hL1;have hRg:=hV1_1;have hRs:=hV1_2;have hRr:=hV1_5;have hRG2:R.got.B (C+(w+t.length)*(Z+1)):=hV1_3.mono (by omega);have hRS2:R.slo.B (C+(w+t.length)*(Z+1)):=hV1_4.mono (by omega);refine awN ?_;simp only [F67,seval,ai,hI0,hat0,hI1,cRT];repeat refine ob ?_
  refine awF ?_;refine awQ ?_;simp only [F67,seval];have hMi:=qA m tk _ _ hmB htkB (by omega) (by omega);simp only [ai] at hMi;refine awN ?_;simp only [F67,seval];refine ⟨_,hMi,(by first|rfl|simp [a8,aK,al,aw,A1.cells,ab bp,ab bN]),?_⟩;try simp only [ak,F67,seval]
  by_cases hhr2:hr=true
  ·refine awN ?_;simp only [F67,seval,hhr2];refine awT ?_;refine awN ?_;simp only [F67,seval];by_cases hr0:rate=0
   ·have hz2:(enc rate).num={data:= #[]}:=(oS _).2 hr0;refine awN ?_;simp only [F67,seval,hz2];refine awF ?_;refine awK ?_;simp only [F67,seval];refine awN ?_;simp only [F67,seval];repeat refine ob ?_
    refine ⟨_,dq H [0,1,6,7,8,9] [50,48,46,7006,7007] (o6 hbH (fun x h1 h2 h3 h4=>by simp only [ap];repeat rw [if_neg (by omega)]) _ (by rfl) (by rfl) (by rfl)),l.length-(i0+1),by omega,i0+1,(m-tk),(false),(R),(w+t.length),?a43_nx,by omega,rfl,?i43_0,?i43_1,?i43_2,?i43_3,?i43_4,?i43_5,?i43_6,?i43_7,?st43⟩;case st43=>(simp only [F67,seval];first|rfl|(simp [hI0,hat0,hz,hI1,hhr2,hz2,Nat.add_mul];done))
    case i43_0=>(have h:=hL0;rw [if_neg h0,htk] at h;rw [hL1];rw [if_pos (hhp hhr2),if_neg (fun hh=>hh.2 hr0),decide_eq_true (hhp hhr2)] at h;rw [hhr2];exact h)
    all_goals (first|omega|assumption|(simp;omega)|(simp_all;done))
   have hz2:¬(enc rate).num={data:= #[]}:=fun h=>hr0 ((oS _).1 h)
   refine awN ?_;simp only [F67,seval,hz2];refine awT ?_;have hDi:=qA (au t) tk _ _ hsz.2.1 htkB (by omega) (by omega);have hgpB:=hsz.2.1.sub htkB;have hOv:=Hn (au t-tk) rate _ _ hgpB hrate (by omega) (by omega) hr0;have hgqB:qB Zr ((au t-tk)/rate):=(hgpB.div hrate).mono (by omega);simp only [ai] at hDi hOv;repeat' first|apply awS|apply awB
   refine cm [90] (by kernel_rfl) (.cons 0 true (.cons 1 true (.cons 2 true (.cons 4 true (.cons 3 false (.cons 5 false (.cons 6 false .nil))))))) (by kernel_rfl) (gs:=[none,none,none,none,none,none,none]) (by kernel_rfl) (by simp only [zT,seval];rfl) (by decide) ?_;simp only [F67,seval,(id SD)];refine ⟨_,hDi,(by first|rfl|simp [a8,aK,al,aw,A1.cells,ab bp,ab bN]),?_⟩;try simp only [ak,F67,seval,ai,h50,h48,h46,hI0,hat0,hz,hI1,hhr2,hz2]
   repeat refine ob ?_
   refine ⟨⟨⟨rfl,rfl,rfl,trivial⟩,⟨rfl,rfl,rfl,trivial⟩,trivial⟩,?_⟩;refine ⟨_,hOv,rfl,?_⟩;try unfold ak
   simp only [F67,seval];repeat refine ob ?_
   refine ⟨_,A5 _ _ s sg sk nn R ((au t-tk)/rate) (by rfl) (by rfl) (by rfl) (fun y B h=>?_) (hRr.mono (by omega)) (hgqB.mono (by omega)),?_⟩
   ·by_cases hy:y<9000
    ·exact hy
    exfalso;simp only [ap] at h;repeat rw [if_neg (by omega)] at h
    have h9:=hbH y B h;omega
   rintro res H' nx' ⟨rfl,hW⟩;simp only [F67,seval];refine cq hW ?_;simp only [F67,seval];have hx1:(R.kink ((au t-tk)/rate)).got.cl.length=nn:=by rw [gx];exact hRg
   have hx2:(R.kink ((au t-tk)/rate)).slo.cl.length=nn:=by rw [gy];exact hRs
   have hx3:(R.kink ((au t-tk)/rate)).got.B (C+(w+t.length)*(Z+1)):=by rw [gx];exact hRG2
   have hx4:(R.kink ((au t-tk)/rate)).slo.B (C+(w+t.length)*(Z+1)):=by rw [gy];exact hRS2
   have hx5:qB Zr (R.kink ((au t-tk)/rate)).room:=oe hRr hgqB;refine awN ?_;simp only [F67,seval];repeat refine ob ?_
   refine ⟨_,dq H [0,1,6,7,8,9] [50,48,46,7006,7007] (o6 hbH (fun x h1 h2 h3 h4=>by simp only [ap];repeat rw [if_neg (by omega)]) _ (by rfl) (by rfl) (by rfl)),l.length-(i0+1),by omega,i0+1,(m-tk),(false),(R.kink ((au t-tk)/rate)),(w+t.length),?a47_nx,by omega,rfl,?i47_0,?i47_1,?i47_2,?i47_3,?i47_4,?i47_5,?i47_6,?i47_7,?st47⟩;case st47=>(simp only [F67,seval];first|rfl|(simp [hI0,hat0,hz,hI1,hhr2,hz2,Nat.add_mul];done))
   case i47_0=>(have h:=hL0;rw [if_neg h0,htk] at h;rw [hL1];rw [if_pos (hhp hhr2),if_pos ⟨hhp hhr2,hr0⟩,decide_eq_true (hhp hhr2)] at h;rw [hhr2];exact h)
   all_goals (first|omega|assumption|(simp;omega)|(simp_all;done))
  refine awN ?_;simp only [F67,seval,hhr2];refine awF ?_;refine awK ?_;simp only [F67,seval];refine awN ?_;simp only [F67,seval];repeat refine ob ?_
  refine ⟨_,dq H [0,1,6,7,8,9] [50,48,46,7006,7007] (o6 hbH (fun x h1 h2 h3 h4=>by simp only [ap];repeat rw [if_neg (by omega)]) _ (by rfl) (by rfl) (by rfl)),l.length-(i0+1),by omega,i0+1,(m-tk),(mg),(R),(w+t.length),?a50_nx,by omega,rfl,?i50_0,?i50_1,?i50_2,?i50_3,?i50_4,?i50_5,?i50_6,?i50_7,?st50⟩;case st50=>(simp only [F67,seval];first|rfl|(simp [hI0,hat0,hz,hI1,hhr2,Nat.add_mul];done))
  case i50_0=>(have h:=hL0;rw [if_neg h0,htk] at h;rw [hL1];rw [if_neg (hhn hhr2),if_neg (fun hh=>hhn hhr2 hh.1),decide_eq_false (hhn hhr2)] at h;rw [show hr=false by simpa using hhr2];exact h)
  all_goals (first|omega|assumption|(simp;omega)|(simp_all;done))
 obtain rfl:i0=l.length:=by omega
 have hI0:¬(l.length:Int)<(l.length:Int):=by omega
 rw [List.drop_length] at hL0;simp only [b6] at hL0;refine awN ?_;simp only [F67,seval,ai,hI0];refine awF ?_;refine awQ ?_;simp only [F67,seval];try refine ⟨rfl,?_⟩
 intro y B h;rw [←hL0] at h;try simp only [bC,ap] at h ⊢
 by_cases hy:y=50
 ·subst hy;first|exact h|(simpa [h50,ai] using h)
 simp only [hy,if_false] at h ⊢;by_cases hy2:y=48
 ·subst hy2;first|exact h|(simpa [h48] using h)
 simp only [hy2,if_false] at h ⊢;by_cases hy3:y=46
 ·subst hy3;first|exact h|(simpa [h46] using h)
 simp only [hy3,if_false] at h ⊢;have h9:=hbH y B h;repeat rw [if_neg (by omega)]
 exact h
def RS.z (n:Nat):RS:=⟨⟨List.replicate n 0,0⟩,⟨List.replicate n 0,0⟩,0,false⟩
theorem e0n:(enc 0).neg=false:=by rw [←gG];rfl
theorem e0m:(enc 0).num=aA:=by rw [←gG];rfl
theorem e0d:(enc 0).den=aA:=by rw [←gG];rfl
theorem zt:ai (enc 1)=[.lit (.bool false),.lit (.string {data:= #[1]}),.lit (.string aA)]:=by
 rw [FB];have h1:aj 1={data:= #[1]}:=by decide+kernel
 rw [h1];rfl
def F68:=And.intro zS (And.intro cG (And.intro iy (d7)))
theorem F69:type_of%F68:=F68
theorem Ls:aU prog 180 [] (.val (.agg (ai (enc 1)))):=by
 refine aT func180 rfl (by decide) (N:=2) rfl (by simp) (R:=[.cell 0 32]) rfl fun en k0=>?_
 refine awN ?_;simp only [F69,seval];refine awN ?_;simp only [F69,seval];refine awX ?_;simp only [F69,seval,zt]
def F70:=And.intro zS (And.intro me (And.intro Kf (And.intro d7 (Kg))))
theorem F71:type_of%F70:=F70
theorem xy (H:Hp) (ny nn:Nat) (hn:nn<=1000000) (hbH:∀y B,H y=some B->y<42):cX prog 177 [.one (.lit (.int .i64 (nn:Int)))] H ny
  (fun res H' _=>∃s sg sk,res= .val (.one (.ptr 50 s 0))/\H'=bC H [(50,⟨s,214,12,1,[.own 46 sg nn 3,.own 48 sk nn 3,.lit (.bool (enc (RS.z nn).got.rv).neg),.lit (.string (enc (RS.z nn).got.rv).num),.lit (.string (enc (RS.z nn).got.rv).den),.lit (.bool (enc (RS.z nn).slo.rv).neg),.lit (.string (enc (RS.z nn).slo.rv).num),.lit (.string (enc (RS.z nn).slo.rv).den),.lit (.bool (enc (RS.z nn).room).neg),.lit (.string (enc (RS.z nn).room).num),.lit (.string (enc (RS.z nn).room).den),.lit (.bool (RS.z nn).bnd)]⟩),(48,⟨sk,32,3,nn,ar cQ (RS.z nn).slo.cl⟩),(46,⟨sg,32,3,nn,ar cQ (RS.z nn).got.cl⟩)]):=by
 refine cN 42 func177 rfl (by decide) (N:=9) rfl (by simp) (Rl:=[.tmp 2]) rfl fun en k0=>?_
 refine awN ?_;simp only [F71,seval];refine awD (scq [1,5] (.two 1 3 (scq [6,9,10,13] .nil) (scq [2,9,10,13] .nil))) [0,0,0,0,0,0,0] ?_;simp only [F71,seval,jF];refine ⟨?_,?_⟩
 ·repeat refine ob ?_
  try simp only [F71,seval,jF]
  refine eE H [2] [50,48,46] (fun y B h=>by right;have h9:=hbH y B h;simp only [ap];(repeat rw [if_neg (by omega)]);exact h) ?_;simp only [F71,seval];refine awX ?_;simp only [F71,seval,e0n,e0m,e0d,RS.z];exact ⟨_,_,_,rfl,rfl⟩
 repeat refine ob ?_
 try simp only [F71,seval,jF]
 refine eE H [2] [50,48,46] (fun y B h=>by right;have h9:=hbH y B h;simp only [ap];(repeat rw [if_neg (by omega)]);exact h) ?_;simp only [F71,seval];refine awX ?_;simp only [F71,seval,e0n,e0m,e0d,RS.z];exact ⟨_,_,_,rfl,rfl⟩
theorem og {κ:Kx} {vs:List Value} (x:C) (h:denVs κ vs [x,.lit (.bool false),.lit (.string aA),.lit (.string aA)]):denVs κ vs (x::ai (enc 0)):=by
 rw [br];exact h
theorem fL (n:Nat):(⟨List.replicate n 0,0⟩:WR).B 1:=⟨fun x hx=>by rw [List.eq_of_mem_replicate hx];exact ce,ce⟩
def F72:=And.intro zS (And.intro me (d7))
theorem F73:type_of%F72:=F72
theorem xz (l:List Rat) (n9:Nat) (hn9:l.length=n9) (hl:l.length<=1000000) (H:Hp) (ny:Nat) (hbH:∀y B,H y=some B->y<41):cX prog 165 [.one (.sh 3 n9 (ar cQ l))] H ny
  (fun res H' _=>∃s,res= .val (.one (.own 48 s n9 3))/\H'=bC H [(48,⟨s,32,3,n9,ar cQ l⟩)]):=by
 subst hn9;refine cN 41 func165 rfl (by decide) (N:=8) rfl (by simp) (Rl:=[.tmp 2]) rfl fun en k0=>?_
 refine awN ?_;simp only [F73,seval];repeat' first|apply awS|apply awB
 refine wU [] (gs:=[none,none]) (by rfl) (by kernel_rfl) (by decide) ?_;simp only [F73,seval,(id SF)];repeat refine ob ?_
 intro b hb;cases b
 ·repeat' first|apply awS|apply awB
  refine awF ?_;refine awK ?_;simp only [F73,seval];repeat' first|apply awS|apply awB
  refine wR [] (gs:=[none,none,none,none]) (by rfl) (by kernel_rfl) (by decide) ?_;simp only [F73,seval,(id SD)];repeat refine ob ?_
  refine eE H [2] [48] (by intro y B h;right;have h9:=hbH y B h;simp only [ap];(repeat rw [if_neg (by omega)]);exact h) ?_;simp only [F73,seval];refine awX ?_;simp only [F73,seval];try simp
 have h0:=hb rfl;obtain rfl:=List.eq_nil_of_length_eq_zero h0;refine awT ?_;refine awN ?_;simp only [F73,seval];refine iB 2 48 32 3 (by decide) (by rfl) ?_;refine eE H [2] [48] (by intro y B h;right;have h9:=hbH y B h;simp only [ap];(repeat rw [if_neg (by omega)]);exact h) ?_;simp only [F73,seval];refine awX ?_;simp only [F73,seval];simp [d6]
def F74:=And.intro zS (And.intro me (And.intro Hi (And.intro Aq (And.intro sT (And.intro jW (And.intro cG (And.intro jc (And.intro qp (And.intro D5 (And.intro d7 (D6)))))))))))
theorem F75:type_of%F74:=F74
theorem nl (L:WL) (m:Rat) (K Sm M Z:Nat) (hn:L.count<=1000000) (hl:wOK K Sm L.ranks) (hin:∀t∈L.ranks,wIn L.count t) (hM:qB M m) (hZ:K+(M+L.ranks.length*(Sm+1))+Sm<=Z) (hB:1+wN L.ranks*(Z+1)<=50000000000) (hZb:Z<=40000000000):aU prog 129 [.agg (ck L),.agg (ai (enc m))] (.val (.one (.sh 3 L.count (ar cQ (aX L m))))):=by
 refine aT func129 rfl (by decide) (N:=20) rfl (by simp) (R:=[.tmp 4]) rfl fun en k0=>?_
 refine awN ?_;simp only [F75,seval,ai,ck];refine eF 40 ?_;dsimp only;refine awN ?_;simp only [F75,seval,jF];repeat refine ob ?_
 refine ch (dl 50 (.own 48 2 L.count 3::ai (enc 0)) (by rfl) (by show (4:Nat)≠0;decide) (by rfl) (fun κ vs h=>og _ h)) ?_;simp only [F75,seval];refine awR [15] [0,0,0,0,0] ?_;simp only [F75,seval,ai];refine ⟨_,Hq _ _ 3 2 L.count ⟨List.replicate L.count 0,0⟩ L.ranks m K Sm M 1 Z (by rfl) (by rfl) (by simp) (fun y B h=>?_) hn hl hin hM (fL _) hZ hB hZb,?_⟩
 ·simp only [ap] at h;repeat (split at h;· omega)
  cases h
 rintro res H' nx' ⟨rfl,hW⟩;simp only [F75,seval];refine cq hW ?_;simp only [F75,seval];refine bE 48 50 0 (by rfl) (by rfl) (by rfl) (by decide) (by show (3:Nat)≠0;decide) (by show (4:Nat)≠0;decide) rfl ?_;simp only [F75,seval];refine awN ?_;simp only [F75,seval,ai];refine awX ?_;(first|(simp only [F75,seval,ab aq,aX];done)|(simp only [F75,seval,ai];first|(simp [ab aq,aX];done)))
def F76:=And.intro zS (And.intro qo (And.intro FT (And.intro Au (And.intro me (And.intro tf7 (And.intro wt (And.intro wu (And.intro DW (And.intro sT (And.intro jW (And.intro DX (And.intro wv (And.intro cG (And.intro jc (And.intro ws (And.intro iy (And.intro D5 (And.intro d7 (And.intro sV (D6))))))))))))))))))))
theorem F77:type_of%F76:=F76
theorem E7 (L:WL) (g:List Rat) (H:Hp) (ny:Nat) (hgl:g.length=L.count) (hn:L.count<=1000000) (hpn0:L.pools.length<=1000) (hmem:∀p∈L.pools,p.1.length<=1000/\∀i∈p.1,0<=i/\i<(L.count:Int)) (hbH:∀y B,H y=some B->y<37):cX prog 130 [.agg (ck L),.one (.sh 3 L.count (ar cQ g))] H ny
  (fun res H' _=>∃s sc,res= .val (.one (.ptr 50 s 0))/\H'=bC H [(50,⟨s,200,4,1,.own 48 sc L.count 3::ai (enc 0)⟩),(48,⟨sc,32,3,L.count,ar cQ (cO L.pools g)⟩)]):=by
 refine cN 37 func130 rfl (by decide) (N:=38) rfl (by simp) (Rl:=[.tmp 4]) rfl fun en k0=>?_
 refine awN ?_;simp only [F77,seval,ai,ck];refine awR [11] [0,0,0,0,0] ?_;simp only [F77,seval];refine ⟨_,xz g L.count hgl (by omega) _ _ (fun y B h=>?_),?_⟩
 ·simp only [ap] at h;repeat (split at h;· omega)
  have h9:=hbH y B h;omega
 rintro res H' nx' ⟨sc,rfl,rfl⟩;simp only [F77,seval];refine ch (dl 50 (.own 48 sc L.count 3::ai (enc 0)) (by rfl) (by show (4:Nat)≠0;decide) (by rfl) (fun κ vs h=>og _ h)) ?_;simp only [F77,seval];obtain ⟨s,hs⟩:∃n,nx'=n:=⟨_,rfl⟩;simp only [hs];refine awN ?_;simp only [F77,seval,ai];refine eE H [5,15,16,17] [50,48] (fun y B h=>by right;have h9:=hbH y B h;simp only [ap];(repeat rw [if_neg (by omega)]);exact h) ?_;try simp only [ak,F77,seval]
 repeat' first|apply awS|apply awB
 refine aM (fun n st=>∃i0 X nx,i0<=L.pools.length/\n=L.pools.length-i0/\cO (L.pools.drop i0) X=cO L.pools g/\X.length=L.count/\st=⟨mkT [(5,.val (.one (.ptr 50 s 0))),(15,.val (.one (.sh 2 L.pools.length (ar dv L.pools)))),(16,one (.int .i64 L.pools.length)),(17,one (.int .i64 i0))],bC H [(50,⟨s,200,4,1,.own 48 sc L.count 3::ai (enc 0)⟩),(48,⟨sc,32,3,L.count,ar cQ X⟩)],nx,37⟩) (L.pools.length) ⟨0,g,_,by omega,by omega,by rfl,(by first|omega|assumption|rfl|simp|(simp;omega)),rfl⟩ ?_;rintro n0 st ⟨i0,X,nx0,hk0,rfl,hL0,hV0_1,rfl⟩;by_cases hlt0:i0<L.pools.length
 ·have hI0:(i0:Int)<(L.pools.length:Int):=by omega
  have hat0:=aO lv L.pools i0 hlt0;try rw [Nat.mul_one] at hat0
  rw [List.drop_eq_getElem_cons hlt0] at hL0;have hpm:=hmem _ (List.getElem_mem hlt0);have hX:=hV0_1;generalize L.pools[i0]=p at *
  simp only [cO] at hL0;refine awN ?_;simp only [F77,seval,ai,hI0];refine awT ?_;refine awK ?_;simp only [F77,seval];refine awN ?_;simp only [F77,seval,hI0,hat0,dv];repeat refine ob ?_
  refine awN ?_;simp only [F77,seval];have hpn:=hpm.1;refine eE H [5,15,16,17,22,23,24] [50,48] (fun y B h=>by right;have h9:=hbH y B h;simp only [ap];(repeat rw [if_neg (by omega)]);exact h) ?_;try simp only [ak,F77,seval]
  repeat' first|apply awS|apply awB
  refine aM (fun n st=>∃i1 X2 nx,i1<=p.1.length/\n=p.1.length-i1/\fP (p.1.drop i1) X2=fP p.1 X/\X2.length=L.count/\st=⟨mkT [(5,.val (.one (.ptr 50 s 0))),(15,.val (.one (.sh 2 L.pools.length (ar dv L.pools)))),(16,one (.int .i64 L.pools.length)),(17,one (.int .i64 i0)),(22,.val (.one (.sh 1 p.1.length (ar cI p.1)))),(23,one (.int .i64 p.1.length)),(24,one (.int .i64 i1))],bC H [(50,⟨s,200,4,1,.own 48 sc L.count 3::ai (enc 0)⟩),(48,⟨sc,32,3,L.count,ar cQ X2⟩)],nx,37⟩) (p.1.length) ⟨0,X,_,by omega,by omega,by rfl,(by first|omega|assumption|rfl|simp|(simp;omega)),rfl⟩ ?_;rintro n1 st ⟨i1,X2,nx1,hk1,rfl,hL1,hV1_1,rfl⟩;by_cases hlt1:i1<p.1.length
  ·have hI1:(i1:Int)<(p.1.length:Int):=by omega
   have hat1:=aO nL p.1 i1 hlt1;try rw [Nat.mul_one] at hat1
   rw [List.drop_eq_getElem_cons hlt1] at hL1;have hxx:=hpm.2 _ (List.getElem_mem hlt1);have hX2:=hV1_1;generalize p.1[i1]=x at *
   simp only [fP] at hL1;refine awN ?_;simp only [F77,seval,ai,hI1];refine awT ?_;refine awK ?_;simp only [F77,seval];refine awN ?_;simp only [F77,seval,hI1,hat1,cI];repeat refine ob ?_
   obtain ⟨k,hxk⟩:∃k:Nat,x=(k:Int):=⟨x.toNat,by omega⟩;have hkl:k<X2.length:=by omega
   have hkt:x.toNat=k:=by omega
   have hset:=dJ bV X2 k 0 hkl;simp only [cQ,br] at hset;have hfl:=be bV X2;rw [hX2] at hfl;refine awN ?_;simp only [F77,seval,hkt,hset,hfl];repeat refine ob ?_
   refine awN ?_;simp only [F77,seval];repeat refine ob ?_
   refine ⟨_,dq H [5,15,16,17,22,23,24] [50,48] (fun y B h=>by right;have h9:=hbH y B h;simp only [ap];(repeat rw [if_neg (by omega)]);exact h),p.1.length-(i1+1),by omega,i1+1,(X2.set k 0),?a10_nx,by omega,rfl,?i10_0,?i10_1,?st10⟩;case st10=>(simp only [F77,seval];first|rfl|(simp [List.length_set,hI0,hat0,hI1,hat1,Nat.add_mul];done))
   case i10_0=>(rw [hkt] at hL1;exact hL1)
   all_goals (first|omega|assumption|(simp;omega)|(simp_all;done))
  obtain rfl:i1=p.1.length:=by omega
  have hI1:¬(p.1.length:Int)<(p.1.length:Int):=by omega
  rw [List.drop_length] at hL1;simp only [fP] at hL1;refine awN ?_;simp only [F77,seval,ai,hI1];refine awF ?_;refine awQ ?_;simp only [F77,seval];refine awN ?_;simp only [F77,seval];repeat refine ob ?_
  refine ⟨_,dq H [5,15,16,17] [50,48] (fun y B h=>by right;have h9:=hbH y B h;simp only [ap];(repeat rw [if_neg (by omega)]);exact h),L.pools.length-(i0+1),by omega,i0+1,(X2),?a13_nx,by omega,rfl,?i13_0,?i13_1,?st13⟩;case st13=>(simp only [F77,seval];first|rfl|(simp [hI0,hat0,hI1,Nat.add_mul];done))
  case i13_0=>(first|exact hL0|(rw [←hL0];simp [←hL1];done)|(rw [←hL0];simp only [reduceIte,hI0,hat0,hI1];done)|(rw [←hL0];simp [hI0,hat0,hI1];done)|(simp [hI0,hat0,hI1] at hL0;simpa using hL0)|(rw [←hL0];simp [*];done))
  all_goals (first|omega|assumption|(simp;omega)|(simp_all;done))
 obtain rfl:i0=L.pools.length:=by omega
 have hI0:¬(L.pools.length:Int)<(L.pools.length:Int):=by omega
 rw [List.drop_length] at hL0;simp only [cO] at hL0;refine awN ?_;simp only [F77,seval,ai,hI0];refine awF ?_;refine awQ ?_;simp only [F77,seval];refine awN ?_;simp only [F77,seval];simp only [F77,seval,hL0];refine eE H [4] [50,48] (fun y B h=>by right;have h9:=hbH y B h;simp only [ap];(repeat rw [if_neg (by omega)]);exact h) ?_;simp only [F77,seval,←hL0];refine awX ?_;simp only [F77,seval];first|exact ⟨_,_,rfl,rfl⟩|simp
noncomputable def cRS (n:Nat) (S:RS):List C:=[.sh 3 n (ar cQ S.got.cl),.sh 3 n (ar cQ S.slo.cl),.lit (.bool (enc S.got.rv).neg),.lit (.string (enc S.got.rv).num),.lit (.string (enc S.got.rv).den),.lit (.bool (enc S.slo.rv).neg),.lit (.string (enc S.slo.rv).num),.lit (.string (enc S.slo.rv).den),.lit (.bool (enc S.room).neg),.lit (.string (enc S.room).num),.lit (.string (enc S.room).den),.lit (.bool S.bnd)]
def F78:=And.intro zS (And.intro mc (And.intro nJ (And.intro nK (And.intro il (cG)))))
theorem F79:type_of%F78:=F78
theorem xA (e:GEst) (m:Rat) (K Sm M Z:Nat) (hl:e.claims.length<=1000) (ham:∀c∈e.claims,sB K c.amount) (hKb:K<=10000000) (hw:wOK K Sm (aF e.claims)) (hin:∀t∈aF e.claims,wIn e.claims.length t) (hm:qB M m) (hZ:K+Sm+(M+(aF e.claims).length*(Sm+1))+Sm+2<=Z) (hB:1+wN (aF e.claims)*(Z+1)<=40000000000) (hZb:Z<=40000000000):aU prog 147 [.agg (aI e),.agg (ai (enc m))] (.val (.one (.sp (cRS e.claims.length (b6 1 (aF e.claims) m true (RS.z e.claims.length)))))):=by
 have hz0:(⟨List.replicate e.claims.length 0,0⟩:WR).B 1:=fL e.claims.length;have hz1:qB Z (0:Rat):=ce.mono (by omega);refine aT func147 rfl (by decide) (N:=17) rfl (by simp) (R:=[.tmp 4]) rfl fun en k0=>?_
 refine awN ?_;simp only [F79,seval,ai,aI];refine awR [9] [0,0,0,0,0] ?_;simp only [F79,seval];refine ⟨_,xy _ _ e.claims.length (by omega) (fun y B h=>?_),?_⟩
 ·by_cases hy:y<42
  ·exact hy
  exfalso;simp only [ap] at h;repeat rw [if_neg (by omega)] at h
  cases h
 rintro res H' nx' ⟨s,sg,sk,rfl,rfl⟩;simp only [F79,seval];have hRk:=EX e K hl ham hKb;have hOn:=Ls;simp only [ai] at hOn;repeat' first|apply awS|apply awB
 refine cm [15] (by kernel_rfl) (.cons 0 true (.cons 1 true (.cons 3 true (.cons 2 false (.cons 4 false (.cons 5 false .nil)))))) (by kernel_rfl) (gs:=[none,none,none,none,none,none]) (by kernel_rfl) (by simp only [zT,seval];rfl) (by decide) ?_;simp only [F79,seval,ab av,ab aB,(id SD)];refine ⟨_,hRk,(by first|rfl|simp [al,aw,ab bp]),?_⟩;try simp only [ak,F79,seval,ai,aI,ab av,ab aB,ab bp]
 repeat refine ob ?_
 refine ⟨trivial,?_⟩;refine ⟨_,hOn,rfl,?_⟩;try unfold ak
 simp only [F79,seval];repeat refine ob ?_
 refine ⟨_,A6 _ _ s sg sk e.claims.length (RS.z e.claims.length) (aF e.claims) m 1 K Sm M 1 1 Z Z (by rfl) (by rfl) (by rfl) (by simp [RS.z]) (by simp [RS.z]) (fun y B h=>?_) (by omega) hw hin hm t6 hz0 hz0 hz1 hKb (by omega) (by omega) (by omega) (by omega) (by omega),?_⟩
 ·by_cases hy:y<7000
  ·exact hy
  exfalso;simp only [ap] at h;repeat rw [if_neg (by omega)] at h
  cases h
 rintro res H' nx' ⟨rfl,hW⟩;simp only [F79,seval,(id SD)];refine cq hW ?_;simp only [F79,seval];refine bE 46 50 0 (by rfl) (by rfl) (by rfl) (by decide) (by show (3:Nat)≠0;decide) (by show (12:Nat)≠0;decide) rfl ?_;simp only [F79,seval];refine bE 48 50 1 (by rfl) (by rfl) (by rfl) (by decide) (by show (3:Nat)≠0;decide) (by show (12:Nat)≠0;decide) rfl ?_;simp only [F79,seval];refine wZ (t:=5) (by rfl) (by rfl) (by show (12:Nat)≠0;decide) (by rfl) ?_;simp only [F79,seval];refine awN ?_;simp only [F79,seval];refine awX ?_;simp only [F79,seval,ab aq];simp [cRS]
def rIn (a:bP) (g k:List Rat):List GClaim->Nat->List Bool->Rat->Rat->List Bool×Rat×Rat
 |[],_,fl,p,r=>(fl,p,r)
 |_::l,i,fl,p,r=>if mbA (i:Int) a=true then rIn a g k l (i+1) (fl.set i true) (p+g.getD i 0) (r+k.getD i 0) else rIn a g k l (i+1) fl p r
noncomputable def kI (cs:List GClaim) (G:RS):List bP->List Bool->RS->List Bool×RS
 |[],fl,s=>(fl,s)
 |a::l,fl,s=>kI cs G l (rIn a G.got.cl G.slo.cl cs 0 fl 0 0).1 (b6 (rIn a G.got.cl G.slo.cl cs 0 fl 0 0).2.2 (ba cs a).2 (rIn a G.got.cl G.slo.cl cs 0 fl 0 0).2.1 true s)
def gM (G:RS) (fl:List Bool):List GClaim->Nat->RS->RS
 |[],_,s=>s
 |_::l,i,s=>if fl.getD i false=true then gM G fl l (i+1) s else gM G fl l (i+1) (s.put (i:Int) (G.got.cl.getD i 0) (G.slo.cl.getD i 0))
noncomputable def rG (e:GEst) (m:Rat):RS:=b6 1 (aF e.claims) m true (RS.z e.claims.length)
noncomputable def rS0 (e:GEst) (m:Rat):RS:=if (rG e m).bnd=true then (RS.z e.claims.length).kink (rG e m).room else RS.z e.claims.length
noncomputable def rO (e:GEst) (m:Rat):List Bool×RS:=kI e.claims (rG e m) e.agrs (List.replicate e.claims.length false) (rS0 e m)
noncomputable def fd (e:GEst) (m:Rat):RS:=gM (rG e m) (rO e m).1 e.claims 0 (rO e m).2
theorem ru (a:bP) (g k:List Rat):∀(l:List GClaim) (i:Nat) (fl:List Bool) (p r:Rat),(rIn a g k l i fl p r).2.1=p+aQ g (rMs a l.length i)
 |[],i,fl,p,r=>by simp only [rIn,rMs,List.length_nil,aQ];grind
 |c::l,i,fl,p,r=>by
  rw [rIn,List.length_cons,rMs];split
  ·rw [ru a g k l,aQ,Int.toNat_natCast];grind
  exact ru a g k l _ _ _ _
theorem ry (a:bP) (g k:List Rat):∀(l:List GClaim) (i:Nat) (fl:List Bool) (p r:Rat),(rIn a g k l i fl p r).2.2=r+aQ k (rMs a l.length i)
 |[],i,fl,p,r=>by simp only [rIn,rMs,List.length_nil,aQ];grind
 |c::l,i,fl,p,r=>by
  rw [rIn,List.length_cons,rMs];split
  ·rw [ry a g k l,aQ,Int.toNat_natCast];grind
  exact ry a g k l _ _ _ _
theorem uU (a:bP) (g k:List Rat):∀(l:List GClaim) (i:Nat) (fl:List Bool) (p r:Rat),(rIn a g k l i fl p r).1.length=fl.length
 |[],i,fl,p,r=>rfl
 |c::l,i,fl,p,r=>by
  rw [rIn];split
  ·rw [uU a g k l,List.length_set]
  exact uU a g k l _ _ _ _
theorem rz (a:bP) (g k:List Rat) (j:Nat):∀(l:List GClaim) (i:Nat) (fl:List Bool) (p r:Rat),i+l.length<=fl.length->
  ((rIn a g k l i fl p r).1.getD j false=true↔fl.getD j false=true∨(j:Int)∈rMs a l.length i)
 |[],i,fl,p,r,_=>by simp [rIn,rMs]
 |c::l,i,fl,p,r,h=>by
  simp only [List.length_cons] at h;rw [rIn,List.length_cons,rMs];split
  ·rw [rz a g k j l (i+1) _ _ _ (by rw [List.length_set];omega),List.mem_cons];by_cases hj:j=i
   ·subst hj;rw [List.getD_eq_getElem?_getD,List.getElem?_set_self (by omega)];simp
   rw [List.getD_eq_getElem?_getD,List.getElem?_set_ne (by omega),←List.getD_eq_getElem?_getD];have h1:¬(j:Int)=(i:Int):=by omega
   simp [h1]
  exact rz a g k j l (i+1) _ _ _ (by omega)
noncomputable def aN (cs:List GClaim):List bP->Nat
 |[]=>0
 |a::l=>wN (ba cs a).2+aN cs l
structure rdB (e:GEst) (K Km Sm M Z Zg P K2 S2 Z2 Zr:Nat):Prop where
 n:e.claims.length<=1000
 an:e.agrs.length<=1000
 am:∀c∈e.claims,sB K c.amount
 kb:K<=10000000
 rk:wOK K Sm (aF e.claims)
 rin:∀t∈aF e.claims,wIn e.claims.length t
 z:K+Sm+(M+(aF e.claims).length*(Sm+1))+Sm+2<=Z
 zg:1+wN (aF e.claims)*(Z+1)<=Zg
 la:∀a∈e.agrs,layB e.claims a K Km
 pl:∀a∈e.agrs,wOK K2 S2 (ba e.claims a).2/\∀t∈(ba e.claims a).2,wIn e.claims.length t
 p:1+e.claims.length*(Zg+1)<=P
 k2:K2<=10000000
 z2:∀a∈e.agrs,K2+S2+(P+(ba e.claims a).2.length*(S2+1))+S2+P<=Z2
 zr:∀a∈e.agrs,S2+(P+(ba e.claims a).2.length*(S2+1))+S2+1+P<=Zr
 zr2:Z<=Zr
 zgb:Zg<=40000000
 pb:P<=40000000000
 zb:Z<=40000000
 z2b:Z2<=40000000000
 zrb:Zr<=40000000000
 b:1+aN e.claims e.agrs*(Z2+1)+e.claims.length*(Zg+1)<=50000000000
theorem xE {K Sm T R9 Z:Nat} {tot tk rate:Rat} (htot:qB Sm tot) (htk:qB T tk) (hr:qB R9 rate) (h1:K+Sm+T<=Z) (h2:K+Sm+R9<=Z) (here:Bool):∀(t:WT) (S:RS) (C:Nat),(∀p∈t,qB K p.2)->S.got.B C->S.slo.B C->
  (eh tot tk rate here t S).got.B (C+t.length*(Z+1))/\(eh tot tk rate here t S).slo.B (C+t.length*(Z+1))/\(eh tot tk rate here t S).room=S.room/\(eh tot tk rate here t S).got.cl.length=S.got.cl.length/\(eh tot tk rate here t S).slo.cl.length=S.slo.cl.length
 |[],S,C,_,h,k=>by
  simp only [eh,List.length_nil,Nat.zero_mul,Nat.add_zero];exact ⟨h,k,trivial,trivial,trivial⟩
 |p::t,S,C,hk,h,k=>by
  have hp:=hk p (by simp);have hsh:=hp.div htot;have hg:qB Z (p.2/tot*tk):=(hsh.mul htk).mono (by omega);have hs:qB Z (if here=true then p.2/tot*rate else 0):=by
   split
   ·exact (hsh.mul hr).mono (by omega)
   exact ce.mono (by have:=hp.pos;omega)
  obtain ⟨i1,i2,i3,i4,i5⟩:=xE htot htk hr h1 h2 here t (S.put p.1 (p.2/tot*tk) (if here=true then p.2/tot*rate else 0)) (C+(Z+1)) (fun x hx=>hk x (by simp [hx])) (eU h p.1 hg) (eU k p.1 hs);have hl:C+(Z+1)+t.length*(Z+1)=C+(t.length+1)*(Z+1):=by rw [Nat.succ_mul];omega
  rw [eh,List.length_cons,←hl];exact ⟨i1,i2,i3,by rw [i4,nj,cb],by rw [i5,nk,cb]⟩
theorem pi {rate : Rat} {K Sm R9 Z Zr : Nat} (hr : qB R9 rate) : ∀ (l : List WT) (m : Rat) (mg : Bool) (S : RS) (C M : Nat), wOK K Sm l → qB M m → S.got.B C → S.slo.B C → qB Zr S.room → K + Sm + (M + l.length * (Sm + 1)) + Sm + R9 ≤ Z → Sm + (M + l.length * (Sm + 1)) + Sm + 1 + R9 ≤ Zr →
    (b6 rate l m mg S).got.B (C + wN l * (Z + 1)) ∧ (b6 rate l m mg S).slo.B (C + wN l * (Z + 1)) ∧ qB Zr (b6 rate l m mg S).room ∧ (b6 rate l m mg S).got.cl.length = S.got.cl.length ∧ (b6 rate l m mg S).slo.cl.length = S.slo.cl.length
  | [], m, mg, S, C, M, _, _, h, k, hro, _, _ => by
    simp only [b6, wN, Nat.zero_mul, Nat.add_zero]
    exact ⟨h, k, hro, trivial, trivial⟩
  | t :: l, m, mg, S, C, M, hl, hm, h, k, hro, hZ, hZr => by
    have hsz := hl.2 t (by simp)
    have hll : wOK K Sm l := ⟨by have := hl.1; simp only [List.length_cons] at this; omega, fun x hx => hl.2 x (by simp [hx])⟩
    simp only [List.length_cons] at hZ hZr
    have hmul : (l.length + 1) * (Sm + 1) = l.length * (Sm + 1) + (Sm + 1) := Nat.succ_mul _ _
    have hwn : wN (t :: l) = t.length + wN l := rfl
    have hmw : (t.length + wN l) * (Z + 1) = t.length * (Z + 1) + wN l * (Z + 1) := Nat.add_mul _ _ _
    rw [b6]
    by_cases h0 : au t = 0
    · rw [if_pos h0]
      obtain ⟨i1, i2, i3, i4, i5⟩ := pi (Z := Z) (Zr := Zr) hr l m mg S C M hll hm h k hro (by omega) (by omega)
      exact ⟨i1.mono (by rw [hwn]; omega), i2.mono (by rw [hwn]; omega), i3, i4, i5⟩
    rw [if_neg h0]
    have htk := E6 hm hsz.2.1
    have hnm := E5 hm hsz.2.1
    obtain ⟨j1, j2, j3, j4, j5⟩ := xE (K := K) (Z := Z) hsz.2.1 htk hr (by omega) (by omega) (decide (mg = true ∧ m < au t)) t S C hsz.2.2 h k
    have hgp : qB Zr ((au t - bT m (au t)) / rate) := ((hsz.2.1.sub htk).div hr).mono (by omega)
    have key : ∀ (mg' : Bool) (S' : RS), S'.got.B (C + t.length * (Z + 1)) → S'.slo.B (C + t.length * (Z + 1)) → qB Zr S'.room → S'.got.cl.length = S.got.cl.length → S'.slo.cl.length = S.slo.cl.length →
        (b6 rate l (m - bT m (au t)) mg' S').got.B (C + wN (t :: l) * (Z + 1)) ∧ (b6 rate l (m - bT m (au t)) mg' S').slo.B (C + wN (t :: l) * (Z + 1)) ∧ qB Zr (b6 rate l (m - bT m (au t)) mg' S').room ∧ (b6 rate l (m - bT m (au t)) mg' S').got.cl.length = S.got.cl.length ∧ (b6 rate l (m - bT m (au t)) mg' S').slo.cl.length = S.slo.cl.length := fun mg' S' a b c d e => by
      obtain ⟨i1, i2, i3, i4, i5⟩ := pi (Z := Z) (Zr := Zr) hr l _ mg' S' _ (M + (Sm + 1)) hll hnm a b c (by omega) (by omega)
      exact ⟨i1.mono (by rw [hwn]; omega), i2.mono (by rw [hwn]; omega), i3, i4.trans d, i5.trans e⟩
    have hro2 : qB Zr (eh (au t) (bT m (au t)) rate (decide (mg = true ∧ m < au t)) t S).room := by rw [j3]; exact hro
    apply key
    · split
      · rw [gx]; exact j1
      exact j1
    · split
      · rw [gy]; exact j2
      exact j2
    · split
      · exact oe hro2 hgp
      exact hro2
    · split
      · rw [gx]; exact j4
      exact j4
    split
    · rw [gy]; exact j5
    exact j5
end Go.Proofs.YtokmkopihhnggaaGreatDoor
