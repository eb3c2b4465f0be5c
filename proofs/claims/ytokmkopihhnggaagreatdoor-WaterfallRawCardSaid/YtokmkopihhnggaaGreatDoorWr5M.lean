/- The reference's waterfall: pour; walked by the abstract machine. -/
import Derived.Test.YtokmkopihhnggaaGreatDoorWr2M
import Derived.Test.YtokmkopihhnggaaGreatDoorLGCM
import Derived.Test.YtokmkopihhnggaaGreatDoorWl6M
set_option linter.unusedVariables false
set_option maxHeartbeats 4000000
set_option maxRecDepth 100000
set_option linter.unusedSimpArgs false
set_option linter.defProp false
namespace Go.Proofs.YtokmkopihhnggaaGreatDoor
open Go Go.RowKit Go.Proofs.Tryz
theorem nS (q:Rat):(enc q).num={data:= #[]}↔q=0:=⟨fun h=>(bY q).1 (by rw [h];rfl),fun h=>ByteArray.ext (Array.eq_empty_of_size_eq_zero ((bY q).2 h))⟩
theorem nZ {H f:Hp} {b:Nat} (hbH:∀y B,H y=some B->y<b) (hf:∀x,x<b->x≠50->x≠48->x≠46->f x=H x) (l:List Nat) (h1:fA l 50=true) (h2:fA l 48=true) (h3:fA l 46=true):∀x B,H x=some B->fA l x=true∨f x=some B:=fun x B hB=>by
 by_cases e1:x=50
 ·subst e1;exact .inl h1
 by_cases e2:x=48
 ·subst e2;exact .inl h2
 by_cases e3:x=46
 ·subst e3;exact .inl h3
 exact .inr (by rw [hf x (hbH x B hB) e1 e2 e3];exact hB)
theorem DO {a n:Nat} {m t:Rat} (hm:qB a m) (ht:qB n t):qB (a+(n+1)) (m-bC m t):=by
 unfold bC;split
 ·exact (hm.sub ht).mono (by omega)
 rw [show m-m=0 by grind];exact bW.mono (by omega)
theorem DP {a n:Nat} {m t:Rat} (hm:qB a m) (ht:qB n t):qB (a+n) (bC m t):=by
 unfold bC;split
 ·exact ht.mono (by omega)
 exact hm.mono (by omega)
theorem mB (S:RS) (c:Int) (g q:Rat):(S.put c g q).got=S.got.add c g:=rfl
theorem mC (S:RS) (c:Int) (g q:Rat):(S.put c g q).slo=S.slo.add c q:=rfl
theorem fW (S:RS) (d:Rat):(S.kink d).got=S.got:=by unfold RS.kink;(repeat' split)<;>rfl
theorem fX (S:RS) (d:Rat):(S.kink d).slo=S.slo:=by unfold RS.kink;(repeat' split)<;>rfl
theorem nh {n:Nat} {S:RS} {d:Rat} (h:qB n S.room) (hd:qB n d):qB n (S.kink d).room:=by
 unfold RS.kink;split
 ·exact hd
 split
 ·exact hd
 exact h
def IC:=And.intro zS (And.intro Ic (And.intro H7 (And.intro Gp (And.intro EA (And.intro Es (And.intro Id (And.intro H8 (And.intro Ie (And.intro cD (And.intro jz (And.intro Et (And.intro gH (dN)))))))))))))
theorem br:type_of%IC:=IC
theorem Ab (H:Hp) (ny s sg sk nn:Nat) (S0:RS) (l:List WT) (m0 rate:Rat) (K Sm M R9 C Z Zr:Nat) (h50:H 50=some ⟨s,214,12,1,[.own 46 sg nn 3,.own 48 sk nn 3,.lit (.bool (enc S0.got.rv).neg),.lit (.string (enc S0.got.rv).num),.lit (.string (enc S0.got.rv).den),.lit (.bool (enc S0.slo.rv).neg),.lit (.string (enc S0.slo.rv).num),.lit (.string (enc S0.slo.rv).den),.lit (.bool (enc S0.room).neg),.lit (.string (enc S0.room).num),.lit (.string (enc S0.room).den),.lit (.bool S0.bnd)]⟩) (h48:H 48=some ⟨sk,32,3,nn,aA cQ S0.slo.cl⟩) (h46:H 46=some ⟨sg,32,3,nn,aA cQ S0.got.cl⟩) (hgn:S0.got.cl.length=nn) (hsn:S0.slo.cl.length=nn) (hbH:∀y B,H y=some B->y<7000) (hn:nn<=1000000) (hl:wOK K Sm l) (hin:∀t∈l,wIn nn t) (hM:qB M m0) (hrate:qB R9 rate) (hC1:S0.got.B C) (hC2:S0.slo.B C) (hC3:qB Zr S0.room) (hKb:K<=10000000) (hZ:K+Sm+(M+l.length*(Sm+1))+Sm+R9<=Z) (hZr:Sm+(M+l.length*(Sm+1))+Sm+1+R9<=Zr) (hB:C+wN l*(Z+1)<=99000000000) (hZb:Z<=40000000000) (hZrb:Zr<=40000000000):cT prog 178 [.one (.ptr 50 s 0),.one (.sh 1 l.length (aA cRT l)),.agg (ai (enc m0)),.agg (ai (enc rate))] H ny
  (fun res H' _=>res= .tup []/\∀y B',bZ H [(50,⟨s,214,12,1,[.own 46 sg nn 3,.own 48 sk nn 3,.lit (.bool (enc (bP rate l m0 true S0).got.rv).neg),.lit (.string (enc (bP rate l m0 true S0).got.rv).num),.lit (.string (enc (bP rate l m0 true S0).got.rv).den),.lit (.bool (enc (bP rate l m0 true S0).slo.rv).neg),.lit (.string (enc (bP rate l m0 true S0).slo.rv).num),.lit (.string (enc (bP rate l m0 true S0).slo.rv).den),.lit (.bool (enc (bP rate l m0 true S0).room).neg),.lit (.string (enc (bP rate l m0 true S0).room).num),.lit (.string (enc (bP rate l m0 true S0).room).den),.lit (.bool (bP rate l m0 true S0).bnd)]⟩),(48,⟨sk,32,3,nn,aA cQ (bP rate l m0 true S0).slo.cl⟩),(46,⟨sg,32,3,nn,aA cQ (bP rate l m0 true S0).got.cl⟩)] y=some B'->H' y=some B'):=by
 have hll:=hl.1;refine cF 7000 func178 rfl (by decide) (N:=91) rfl (by simp) (Rl:=[]) rfl fun en k0=>?_
 refine awN ?_;simp only [br,seval,ai];refine awN ?_;simp only [br,seval];refine awN ?_;simp only [br,seval];have hV0a:S0.got.B (C+0*(Z+1)):=hC1.mono (by omega);have hV0b:S0.slo.B (C+0*(Z+1)):=hC2.mono (by omega);have hV0c:qB (M+0*(Sm+1)) m0:=hM.mono (by omega);refine eC H [0,1,6,7,8,9] [50,48,46,7006,7007] (nZ hbH (fun x h1 h2 h3 h4=>by simp only [aB];repeat rw [if_neg (by omega)]) _ (by rfl) (by rfl) (by rfl)) ?_;try simp only [ak,br,seval,h50,h48,h46]
 repeat' first|apply awS|apply awB
 refine aM (fun n st=>∃i0 m mg S w nx,i0<=l.length/\n=l.length-i0/\bP rate (l.drop i0) m mg S=bP rate l m0 true S0/\S.got.cl.length=nn/\S.slo.cl.length=nn/\S.got.B (C+w*(Z+1))/\S.slo.B (C+w*(Z+1))/\qB Zr S.room/\qB (M+i0*(Sm+1)) m/\w+wN (l.drop i0)=wN l/\st=⟨mkT [(0,.val (.one (.ptr 50 s 0))),(1,.val (.one (.sh 1 l.length (aA cRT l)))),(6,.val (.one (.ptr 7006 ny 0))),(7,.val (.one (.ptr 7007 (ny+1) 0))),(8,one (.bool mg)),(9,one (.int .i64 i0))],bZ H [(50,⟨s,214,12,1,[.own 46 sg nn 3,.own 48 sk nn 3,.lit (.bool (enc S.got.rv).neg),.lit (.string (enc S.got.rv).num),.lit (.string (enc S.got.rv).den),.lit (.bool (enc S.slo.rv).neg),.lit (.string (enc S.slo.rv).num),.lit (.string (enc S.slo.rv).den),.lit (.bool (enc S.room).neg),.lit (.string (enc S.room).num),.lit (.string (enc S.room).den),.lit (.bool S.bnd)]⟩),(48,⟨sk,32,3,nn,aA cQ S.slo.cl⟩),(46,⟨sg,32,3,nn,aA cQ S.got.cl⟩),(7006,⟨ny,32,3,1,ai (enc m)⟩),(7007,⟨ny+1,32,3,1,ai (enc rate)⟩)],nx,7000⟩) (l.length) ⟨0,m0,true,S0,0,_,by omega,by omega,by rfl,(by first|omega|assumption|rfl|simp|(simp;omega)),(by first|omega|assumption|rfl|simp|(simp;omega)),(by first|omega|assumption|rfl|simp|(simp;omega)),(by first|omega|assumption|rfl|simp|(simp;omega)),(by first|omega|assumption|rfl|simp|(simp;omega)),(by first|omega|assumption|rfl|simp|(simp;omega)),(by first|omega|assumption|rfl|simp|(simp;omega)),rfl⟩ ?_;rintro n0 st ⟨i0,m,mg,S,w,nx0,hk0,rfl,hL0,hV0_1,hV0_2,hV0_3,hV0_4,hV0_5,hV0_6,hV0_7,rfl⟩;by_cases hlt0:i0<l.length
 ·have hI0:(i0:Int)<(l.length:Int):=by omega
  have hat0:=aO E5 l i0 hlt0;try rw [Nat.mul_one] at hat0
  rw [List.drop_eq_getElem_cons hlt0] at hL0;have htm:=(List.getElem_mem hlt0);have hsz:=hl.2 _ htm;have hGn:=hV0_1;have hSn:=hV0_2;have hGB:=hV0_3;have hSB:=hV0_4;have hRm:=hV0_5;have hmB0:=hV0_6;have hw0:=hV0_7;rw [List.drop_eq_getElem_cons hlt0] at hw0;simp only [wN] at hw0;have hmw:(w+(l[i0]).length)*(Z+1)=w*(Z+1)+(l[i0]).length*(Z+1):=Nat.add_mul _ _ _;have hm1:(w+(l[i0]).length)*(Z+1)<=wN l*(Z+1):=Nat.mul_le_mul_right _ (by omega);have hi1:(i0+1)*(Sm+1)<=l.length*(Sm+1):=Nat.mul_le_mul_right _ hlt0;have hi2:(i0+1)*(Sm+1)=i0*(Sm+1)+(Sm+1):=Nat.succ_mul _ _;have hmB:qB (M+l.length*(Sm+1)) m:=hmB0.mono (by omega);obtain ⟨tk,htk⟩:∃x,bC m (av (l[i0]))=x:=⟨_,rfl⟩;have htkB:=DP hmB hsz.2.1;have hnm:=DO hmB0 hsz.2.1;rw [htk] at htkB hnm;have hnm2:qB (M+(i0+1)*(Sm+1)) (m-tk):=hnm.mono (by omega);have hnw:qB (M+(i0+1)*(Sm+1)) m:=hmB0.mono (by omega);have hnG:S.got.B (C+(w+(l[i0]).length)*(Z+1)):=hGB.mono (by omega);have hnS:S.slo.B (C+(w+(l[i0]).length)*(Z+1)):=hSB.mono (by omega);generalize l[i0]=t at *
  simp only [bP] at hL0;refine awN ?_;simp only [br,seval,ai,hI0];refine awT ?_;refine awK ?_;simp only [br,seval];have hSu:=G2 t K hsz.1 hsz.2.2 (by omega);simp only [ai] at hSu;refine awN ?_;simp only [br,seval,hI0,hat0,cRT,ab bB];repeat refine ob ?_
  refine ⟨_,hSu,(by first|rfl|simp [aU,aD,al,ax,A1.cells,ab bh,ab bB]),?_⟩;try simp only [ak,br,seval]
  by_cases h0:av t=0
  ·have hz:(enc (av t)).num={data:= #[]}:=(nS _).2 h0;refine awN ?_;simp only [br,seval,hz];refine awT ?_;refine awQ ?_;simp only [br,seval];refine awN ?_;simp only [br,seval];repeat refine ob ?_
   refine ⟨_,fP H [0,1,6,7,8,9] [50,48,46,7006,7007] (nZ hbH (fun x h1 h2 h3 h4=>by simp only [aB];repeat rw [if_neg (by omega)]) _ (by rfl) (by rfl) (by rfl)),l.length-(i0+1),by omega,i0+1,?a7_m,?a7_mg,?a7_S,(w+t.length),?a7_nx,by omega,rfl,?i7_0,?i7_1,?i7_2,?i7_3,?i7_4,?i7_5,?i7_6,?i7_7,?st7⟩;case st7=>(simp only [br,seval];first|rfl|(simp [hI0,hat0,hz,Nat.add_mul];done))
   case i7_0=>(have h:=hL0;rw [if_pos h0] at h;exact h)
   all_goals (first|omega|assumption|(simp;omega)|(simp_all;done))
  have hz:¬(enc (av t)).num={data:= #[]}:=fun h=>h0 ((nS _).1 h)
  refine awN ?_;simp only [br,seval,hz];refine awF ?_;refine awK ?_;simp only [br,seval];have hLe:=EH m (av t) _ _ hmB hsz.2.1 (by omega) (by omega);rw [htk] at hLe;simp only [ai] at hLe;refine awN ?_;simp only [br,seval];refine ⟨_,hLe,(by first|rfl|simp [aU,aD,al,ax,A1.cells,ab bh,ab bB]),?_⟩;try simp only [ak,br,seval]
  refine qd (M:=fun st=>∃hr s10 s11 nx,(hr=decide (mg=true/\m<av t))/\st=⟨mkT [(0,.val (.one (.ptr 50 s 0))),(1,.val (.one (.sh 1 l.length (aA cRT l)))),(6,.val (.one (.ptr 7006 ny 0))),(7,.val (.one (.ptr 7007 (ny+1) 0))),(8,one (.bool mg)),(9,one (.int .i64 i0)),(10,.val (.one (.ptr 7010 s10 0))),(11,.val (.one (.ptr 7011 s11 0))),(12,one (.bool hr))],bZ H [(50,⟨s,214,12,1,[.own 46 sg nn 3,.own 48 sk nn 3,.lit (.bool (enc S.got.rv).neg),.lit (.string (enc S.got.rv).num),.lit (.string (enc S.got.rv).den),.lit (.bool (enc S.slo.rv).neg),.lit (.string (enc S.slo.rv).num),.lit (.string (enc S.slo.rv).den),.lit (.bool (enc S.room).neg),.lit (.string (enc S.room).num),.lit (.string (enc S.room).den),.lit (.bool S.bnd)]⟩),(48,⟨sk,32,3,nn,aA cQ S.slo.cl⟩),(46,⟨sg,32,3,nn,aA cQ S.got.cl⟩),(7006,⟨ny,32,3,1,ai (enc m)⟩),(7007,⟨ny+1,32,3,1,ai (enc rate)⟩),(7010,⟨s10,32,3,1,ai (enc (av t))⟩),(7011,⟨s11,32,3,1,ai (enc tk)⟩)],nx,7000⟩) ?_ ?_
  ·by_cases hmg:mg=true
   ·have hLs:=zj m (av t) _ _ hmB hsz.2.1 (by omega) (by omega);simp only [ai] at hLs;refine awR [] [0,0,71,71,71,0,0] ?_;simp only [br,seval,ai,hmg];refine ⟨_,hLs,(by first|rfl|simp [aU,aD,al,ax,A1.cells,ab bh,ab bB]),?_⟩;try simp only [ak,br,seval]
    intro zc zQ hM;refine cm (fP H [0,1,6,7,8,9,10,11,12] [50,48,46,7006,7007,7010,7011] (nZ hbH (fun x h1 h2 h3 h4=>by simp only [aB];repeat rw [if_neg (by omega)]) _ (by rfl) (by rfl) (by rfl))) (hM _ ⟨decide (m<av t),?_,?_,?_,(by simp [hmg]),?cs11⟩);case cs11=>(simp only [br,seval];rfl)
   have hLs:=zj m (av t) _ _ hmB hsz.2.1 (by omega) (by omega);simp only [ai] at hLs;refine awR [] [0,0,71,71,71,0,0] ?_;simp only [br,seval,ai,hmg];intro zc zQ hM;refine cm (fP H [0,1,6,7,8,9,10,11,12] [50,48,46,7006,7007,7010,7011] (nZ hbH (fun x h1 h2 h3 h4=>by simp only [aB];repeat rw [if_neg (by omega)]) _ (by rfl) (by rfl) (by rfl))) (hM _ ⟨false,?_,?_,?_,(by simp [hmg]),?cs13⟩);case cs13=>(simp only [br,seval];rfl)
  rintro st ⟨hr,s10,s11,nx9,hhr9,rfl⟩;have hhp:hr=true->(mg=true/\m<av t):=fun h=>by rw [hhr9] at h;exact of_decide_eq_true h
  have hhn:¬hr=true->¬(mg=true/\m<av t):=fun h hh=>h (by rw [hhr9];exact decide_eq_true hh)
  refine awN ?_;simp only [br,seval,ai];have hV1a:S.got.B (C+w*(Z+1)+0*(Z+1)):=hGB.mono (by omega);have hV1b:S.slo.B (C+w*(Z+1)+0*(Z+1)):=hSB.mono (by omega);refine eC H [0,1,6,7,8,9,10,11,12,13] [50,48,46,7006,7007,7010,7011] (nZ hbH (fun x h1 h2 h3 h4=>by simp only [aB];repeat rw [if_neg (by omega)]) _ (by rfl) (by rfl) (by rfl)) ?_;try simp only [ak,br,seval]
  repeat' first|apply awS|apply awB
  refine aM (fun n st=>∃i1 R nx,i1<=t.length/\n=t.length-i1/\dV (av t) tk rate hr (t.drop i1) R=dV (av t) tk rate hr t S/\R.got.cl.length=nn/\R.slo.cl.length=nn/\R.got.B (C+w*(Z+1)+i1*(Z+1))/\R.slo.B (C+w*(Z+1)+i1*(Z+1))/\qB Zr R.room/\st=⟨mkT [(0,.val (.one (.ptr 50 s 0))),(1,.val (.one (.sh 1 l.length (aA cRT l)))),(6,.val (.one (.ptr 7006 ny 0))),(7,.val (.one (.ptr 7007 (ny+1) 0))),(8,one (.bool mg)),(9,one (.int .i64 i0)),(10,.val (.one (.ptr 7010 s10 0))),(11,.val (.one (.ptr 7011 s11 0))),(12,one (.bool hr)),(13,one (.int .i64 i1))],bZ H [(50,⟨s,214,12,1,[.own 46 sg nn 3,.own 48 sk nn 3,.lit (.bool (enc R.got.rv).neg),.lit (.string (enc R.got.rv).num),.lit (.string (enc R.got.rv).den),.lit (.bool (enc R.slo.rv).neg),.lit (.string (enc R.slo.rv).num),.lit (.string (enc R.slo.rv).den),.lit (.bool (enc R.room).neg),.lit (.string (enc R.room).num),.lit (.string (enc R.room).den),.lit (.bool R.bnd)]⟩),(48,⟨sk,32,3,nn,aA cQ R.slo.cl⟩),(46,⟨sg,32,3,nn,aA cQ R.got.cl⟩),(7006,⟨ny,32,3,1,ai (enc m)⟩),(7007,⟨ny+1,32,3,1,ai (enc rate)⟩),(7010,⟨s10,32,3,1,ai (enc (av t))⟩),(7011,⟨s11,32,3,1,ai (enc tk)⟩)],nx,7000⟩) (t.length) ⟨0,S,_,by omega,by omega,by rfl,(by first|omega|assumption|rfl|simp|(simp;omega)),(by first|omega|assumption|rfl|simp|(simp;omega)),(by first|omega|assumption|rfl|simp|(simp;omega)),(by first|omega|assumption|rfl|simp|(simp;omega)),(by first|omega|assumption|rfl|simp|(simp;omega)),rfl⟩ ?_;rintro n1 st ⟨i1,R,nx1,hk1,rfl,hL1,hV1_1,hV1_2,hV1_3,hV1_4,hV1_5,rfl⟩;by_cases hlt1:i1<t.length
  ·have hI1:(i1:Int)<(t.length:Int):=by omega
   have hat1:=aO og t i1 hlt1;try rw [Nat.mul_one] at hat1
   rw [List.drop_eq_getElem_cons hlt1] at hL1;have hpm:=(List.getElem_mem hlt1);have hpK:=hsz.2.2 _ hpm;have hRg:=hV1_1;have hRs:=hV1_2;have hRB:=hV1_3;have hRC:=hV1_4;have hRr:=hV1_5;have hshB:=hpK.div hsz.2.1;have hupB:=hshB.mul htkB;have hmul:(i1+1)*(Z+1)<=t.length*(Z+1):=Nat.mul_le_mul_right _ hlt1;have hmul1:(i1+1)*(Z+1)=i1*(Z+1)+(Z+1):=Nat.succ_mul _ _;generalize t[i1]=p at *
   simp only [dV] at hL1;refine awN ?_;simp only [br,seval,ai,hI0,hat0,hI1,cRT];repeat refine ob ?_
   refine awT ?_;refine awK ?_;simp only [br,seval];have hO:=Ft p.2 (av t) _ _ hpK hsz.2.1 (by omega) (by omega) h0;simp only [ai] at hO;refine awD (scT 0 9 (.two 9 10 (scq [20,22] .nil) (scq [18,22] .nil))) [0,0,0,0,0,0,0,0,0,0,0,0] ?_;simp only [br,seval,ai,hI0,hat0,hI1,hat1,cRT,cWP];repeat refine ob ?_
   refine ⟨?_,?_⟩
   ·refine ⟨_,hO,(by first|rfl|simp [aU,aD,al,ax,A1.cells,ab bh,ab bB]),?_⟩;try simp only [ak,br,seval]
    refine awN ?_;simp only [br,seval];by_cases hhr:hr=true
    ·refine awN ?_;simp only [br,seval,hhr];refine awT ?_;have hT:=m9 (p.2/av t) rate _ _ hshB hrate (by omega) (by omega);simp only [ai] at hT;refine awN ?_;simp only [br,seval];refine ⟨_,hT,(by first|rfl|simp [aU,aD,al,ax,A1.cells,ab bh,ab bB]),?_⟩;try simp only [ak,br,seval]
     have hU:=m9 (p.2/av t) tk _ _ hshB htkB (by omega) (by omega);have hslB:qB Z (p.2/av t*rate):=(hshB.mul hrate).mono (by omega);simp only [ai] at hU;repeat' first|apply awS|apply awB
     refine cb [76] (by kernel_rfl) (.cons 0 true (.cons 1 true (.cons 2 true (.cons 3 true (.cons 4 true (.cons 5 true (.cons 6 true (.cons 7 true (.cons 8 true (.cons 9 true (.cons 10 true (.cons 12 true (.cons 11 false (.cons 13 false .nil)))))))))))))) (by kernel_rfl) (gs:=[none,none,none,none,none,none,none,none,none,none,none,none,none,none]) (by kernel_rfl) (by simp only [zT,seval];rfl) (by decide) ?_;simp only [br,seval,ai,hI0,hat0,hI1,hat1,cRT,cWP,(id SD)];repeat refine ob ?_
     refine ⟨_,hU,(by first|rfl|simp [aU,aD,al,ax,A1.cells,ab bh,ab bB]),?_⟩;try simp only [ak,br,seval,ai,h50,h48,h46,hI0,hat0,hz,hI1,hat1,hhr,cRT,cWP]
     repeat refine ob ?_
     refine ⟨_,qx _ _ s sg sk nn R p.1 (p.2/av t*tk) (p.2/av t*rate) (by rfl) (by rfl) (by rfl) hRg hRs (fun y B h=>?_) (by omega) (hin _ htm _ hpm) (hRB.mono (by omega)) (hRC.mono (by omega)) (hupB.mono (by omega)) (hslB.mono (by omega)),?_⟩
     ·by_cases hy:y<9000
      ·exact hy
      exfalso;simp only [aB] at h;repeat rw [if_neg (by omega)] at h
      have h9:=hbH y B h;omega
     rintro res H' nx' ⟨rfl,hW⟩;simp only [br,seval];refine cg hW ?_;simp only [br,seval];have hn1:(R.put p.1 (p.2/av t*tk) (p.2/av t*rate)).got.cl.length=nn:=by rw [mB,bU];exact hRg
     have hn2:(R.put p.1 (p.2/av t*tk) (p.2/av t*rate)).slo.cl.length=nn:=by rw [mC,bU];exact hRs
     have hn3:(R.put p.1 (p.2/av t*tk) (p.2/av t*rate)).got.B (C+w*(Z+1)+(i1+1)*(Z+1)):=(eE hRB p.1 (hupB.mono (n:=Z) (by omega))).mono (by omega);have hn4:(R.put p.1 (p.2/av t*tk) (p.2/av t*rate)).slo.B (C+w*(Z+1)+(i1+1)*(Z+1)):=(eE hRC p.1 (hslB.mono (n:=Z) (by omega))).mono (by omega);have hn5:qB Zr (R.put p.1 (p.2/av t*tk) (p.2/av t*rate)).room:=hRr;refine awN ?_;simp only [br,seval];repeat refine ob ?_
     refine ⟨_,fP H [0,1,6,7,8,9,10,11,12,13] [50,48,46,7006,7007,7010,7011] (nZ hbH (fun x h1 h2 h3 h4=>by simp only [aB];repeat rw [if_neg (by omega)]) _ (by rfl) (by rfl) (by rfl)),t.length-(i1+1),by omega,i1+1,(R.put p.1 (p.2/av t*tk) (p.2/av t*rate)),?a22_nx,by omega,rfl,?i22_0,?i22_1,?i22_2,?i22_3,?i22_4,?i22_5,?st22⟩;case st22=>(simp only [br,seval];first|rfl|(simp [hI0,hat0,hz,hI1,hat1,hhr,Nat.add_mul];done))
     case i22_0=>(have h:=hL1;rw [if_pos hhr] at h;first|exact h|(rw [hhr] at h;exact h))
     all_goals (first|omega|assumption|(simp;omega)|(simp_all;done))
    refine awN ?_;simp only [br,seval,hhr];refine awF ?_;refine awK ?_;simp only [br,seval];have hU:=m9 (p.2/av t) tk _ _ hshB htkB (by omega) (by omega);have hslB:qB Z (0):=bW.mono (by omega);simp only [ai] at hU;refine cm (dz 7015 (ai (enc 0)) (by rfl) (by show (3:Nat)≠0;decide) (by rfl) (fun κ vs h=>by rw [bf];exact h)) ?_;simp only [br,seval];repeat' first|apply awS|apply awB
    refine cb [76] (by kernel_rfl) (.cons 0 true (.cons 1 true (.cons 2 true (.cons 3 true (.cons 4 true (.cons 5 true (.cons 6 true (.cons 7 true (.cons 8 true (.cons 9 true (.cons 10 true (.cons 12 true (.cons 11 false (.cons 13 false .nil)))))))))))))) (by kernel_rfl) (gs:=[none,none,none,none,none,none,none,none,none,none,none,none,none,none]) (by kernel_rfl) (by simp only [zT,seval];rfl) (by decide) ?_;simp only [br,seval,ai,hI0,hat0,hI1,hat1,cRT,cWP,(id SD)];repeat refine ob ?_
    refine ⟨_,hU,(by first|rfl|simp [aU,aD,al,ax,A1.cells,ab bh,ab bB]),?_⟩;try simp only [ak,br,seval,ai,h50,h48,h46,hI0,hat0,hz,hI1,hat1,hhr,cRT,cWP]
    repeat refine ob ?_
    refine ⟨_,qx _ _ s sg sk nn R p.1 (p.2/av t*tk) (0) (by rfl) (by rfl) (by rfl) hRg hRs (fun y B h=>?_) (by omega) (hin _ htm _ hpm) (hRB.mono (by omega)) (hRC.mono (by omega)) (hupB.mono (by omega)) (hslB.mono (by omega)),?_⟩
    ·by_cases hy:y<9000
     ·exact hy
     exfalso;simp only [aB] at h;repeat rw [if_neg (by omega)] at h
     have h9:=hbH y B h;omega
    rintro res H' nx' ⟨rfl,hW⟩;simp only [br,seval];refine cg hW ?_;simp only [br,seval];have hn1:(R.put p.1 (p.2/av t*tk) (0)).got.cl.length=nn:=by rw [mB,bU];exact hRg
    have hn2:(R.put p.1 (p.2/av t*tk) (0)).slo.cl.length=nn:=by rw [mC,bU];exact hRs
    have hn3:(R.put p.1 (p.2/av t*tk) (0)).got.B (C+w*(Z+1)+(i1+1)*(Z+1)):=(eE hRB p.1 (hupB.mono (n:=Z) (by omega))).mono (by omega);have hn4:(R.put p.1 (p.2/av t*tk) (0)).slo.B (C+w*(Z+1)+(i1+1)*(Z+1)):=(eE hRC p.1 (hslB.mono (n:=Z) (by omega))).mono (by omega);have hn5:qB Zr (R.put p.1 (p.2/av t*tk) (0)).room:=hRr;refine awN ?_;simp only [br,seval];repeat refine ob ?_
    refine ⟨_,fP H [0,1,6,7,8,9,10,11,12,13] [50,48,46,7006,7007,7010,7011] (nZ hbH (fun x h1 h2 h3 h4=>by simp only [aB];repeat rw [if_neg (by omega)]) _ (by rfl) (by rfl) (by rfl)),t.length-(i1+1),by omega,i1+1,(R.put p.1 (p.2/av t*tk) (0)),?a26_nx,by omega,rfl,?i26_0,?i26_1,?i26_2,?i26_3,?i26_4,?i26_5,?st26⟩;case st26=>(simp only [br,seval];first|rfl|(simp [hI0,hat0,hz,hI1,hat1,hhr,Nat.add_mul];done))
    case i26_0=>(have h:=hL1;rw [if_neg hhr] at h;first|exact h|(rw [show hr=false by simpa using hhr] at h;exact h))
    all_goals (first|omega|assumption|(simp;omega)|(simp_all;done))
   refine ⟨_,hO,(by first|rfl|simp [aU,aD,al,ax,A1.cells,ab bh,ab bB]),?_⟩;try simp only [ak,br,seval]
   refine awN ?_;simp only [br,seval];by_cases hhr:hr=true
   ·refine awN ?_;simp only [br,seval,hhr];refine awT ?_;have hT:=m9 (p.2/av t) rate _ _ hshB hrate (by omega) (by omega);simp only [ai] at hT;refine awN ?_;simp only [br,seval];refine ⟨_,hT,(by first|rfl|simp [aU,aD,al,ax,A1.cells,ab bh,ab bB]),?_⟩;try simp only [ak,br,seval]
    have hU:=m9 (p.2/av t) tk _ _ hshB htkB (by omega) (by omega);have hslB:qB Z (p.2/av t*rate):=(hshB.mul hrate).mono (by omega);simp only [ai] at hU;repeat' first|apply awS|apply awB
    refine cb [76] (by kernel_rfl) (.cons 0 true (.cons 1 true (.cons 2 true (.cons 3 true (.cons 4 true (.cons 5 true (.cons 6 true (.cons 7 true (.cons 8 true (.cons 9 true (.cons 10 true (.cons 12 true (.cons 11 false (.cons 13 false .nil)))))))))))))) (by kernel_rfl) (gs:=[none,none,none,none,none,none,none,none,none,none,none,none,none,none]) (by kernel_rfl) (by simp only [zT,seval];rfl) (by decide) ?_;simp only [br,seval,ai,hI0,hat0,hI1,hat1,cRT,cWP,(id SD)];repeat refine ob ?_
    refine ⟨_,hU,(by first|rfl|simp [aU,aD,al,ax,A1.cells,ab bh,ab bB]),?_⟩;try simp only [ak,br,seval,ai,h50,h48,h46,hI0,hat0,hz,hI1,hat1,hhr,cRT,cWP]
    repeat refine ob ?_
    refine ⟨_,qx _ _ s sg sk nn R p.1 (p.2/av t*tk) (p.2/av t*rate) (by rfl) (by rfl) (by rfl) hRg hRs (fun y B h=>?_) (by omega) (hin _ htm _ hpm) (hRB.mono (by omega)) (hRC.mono (by omega)) (hupB.mono (by omega)) (hslB.mono (by omega)),?_⟩
    ·by_cases hy:y<9000
     ·exact hy
     exfalso;simp only [aB] at h;repeat rw [if_neg (by omega)] at h
     have h9:=hbH y B h;omega
    rintro res H' nx' ⟨rfl,hW⟩;simp only [br,seval];refine cg hW ?_;simp only [br,seval];have hn1:(R.put p.1 (p.2/av t*tk) (p.2/av t*rate)).got.cl.length=nn:=by rw [mB,bU];exact hRg
    have hn2:(R.put p.1 (p.2/av t*tk) (p.2/av t*rate)).slo.cl.length=nn:=by rw [mC,bU];exact hRs
    have hn3:(R.put p.1 (p.2/av t*tk) (p.2/av t*rate)).got.B (C+w*(Z+1)+(i1+1)*(Z+1)):=(eE hRB p.1 (hupB.mono (n:=Z) (by omega))).mono (by omega);have hn4:(R.put p.1 (p.2/av t*tk) (p.2/av t*rate)).slo.B (C+w*(Z+1)+(i1+1)*(Z+1)):=(eE hRC p.1 (hslB.mono (n:=Z) (by omega))).mono (by omega);have hn5:qB Zr (R.put p.1 (p.2/av t*tk) (p.2/av t*rate)).room:=hRr;refine awN ?_;simp only [br,seval];repeat refine ob ?_
    refine ⟨_,fP H [0,1,6,7,8,9,10,11,12,13] [50,48,46,7006,7007,7010,7011] (nZ hbH (fun x h1 h2 h3 h4=>by simp only [aB];repeat rw [if_neg (by omega)]) _ (by rfl) (by rfl) (by rfl)),t.length-(i1+1),by omega,i1+1,(R.put p.1 (p.2/av t*tk) (p.2/av t*rate)),?a32_nx,by omega,rfl,?i32_0,?i32_1,?i32_2,?i32_3,?i32_4,?i32_5,?st32⟩;case st32=>(simp only [br,seval];first|rfl|(simp [hI0,hat0,hz,hI1,hat1,hhr,Nat.add_mul];done))
    case i32_0=>(have h:=hL1;rw [if_pos hhr] at h;first|exact h|(rw [hhr] at h;exact h))
    all_goals (first|omega|assumption|(simp;omega)|(simp_all;done))
   refine awN ?_;simp only [br,seval,hhr];refine awF ?_;refine awK ?_;simp only [br,seval];have hU:=m9 (p.2/av t) tk _ _ hshB htkB (by omega) (by omega);have hslB:qB Z (0):=bW.mono (by omega);simp only [ai] at hU;refine cm (dz 7015 (ai (enc 0)) (by rfl) (by show (3:Nat)≠0;decide) (by rfl) (fun κ vs h=>by rw [bf];exact h)) ?_;simp only [br,seval];repeat' first|apply awS|apply awB
   refine cb [76] (by kernel_rfl) (.cons 0 true (.cons 1 true (.cons 2 true (.cons 3 true (.cons 4 true (.cons 5 true (.cons 6 true (.cons 7 true (.cons 8 true (.cons 9 true (.cons 10 true (.cons 12 true (.cons 11 false (.cons 13 false .nil)))))))))))))) (by kernel_rfl) (gs:=[none,none,none,none,none,none,none,none,none,none,none,none,none,none]) (by kernel_rfl) (by simp only [zT,seval];rfl) (by decide) ?_;simp only [br,seval,ai,hI0,hat0,hI1,hat1,cRT,cWP,(id SD)];repeat refine ob ?_
   refine ⟨_,hU,(by first|rfl|simp [aU,aD,al,ax,A1.cells,ab bh,ab bB]),?_⟩;try simp only [ak,br,seval,ai,h50,h48,h46,hI0,hat0,hz,hI1,hat1,hhr,cRT,cWP]
   repeat refine ob ?_
   refine ⟨_,qx _ _ s sg sk nn R p.1 (p.2/av t*tk) (0) (by rfl) (by rfl) (by rfl) hRg hRs (fun y B h=>?_) (by omega) (hin _ htm _ hpm) (hRB.mono (by omega)) (hRC.mono (by omega)) (hupB.mono (by omega)) (hslB.mono (by omega)),?_⟩
   ·by_cases hy:y<9000
    ·exact hy
    exfalso;simp only [aB] at h;repeat rw [if_neg (by omega)] at h
    have h9:=hbH y B h;omega
   rintro res H' nx' ⟨rfl,hW⟩;simp only [br,seval];refine cg hW ?_;simp only [br,seval];have hn1:(R.put p.1 (p.2/av t*tk) (0)).got.cl.length=nn:=by rw [mB,bU];exact hRg
   have hn2:(R.put p.1 (p.2/av t*tk) (0)).slo.cl.length=nn:=by rw [mC,bU];exact hRs
   have hn3:(R.put p.1 (p.2/av t*tk) (0)).got.B (C+w*(Z+1)+(i1+1)*(Z+1)):=(eE hRB p.1 (hupB.mono (n:=Z) (by omega))).mono (by omega);have hn4:(R.put p.1 (p.2/av t*tk) (0)).slo.B (C+w*(Z+1)+(i1+1)*(Z+1)):=(eE hRC p.1 (hslB.mono (n:=Z) (by omega))).mono (by omega);have hn5:qB Zr (R.put p.1 (p.2/av t*tk) (0)).room:=hRr;refine awN ?_;simp only [br,seval];repeat refine ob ?_
   refine ⟨_,fP H [0,1,6,7,8,9,10,11,12,13] [50,48,46,7006,7007,7010,7011] (nZ hbH (fun x h1 h2 h3 h4=>by simp only [aB];repeat rw [if_neg (by omega)]) _ (by rfl) (by rfl) (by rfl)),t.length-(i1+1),by omega,i1+1,(R.put p.1 (p.2/av t*tk) (0)),?a36_nx,by omega,rfl,?i36_0,?i36_1,?i36_2,?i36_3,?i36_4,?i36_5,?st36⟩;case st36=>(simp only [br,seval];first|rfl|(simp [hI0,hat0,hz,hI1,hat1,hhr,Nat.add_mul];done))
   case i36_0=>(have h:=hL1;rw [if_neg hhr] at h;first|exact h|(rw [show hr=false by simpa using hhr] at h;exact h))
   all_goals (first|omega|assumption|(simp;omega)|(simp_all;done))
  obtain rfl:i1=t.length:=by omega
  have hI1:¬(t.length:Int)<(t.length:Int):=by omega
  rw [List.drop_length] at hL1;simp only [dV] at hL1;have hRg:=hV1_1;have hRs:=hV1_2;have hRr:=hV1_5;have hRG2:R.got.B (C+(w+t.length)*(Z+1)):=hV1_3.mono (by omega);have hRS2:R.slo.B (C+(w+t.length)*(Z+1)):=hV1_4.mono (by omega);refine awN ?_;simp only [br,seval,ai,hI0,hat0,hI1,cRT];repeat refine ob ?_
  refine awF ?_;refine awQ ?_;simp only [br,seval];have hMi:=pC m tk _ _ hmB htkB (by omega) (by omega);simp only [ai] at hMi;refine awN ?_;simp only [br,seval];refine ⟨_,hMi,(by first|rfl|simp [aU,aD,al,ax,A1.cells,ab bh,ab bB]),?_⟩;try simp only [ak,br,seval]
  by_cases hhr2:hr=true
  ·refine awN ?_;simp only [br,seval,hhr2];refine awT ?_;refine awN ?_;simp only [br,seval];by_cases hr0:rate=0
   ·have hz2:(enc rate).num={data:= #[]}:=(nS _).2 hr0;refine awN ?_;simp only [br,seval,hz2];refine awF ?_;refine awK ?_;simp only [br,seval];refine awN ?_;simp only [br,seval];repeat refine ob ?_
    refine ⟨_,fP H [0,1,6,7,8,9] [50,48,46,7006,7007] (nZ hbH (fun x h1 h2 h3 h4=>by simp only [aB];repeat rw [if_neg (by omega)]) _ (by rfl) (by rfl) (by rfl)),l.length-(i0+1),by omega,i0+1,(m-tk),(false),(R),(w+t.length),?a43_nx,by omega,rfl,?i43_0,?i43_1,?i43_2,?i43_3,?i43_4,?i43_5,?i43_6,?i43_7,?st43⟩;case st43=>(simp only [br,seval];first|rfl|(simp [hI0,hat0,hz,hI1,hhr2,hz2,Nat.add_mul];done))
    case i43_0=>(have h:=hL0;rw [if_neg h0,htk] at h;rw [hL1];rw [if_pos (hhp hhr2),if_neg (fun hh=>hh.2 hr0),decide_eq_true (hhp hhr2)] at h;rw [hhr2];exact h)
    all_goals (first|omega|assumption|(simp;omega)|(simp_all;done))
   have hz2:¬(enc rate).num={data:= #[]}:=fun h=>hr0 ((nS _).1 h)
   refine awN ?_;simp only [br,seval,hz2];refine awT ?_;have hDi:=pC (av t) tk _ _ hsz.2.1 htkB (by omega) (by omega);have hgpB:=hsz.2.1.sub htkB;have hOv:=Ft (av t-tk) rate _ _ hgpB hrate (by omega) (by omega) hr0;have hgqB:qB Zr ((av t-tk)/rate):=(hgpB.div hrate).mono (by omega);simp only [ai] at hDi hOv;repeat' first|apply awS|apply awB
   refine cb [90] (by kernel_rfl) (.cons 0 true (.cons 1 true (.cons 2 true (.cons 4 true (.cons 3 false (.cons 5 false (.cons 6 false .nil))))))) (by kernel_rfl) (gs:=[none,none,none,none,none,none,none]) (by kernel_rfl) (by simp only [zT,seval];rfl) (by decide) ?_;simp only [br,seval,(id SD)];refine ⟨_,hDi,(by first|rfl|simp [aU,aD,al,ax,A1.cells,ab bh,ab bB]),?_⟩;try simp only [ak,br,seval,ai,h50,h48,h46,hI0,hat0,hz,hI1,hhr2,hz2]
   repeat refine ob ?_
   refine ⟨⟨⟨rfl,rfl,rfl,trivial⟩,⟨rfl,rfl,rfl,trivial⟩,trivial⟩,?_⟩;refine ⟨_,hOv,rfl,?_⟩;try unfold ak
   simp only [br,seval];repeat refine ob ?_
   refine ⟨_,Aa _ _ s sg sk nn R ((av t-tk)/rate) (by rfl) (by rfl) (by rfl) (fun y B h=>?_) (hRr.mono (by omega)) (hgqB.mono (by omega)),?_⟩
   ·by_cases hy:y<9000
    ·exact hy
    exfalso;simp only [aB] at h;repeat rw [if_neg (by omega)] at h
    have h9:=hbH y B h;omega
   rintro res H' nx' ⟨rfl,hW⟩;simp only [br,seval];refine cg hW ?_;simp only [br,seval];have hx1:(R.kink ((av t-tk)/rate)).got.cl.length=nn:=by rw [fW];exact hRg
   have hx2:(R.kink ((av t-tk)/rate)).slo.cl.length=nn:=by rw [fX];exact hRs
   have hx3:(R.kink ((av t-tk)/rate)).got.B (C+(w+t.length)*(Z+1)):=by rw [fW];exact hRG2
   have hx4:(R.kink ((av t-tk)/rate)).slo.B (C+(w+t.length)*(Z+1)):=by rw [fX];exact hRS2
   have hx5:qB Zr (R.kink ((av t-tk)/rate)).room:=nh hRr hgqB;refine awN ?_;simp only [br,seval];repeat refine ob ?_
   refine ⟨_,fP H [0,1,6,7,8,9] [50,48,46,7006,7007] (nZ hbH (fun x h1 h2 h3 h4=>by simp only [aB];repeat rw [if_neg (by omega)]) _ (by rfl) (by rfl) (by rfl)),l.length-(i0+1),by omega,i0+1,(m-tk),(false),(R.kink ((av t-tk)/rate)),(w+t.length),?a47_nx,by omega,rfl,?i47_0,?i47_1,?i47_2,?i47_3,?i47_4,?i47_5,?i47_6,?i47_7,?st47⟩;case st47=>(simp only [br,seval];first|rfl|(simp [hI0,hat0,hz,hI1,hhr2,hz2,Nat.add_mul];done))
   case i47_0=>(have h:=hL0;rw [if_neg h0,htk] at h;rw [hL1];rw [if_pos (hhp hhr2),if_pos ⟨hhp hhr2,hr0⟩,decide_eq_true (hhp hhr2)] at h;rw [hhr2];exact h)
   all_goals (first|omega|assumption|(simp;omega)|(simp_all;done))
  refine awN ?_;simp only [br,seval,hhr2];refine awF ?_;refine awK ?_;simp only [br,seval];refine awN ?_;simp only [br,seval];repeat refine ob ?_
  refine ⟨_,fP H [0,1,6,7,8,9] [50,48,46,7006,7007] (nZ hbH (fun x h1 h2 h3 h4=>by simp only [aB];repeat rw [if_neg (by omega)]) _ (by rfl) (by rfl) (by rfl)),l.length-(i0+1),by omega,i0+1,(m-tk),(mg),(R),(w+t.length),?a50_nx,by omega,rfl,?i50_0,?i50_1,?i50_2,?i50_3,?i50_4,?i50_5,?i50_6,?i50_7,?st50⟩;case st50=>(simp only [br,seval];first|rfl|(simp [hI0,hat0,hz,hI1,hhr2,Nat.add_mul];done))
  case i50_0=>(have h:=hL0;rw [if_neg h0,htk] at h;rw [hL1];rw [if_neg (hhn hhr2),if_neg (fun hh=>hhn hhr2 hh.1),decide_eq_false (hhn hhr2)] at h;rw [show hr=false by simpa using hhr2];exact h)
  all_goals (first|omega|assumption|(simp;omega)|(simp_all;done))
 obtain rfl:i0=l.length:=by omega
 have hI0:¬(l.length:Int)<(l.length:Int):=by omega
 rw [List.drop_length] at hL0;simp only [bP] at hL0;refine awN ?_;simp only [br,seval,ai,hI0];refine awF ?_;refine awQ ?_;simp only [br,seval];try refine ⟨rfl,?_⟩
 intro y B h;rw [←hL0] at h;try simp only [bZ,aB] at h ⊢
 by_cases hy:y=50
 ·subst hy;first|exact h|(simpa [h50,ai] using h)
 simp only [hy,if_false] at h ⊢;by_cases hy2:y=48
 ·subst hy2;first|exact h|(simpa [h48] using h)
 simp only [hy2,if_false] at h ⊢;by_cases hy3:y=46
 ·subst hy3;first|exact h|(simpa [h46] using h)
 simp only [hy3,if_false] at h ⊢;have h9:=hbH y B h;repeat rw [if_neg (by omega)]
 exact h
def RS.z (n:Nat):RS:=⟨⟨List.replicate n 0,0⟩,⟨List.replicate n 0,0⟩,0,false⟩
theorem e0n:(enc 0).neg=false:=by rw [←fZ];rfl
theorem e0m:(enc 0).num=ay:=by rw [←fZ];rfl
theorem e0d:(enc 0).den=ay:=by rw [←fZ];rfl
theorem yo:ai (enc 1)=[.lit (.bool false),.lit (.string {data:= #[1]}),.lit (.string ay)]:=by
 rw [Ej];have h1:aj 1={data:= #[1]}:=by decide+kernel
 rw [h1];rfl
def ID:=And.intro zS (And.intro cD (And.intro gH (dN)))
theorem G3:type_of%ID:=ID
theorem Ja:aR prog 180 [] (.val (.agg (ai (enc 1)))):=by
 refine aP func180 rfl (by decide) (N:=2) rfl (by simp) (R:=[.cell 0 32]) rfl fun en k0=>?_
 refine awN ?_;simp only [G3,seval];refine awN ?_;simp only [G3,seval];refine awX ?_;simp only [G3,seval,yo]
def IE:=And.intro zS (And.intro ll (And.intro If (And.intro dN (Ig))))
theorem wB:type_of%IE:=IE
theorem wC (H:Hp) (ny nn:Nat) (hn:nn<=1000000) (hbH:∀y B,H y=some B->y<42):cT prog 177 [.one (.lit (.int .i64 (nn:Int)))] H ny
  (fun res H' _=>∃s sg sk,res= .val (.one (.ptr 50 s 0))/\H'=bZ H [(50,⟨s,214,12,1,[.own 46 sg nn 3,.own 48 sk nn 3,.lit (.bool (enc (RS.z nn).got.rv).neg),.lit (.string (enc (RS.z nn).got.rv).num),.lit (.string (enc (RS.z nn).got.rv).den),.lit (.bool (enc (RS.z nn).slo.rv).neg),.lit (.string (enc (RS.z nn).slo.rv).num),.lit (.string (enc (RS.z nn).slo.rv).den),.lit (.bool (enc (RS.z nn).room).neg),.lit (.string (enc (RS.z nn).room).num),.lit (.string (enc (RS.z nn).room).den),.lit (.bool (RS.z nn).bnd)]⟩),(48,⟨sk,32,3,nn,aA cQ (RS.z nn).slo.cl⟩),(46,⟨sg,32,3,nn,aA cQ (RS.z nn).got.cl⟩)]):=by
 refine cF 42 func177 rfl (by decide) (N:=9) rfl (by simp) (Rl:=[.tmp 2]) rfl fun en k0=>?_
 refine awN ?_;simp only [wB,seval];refine awD (scq [1,5] (.two 1 3 (scq [6,9,10,13] .nil) (scq [2,9,10,13] .nil))) [0,0,0,0,0,0,0] ?_;simp only [wB,seval,ja];refine ⟨?_,?_⟩
 ·repeat refine ob ?_
  try simp only [wB,seval,ja]
  refine eC H [2] [50,48,46] (fun y B h=>by right;have h9:=hbH y B h;simp only [aB];(repeat rw [if_neg (by omega)]);exact h) ?_;simp only [wB,seval];refine awX ?_;simp only [wB,seval,e0n,e0m,e0d,RS.z];exact ⟨_,_,_,rfl,rfl⟩
 repeat refine ob ?_
 try simp only [wB,seval,ja]
 refine eC H [2] [50,48,46] (fun y B h=>by right;have h9:=hbH y B h;simp only [aB];(repeat rw [if_neg (by omega)]);exact h) ?_;simp only [wB,seval];refine awX ?_;simp only [wB,seval,e0n,e0m,e0d,RS.z];exact ⟨_,_,_,rfl,rfl⟩
noncomputable def cRS (n:Nat) (S:RS):List C:=[.sh 3 n (aA cQ S.got.cl),.sh 3 n (aA cQ S.slo.cl),.lit (.bool (enc S.got.rv).neg),.lit (.string (enc S.got.rv).num),.lit (.string (enc S.got.rv).den),.lit (.bool (enc S.slo.rv).neg),.lit (.string (enc S.slo.rv).num),.lit (.string (enc S.slo.rv).den),.lit (.bool (enc S.room).neg),.lit (.string (enc S.room).num),.lit (.string (enc S.room).den),.lit (.bool S.bnd)]
def IF:=And.intro zS (And.intro mN (And.intro pq (And.intro pr (And.intro ic (cD)))))
theorem ni:type_of%IF:=IF
theorem wD (e:GEst) (m:Rat) (K Sm M Z:Nat) (hl:e.claims.length<=1000) (ham:∀c∈e.claims,sB K c.amount) (hKb:K<=10000000) (hw:wOK K Sm (aC e.claims)) (hin:∀t∈aC e.claims,wIn e.claims.length t) (hm:qB M m) (hZ:K+Sm+(M+(aC e.claims).length*(Sm+1))+Sm+2<=Z) (hB:1+wN (aC e.claims)*(Z+1)<=40000000000) (hZb:Z<=40000000000):aR prog 147 [.agg (aJ e),.agg (ai (enc m))] (.val (.one (.sp (cRS e.claims.length (bP 1 (aC e.claims) m true (RS.z e.claims.length)))))):=by
 have hz0:(⟨List.replicate e.claims.length 0,0⟩:WR).B 1:=fm e.claims.length;have hz1:qB Z (0:Rat):=bW.mono (by omega);refine aP func147 rfl (by decide) (N:=17) rfl (by simp) (R:=[.tmp 4]) rfl fun en k0=>?_
 refine awN ?_;simp only [ni,seval,ai,aJ];refine awR [9] [0,0,0,0,0] ?_;simp only [ni,seval];refine ⟨_,wC _ _ e.claims.length (by omega) (fun y B h=>?_),?_⟩
 ·by_cases hy:y<42
  ·exact hy
  exfalso;simp only [aB] at h;repeat rw [if_neg (by omega)] at h
  cases h
 rintro res H' nx' ⟨s,sg,sk,rfl,rfl⟩;simp only [ni,seval];have hRk:=DL e K hl ham hKb;have hOn:=Ja;simp only [ai] at hOn;repeat' first|apply awS|apply awB
 refine cb [15] (by kernel_rfl) (.cons 0 true (.cons 1 true (.cons 3 true (.cons 2 false (.cons 4 false (.cons 5 false .nil)))))) (by kernel_rfl) (gs:=[none,none,none,none,none,none]) (by kernel_rfl) (by simp only [zT,seval];rfl) (by decide) ?_;simp only [ni,seval,ab ao,ab au,(id SD)];refine ⟨_,hRk,(by first|rfl|simp [al,ax,ab bh]),?_⟩;try simp only [ak,ni,seval,ai,aJ,ab ao,ab au,ab bh]
 repeat refine ob ?_
 refine ⟨trivial,?_⟩;refine ⟨_,hOn,rfl,?_⟩;try unfold ak
 simp only [ni,seval];repeat refine ob ?_
 refine ⟨_,Ab _ _ s sg sk e.claims.length (RS.z e.claims.length) (aC e.claims) m 1 K Sm M 1 1 Z Z (by rfl) (by rfl) (by rfl) (by simp [RS.z]) (by simp [RS.z]) (fun y B h=>?_) (by omega) hw hin hm ti hz0 hz0 hz1 hKb (by omega) (by omega) (by omega) (by omega) (by omega),?_⟩
 ·by_cases hy:y<7000
  ·exact hy
  exfalso;simp only [aB] at h;repeat rw [if_neg (by omega)] at h
  cases h
 rintro res H' nx' ⟨rfl,hW⟩;simp only [ni,seval,(id SD)];refine cg hW ?_;simp only [ni,seval];refine dp 46 50 0 (by rfl) (by rfl) (by rfl) (by decide) (by show (3:Nat)≠0;decide) (by show (12:Nat)≠0;decide) rfl ?_;simp only [ni,seval];refine dp 48 50 1 (by rfl) (by rfl) (by rfl) (by decide) (by show (3:Nat)≠0;decide) (by show (12:Nat)≠0;decide) rfl ?_;simp only [ni,seval];refine vY (t:=5) (by rfl) (by rfl) (by show (12:Nat)≠0;decide) (by rfl) ?_;simp only [ni,seval];refine awN ?_;simp only [ni,seval];refine awX ?_;simp only [ni,seval,ab ap];simp [cRS]
def rIn (a:bR) (g k:List Rat):List GClaim->Nat->List Bool->Rat->Rat->List Bool×Rat×Rat
 |[],_,fl,p,r=>(fl,p,r)
 |_::l,i,fl,p,r=>if mbA (i:Int) a=true then rIn a g k l (i+1) (fl.set i true) (p+g.getD i 0) (r+k.getD i 0) else rIn a g k l (i+1) fl p r
noncomputable def jM (cs:List GClaim) (G:RS):List bR->List Bool->RS->List Bool×RS
 |[],fl,s=>(fl,s)
 |a::l,fl,s=>jM cs G l (rIn a G.got.cl G.slo.cl cs 0 fl 0 0).1 (bP (rIn a G.got.cl G.slo.cl cs 0 fl 0 0).2.2 (aV cs a).2 (rIn a G.got.cl G.slo.cl cs 0 fl 0 0).2.1 true s)
def f8 (G:RS) (fl:List Bool):List GClaim->Nat->RS->RS
 |[],_,s=>s
 |_::l,i,s=>if fl.getD i false=true then f8 G fl l (i+1) s else f8 G fl l (i+1) (s.put (i:Int) (G.got.cl.getD i 0) (G.slo.cl.getD i 0))
noncomputable def rG (e:GEst) (m:Rat):RS:=bP 1 (aC e.claims) m true (RS.z e.claims.length)
noncomputable def rS0 (e:GEst) (m:Rat):RS:=if (rG e m).bnd=true then (RS.z e.claims.length).kink (rG e m).room else RS.z e.claims.length
noncomputable def rO (e:GEst) (m:Rat):List Bool×RS:=jM e.claims (rG e m) e.agrs (List.replicate e.claims.length false) (rS0 e m)
noncomputable def eL (e:GEst) (m:Rat):RS:=f8 (rG e m) (rO e m).1 e.claims 0 (rO e m).2
theorem qy (a:bR) (g k:List Rat):∀(l:List GClaim) (i:Nat) (fl:List Bool) (p r:Rat),(rIn a g k l i fl p r).2.1=p+aK g (rMs a l.length i)
 |[],i,fl,p,r=>by simp only [rIn,rMs,List.length_nil,aK];grind
 |c::l,i,fl,p,r=>by
  rw [rIn,List.length_cons,rMs];split
  ·rw [qy a g k l,aK,Int.toNat_natCast];grind
  exact qy a g k l _ _ _ _
theorem qz (a:bR) (g k:List Rat):∀(l:List GClaim) (i:Nat) (fl:List Bool) (p r:Rat),(rIn a g k l i fl p r).2.2=r+aK k (rMs a l.length i)
 |[],i,fl,p,r=>by simp only [rIn,rMs,List.length_nil,aK];grind
 |c::l,i,fl,p,r=>by
  rw [rIn,List.length_cons,rMs];split
  ·rw [qz a g k l,aK,Int.toNat_natCast];grind
  exact qz a g k l _ _ _ _
theorem tX (a:bR) (g k:List Rat):∀(l:List GClaim) (i:Nat) (fl:List Bool) (p r:Rat),(rIn a g k l i fl p r).1.length=fl.length
 |[],i,fl,p,r=>rfl
 |c::l,i,fl,p,r=>by
  rw [rIn];split
  ·rw [tX a g k l,List.length_set]
  exact tX a g k l _ _ _ _
theorem qA (a:bR) (g k:List Rat) (j:Nat):∀(l:List GClaim) (i:Nat) (fl:List Bool) (p r:Rat),i+l.length<=fl.length->
  ((rIn a g k l i fl p r).1.getD j false=true↔fl.getD j false=true∨(j:Int)∈rMs a l.length i)
 |[],i,fl,p,r,_=>by simp [rIn,rMs]
 |c::l,i,fl,p,r,h=>by
  simp only [List.length_cons] at h;rw [rIn,List.length_cons,rMs];split
  ·rw [qA a g k j l (i+1) _ _ _ (by rw [List.length_set];omega),List.mem_cons];by_cases hj:j=i
   ·subst hj;rw [List.getD_eq_getElem?_getD,List.getElem?_set_self (by omega)];simp
   rw [List.getD_eq_getElem?_getD,List.getElem?_set_ne (by omega),←List.getD_eq_getElem?_getD];have h1:¬(j:Int)=(i:Int):=by omega
   simp [h1]
  exact qA a g k j l (i+1) _ _ _ (by omega)
noncomputable def aN (cs:List GClaim):List bR->Nat
 |[]=>0
 |a::l=>wN (aV cs a).2+aN cs l
structure rdB (e:GEst) (K Km Sm M Z Zg P K2 S2 Z2 Zr:Nat):Prop where
 n:e.claims.length<=1000
 an:e.agrs.length<=1000
 am:∀c∈e.claims,sB K c.amount
 kb:K<=10000000
 rk:wOK K Sm (aC e.claims)
 rin:∀t∈aC e.claims,wIn e.claims.length t
 z:K+Sm+(M+(aC e.claims).length*(Sm+1))+Sm+2<=Z
 zg:1+wN (aC e.claims)*(Z+1)<=Zg
 la:∀a∈e.agrs,layB e.claims a K Km
 pl:∀a∈e.agrs,wOK K2 S2 (aV e.claims a).2/\∀t∈(aV e.claims a).2,wIn e.claims.length t
 p:1+e.claims.length*(Zg+1)<=P
 k2:K2<=10000000
 z2:∀a∈e.agrs,K2+S2+(P+(aV e.claims a).2.length*(S2+1))+S2+P<=Z2
 zr:∀a∈e.agrs,S2+(P+(aV e.claims a).2.length*(S2+1))+S2+1+P<=Zr
 zr2:Z<=Zr
 zgb:Zg<=40000000
 pb:P<=40000000000
 zb:Z<=40000000
 z2b:Z2<=40000000000
 zrb:Zr<=40000000000
 b:1+aN e.claims e.agrs*(Z2+1)+e.claims.length*(Zg+1)<=99000000000
theorem wE {K Sm T R9 Z:Nat} {tot tk rate:Rat} (htot:qB Sm tot) (htk:qB T tk) (hr:qB R9 rate) (h1:K+Sm+T<=Z) (h2:K+Sm+R9<=Z) (here:Bool):∀(t:WT) (S:RS) (C:Nat),(∀p∈t,qB K p.2)->S.got.B C->S.slo.B C->
  (dV tot tk rate here t S).got.B (C+t.length*(Z+1))/\(dV tot tk rate here t S).slo.B (C+t.length*(Z+1))/\(dV tot tk rate here t S).room=S.room/\(dV tot tk rate here t S).got.cl.length=S.got.cl.length/\(dV tot tk rate here t S).slo.cl.length=S.slo.cl.length
 |[],S,C,_,h,k=>by
  simp only [dV,List.length_nil,Nat.zero_mul,Nat.add_zero];exact ⟨h,k,trivial,trivial,trivial⟩
 |p::t,S,C,hk,h,k=>by
  have hp:=hk p (by simp);have hsh:=hp.div htot;have hg:qB Z (p.2/tot*tk):=(hsh.mul htk).mono (by omega);have hs:qB Z (if here=true then p.2/tot*rate else 0):=by
   split
   ·exact (hsh.mul hr).mono (by omega)
   exact bW.mono (by have:=hp.pos;omega)
  obtain ⟨i1,i2,i3,i4,i5⟩:=wE htot htk hr h1 h2 here t (S.put p.1 (p.2/tot*tk) (if here=true then p.2/tot*rate else 0)) (C+(Z+1)) (fun x hx=>hk x (by simp [hx])) (eE h p.1 hg) (eE k p.1 hs);have hl:C+(Z+1)+t.length*(Z+1)=C+(t.length+1)*(Z+1):=by rw [Nat.succ_mul];omega
  rw [dV,List.length_cons,←hl];exact ⟨i1,i2,i3,by rw [i4,mB,bU],by rw [i5,mC,bU]⟩
theorem ol {rate : Rat} {K Sm R9 Z Zr : Nat} (hr : qB R9 rate) : ∀ (l : List WT) (m : Rat) (mg : Bool) (S : RS) (C M : Nat), wOK K Sm l → qB M m → S.got.B C → S.slo.B C → qB Zr S.room → K + Sm + (M + l.length * (Sm + 1)) + Sm + R9 ≤ Z → Sm + (M + l.length * (Sm + 1)) + Sm + 1 + R9 ≤ Zr →
    (bP rate l m mg S).got.B (C + wN l * (Z + 1)) ∧ (bP rate l m mg S).slo.B (C + wN l * (Z + 1)) ∧ qB Zr (bP rate l m mg S).room ∧ (bP rate l m mg S).got.cl.length = S.got.cl.length ∧ (bP rate l m mg S).slo.cl.length = S.slo.cl.length
  | [], m, mg, S, C, M, _, _, h, k, hro, _, _ => by
    simp only [bP, wN, Nat.zero_mul, Nat.add_zero]
    exact ⟨h, k, hro, trivial, trivial⟩
  | t :: l, m, mg, S, C, M, hl, hm, h, k, hro, hZ, hZr => by
    have hsz := hl.2 t (by simp)
    have hll : wOK K Sm l := ⟨by have := hl.1; simp only [List.length_cons] at this; omega, fun x hx => hl.2 x (by simp [hx])⟩
    simp only [List.length_cons] at hZ hZr
    have hmul : (l.length + 1) * (Sm + 1) = l.length * (Sm + 1) + (Sm + 1) := Nat.succ_mul _ _
    have hwn : wN (t :: l) = t.length + wN l := rfl
    have hmw : (t.length + wN l) * (Z + 1) = t.length * (Z + 1) + wN l * (Z + 1) := Nat.add_mul _ _ _
    rw [bP]
    by_cases h0 : av t = 0
    · rw [if_pos h0]
      obtain ⟨i1, i2, i3, i4, i5⟩ := ol (Z := Z) (Zr := Zr) hr l m mg S C M hll hm h k hro (by omega) (by omega)
      exact ⟨i1.mono (by rw [hwn]; omega), i2.mono (by rw [hwn]; omega), i3, i4, i5⟩
    rw [if_neg h0]
    have htk := DP hm hsz.2.1
    have hnm := DO hm hsz.2.1
    obtain ⟨j1, j2, j3, j4, j5⟩ := wE (K := K) (Z := Z) hsz.2.1 htk hr (by omega) (by omega) (decide (mg = true ∧ m < av t)) t S C hsz.2.2 h k
    have hgp : qB Zr ((av t - bC m (av t)) / rate) := ((hsz.2.1.sub htk).div hr).mono (by omega)
    have key : ∀ (mg' : Bool) (S' : RS), S'.got.B (C + t.length * (Z + 1)) → S'.slo.B (C + t.length * (Z + 1)) → qB Zr S'.room → S'.got.cl.length = S.got.cl.length → S'.slo.cl.length = S.slo.cl.length →
        (bP rate l (m - bC m (av t)) mg' S').got.B (C + wN (t :: l) * (Z + 1)) ∧ (bP rate l (m - bC m (av t)) mg' S').slo.B (C + wN (t :: l) * (Z + 1)) ∧ qB Zr (bP rate l (m - bC m (av t)) mg' S').room ∧ (bP rate l (m - bC m (av t)) mg' S').got.cl.length = S.got.cl.length ∧ (bP rate l (m - bC m (av t)) mg' S').slo.cl.length = S.slo.cl.length := fun mg' S' a b c d e => by
      obtain ⟨i1, i2, i3, i4, i5⟩ := ol (Z := Z) (Zr := Zr) hr l _ mg' S' _ (M + (Sm + 1)) hll hnm a b c (by omega) (by omega)
      exact ⟨i1.mono (by rw [hwn]; omega), i2.mono (by rw [hwn]; omega), i3, i4.trans d, i5.trans e⟩
    have hro2 : qB Zr (dV (av t) (bC m (av t)) rate (decide (mg = true ∧ m < av t)) t S).room := by rw [j3]; exact hro
    apply key
    · split
      · rw [fW]; exact j1
      exact j1
    · split
      · rw [fX]; exact j2
      exact j2
    · split
      · exact nh hro2 hgp
      exact hro2
    · split
      · rw [fW]; exact j4
      exact j4
    split
    · rw [fX]; exact j5
    exact j5
noncomputable def cBl (b:Bool):List C:=[.lit (.bool b)]
theorem om (b:Bool):(cBl b).length=1:=rfl
theorem jN (n:Nat) (S:RS):al (cRS n S)=true:=by simp [cRS,al,ax,ab ap]
theorem IG {e:GEst} {m:Rat} {K Km Sm M Z Zg P K2 S2 Z2 Zr:Nat} (hB:rdB e K Km Sm M Z Zg P K2 S2 Z2 Zr) (hr:qB Zr (rG e m).room):(rS0 e m).got.cl.length=e.claims.length/\(rS0 e m).slo.cl.length=e.claims.length/\(rS0 e m).got.B 1/\(rS0 e m).slo.B 1/\qB Zr (rS0 e m).room:=by
 have hz:qB Zr (RS.z e.claims.length).room:=bW.mono (by have:=hr.pos;omega);unfold rS0;split
 ·rw [fW,fX];exact ⟨by simp [RS.z],by simp [RS.z],fm _,fm _,nh hz hr⟩
 exact ⟨by simp [RS.z],by simp [RS.z],fm _,fm _,hz⟩
theorem DQ (n:Nat):dq n [C.lit (.bool false)]=aA cBl (List.replicate n false):=by
 induction n with
 |zero=>rfl
 |succ n ih=>rw [List.replicate_succ,cf,←ih,j9];rfl
def IH:=And.intro zS (And.intro AW (And.intro pt (And.intro Gc (And.intro tv (And.intro mN (And.intro ll (And.intro Gd (And.intro pq (And.intro tw (And.intro EB (And.intro EC (And.intro Gq (And.intro Gr (And.intro tz (And.intro pr (And.intro nX (And.intro vi (And.intro ic (And.intro cD (And.intro tu (And.intro gH (And.intro dN (Hs)))))))))))))))))))))))
theorem bO:type_of%IH:=IH
theorem G4 (e:GEst) (m:Rat) (K Km Sm M Z Zg P K2 S2 Z2 Zr:Nat) (hB:rdB e K Km Sm M Z Zg P K2 S2 Z2 Zr) (hM:qB M m):aR prog 149 [.agg (aJ e),.agg (ai (enc m))] (.val (.one (.sp (cRS e.claims.length (eL e m))))):=by
 have hz:=hB.z;have hn9:=hB.n;have han:=hB.an;have hzgb:=hB.zgb;have hpb:=hB.pb;have hpp:=hB.p;have hbb:=hB.b;have hzg:=hB.zg;have hzr2:=hB.zr2;have hGB:=ol (Z:=Z) (Zr:=Zr) ti (aC e.claims) m true (RS.z e.claims.length) 1 M hB.rk hM (fm _) (fm _) (bW.mono (by omega)) (by omega) (by omega);obtain ⟨G,hGd⟩:∃G,rG e m=G:=⟨_,rfl⟩;rw [show bP 1 (aC e.claims) m true (RS.z e.claims.length)=G from hGd] at hGB;obtain ⟨hGg0,hGs0,hGr,hGl,hGk⟩:=hGB;have hGg:=hGg0.mono hzg;have hGs:=hGs0.mono hzg;rw [show (RS.z e.claims.length).got.cl.length=e.claims.length by simp [RS.z]] at hGl;rw [show (RS.z e.claims.length).slo.cl.length=e.claims.length by simp [RS.z]] at hGk;have hS0:=IG hB (hGd▸hGr);refine aP func149 rfl (by decide) (N:=119) rfl (by simp) (R:=[.tmp 4]) rfl fun en k0=>?_
 refine awN ?_;simp only [bO,seval,ai,aJ];have hG:=wD e m K Sm M Z hB.n hB.am hB.kb hB.rk hB.rin hM hB.z (by have:=hB.zg;have:=hB.zgb;omega) (by have:=hB.zb;omega);rw [show bP 1 (aC e.claims) m true (RS.z e.claims.length)=G from hGd] at hG;simp only [ai] at hG;refine awN ?_;simp only [bO,seval,ab ao,ab au];refine ⟨_,hG,(by first|rfl|simp [al,ax,jN]),?_⟩;try simp only [ak,bO,seval]
 refine awR [19] [0,0,0,0,0] ?_;simp only [bO,seval];refine ⟨_,wC _ _ e.claims.length (by have:=hB.n;omega) (fun y B h=>?_),?_⟩
 ·by_cases hy:y<42
  ·exact hy
  exfalso;simp only [aB] at h;repeat rw [if_neg (by omega)] at h
  cases h
 rintro res H' nx' ⟨s,sg,sk,rfl,rfl⟩;simp only [bO,seval];refine qd (M:=fun st=>∃S0 nx,(S0=rS0 e m)/\st=⟨mkT [(2,.val (.one (.ptr 2 0 0))),(5,.val (.one (.sp (cRS e.claims.length G)))),(6,.val (.one (.ptr 50 s 0)))],mkH [(2,⟨0,36,5,1,aJ e⟩),(50,⟨s,214,12,1,[.own 46 sg e.claims.length 3,.own 48 sk e.claims.length 3,.lit (.bool (enc S0.got.rv).neg),.lit (.string (enc S0.got.rv).num),.lit (.string (enc S0.got.rv).den),.lit (.bool (enc S0.slo.rv).neg),.lit (.string (enc S0.slo.rv).num),.lit (.string (enc S0.slo.rv).den),.lit (.bool (enc S0.room).neg),.lit (.string (enc S0.room).num),.lit (.string (enc S0.room).den),.lit (.bool S0.bnd)]⟩),(48,⟨sk,32,3,e.claims.length,aA cQ S0.slo.cl⟩),(46,⟨sg,32,3,e.claims.length,aA cQ S0.got.cl⟩)],nx,0⟩) ?_ ?_
 ·by_cases hgb:G.bnd=true
  ·refine awN ?_;simp only [bO,seval,hgb,cRS];refine awT ?_;refine awR [29] [0,0,0,0,0,0] ?_;simp only [bO,seval];refine ⟨_,Aa _ _ s sg sk e.claims.length (RS.z e.claims.length) G.room (by rfl) (by rfl) (by rfl) (fun y B h=>?_) (bW.mono (by omega)) (hGr.mono (by have:=hB.zrb;omega)),?_⟩
   ·by_cases hy:y<9000
    ·exact hy
    exfalso;simp only [aB] at h;repeat rw [if_neg (by omega)] at h
    cases h
   rintro res H' nx' ⟨rfl,hW⟩;simp only [bO,seval];intro zc zQ hM;refine cg hW ?_;simp only [bO,seval];refine cm (aI [2,5,6] [2,50,48,46]) (hM _ ⟨((RS.z e.claims.length).kink G.room),?_,(by unfold rS0;rw [hGd,if_pos hgb]),?cs5⟩);case cs5=>(simp only [bO,seval,aJ];rfl)
  refine awN ?_;simp only [bO,seval,hgb,cRS];refine awF ?_;refine awK ?_;simp only [bO,seval];intro zc zQ hM;refine cm (aI [2,5,6] [2,50,48,46]) (hM _ ⟨(RS.z e.claims.length),?_,(by unfold rS0;rw [hGd,if_neg hgb]),?cs7⟩);case cs7=>(simp only [bO,seval,aJ];rfl)
 rintro st ⟨S0,s7,hS0d,rfl⟩;rw [←hS0d] at hS0;obtain ⟨hV0a,hV0b,hV0c0,hV0d0,hV0e⟩:=hS0;have hV0c:S0.got.B (1+0*(Z2+1)):=hV0c0.mono (by omega);have hV0d:S0.slo.B (1+0*(Z2+1)):=hV0d0.mono (by omega);refine awN ?_;simp only [bO,seval,aJ,DQ];repeat refine ob ?_
 refine awN ?_;simp only [bO,seval];refine aQ [2,5,6,7,8] [2,50,48,46,33] ?_;try simp only [ak,bO,seval]
 repeat' first|apply awS|apply awB
 refine aM (fun n st=>∃i0 fl S w nx,i0<=e.agrs.length/\n=e.agrs.length-i0/\jM e.claims G (e.agrs.drop i0) fl S=jM e.claims G e.agrs (List.replicate e.claims.length false) S0/\fl.length=e.claims.length/\S.got.cl.length=e.claims.length/\S.slo.cl.length=e.claims.length/\S.got.B (1+w*(Z2+1))/\S.slo.B (1+w*(Z2+1))/\qB Zr S.room/\w+aN e.claims (e.agrs.drop i0)=aN e.claims e.agrs/\st=⟨mkT [(2,.val (.one (.ptr 2 0 0))),(5,.val (.one (.sp (cRS e.claims.length G)))),(6,.val (.one (.ptr 50 s 0))),(7,.val (.one (.own 33 s7 e.claims.length 1))),(8,one (.int .i64 i0))],mkH [(2,⟨0,36,5,1,aJ e⟩),(50,⟨s,214,12,1,[.own 46 sg e.claims.length 3,.own 48 sk e.claims.length 3,.lit (.bool (enc S.got.rv).neg),.lit (.string (enc S.got.rv).num),.lit (.string (enc S.got.rv).den),.lit (.bool (enc S.slo.rv).neg),.lit (.string (enc S.slo.rv).num),.lit (.string (enc S.slo.rv).den),.lit (.bool (enc S.room).neg),.lit (.string (enc S.room).num),.lit (.string (enc S.room).den),.lit (.bool S.bnd)]⟩),(48,⟨sk,32,3,e.claims.length,aA cQ S.slo.cl⟩),(46,⟨sg,32,3,e.claims.length,aA cQ S.got.cl⟩),(33,⟨s7,4,1,e.claims.length,aA cBl fl⟩)],nx,0⟩) (e.agrs.length) ⟨0,(List.replicate e.claims.length false),S0,0,_,by omega,by omega,by rfl,(by first|omega|assumption|rfl|simp|(simp;omega)),(by first|omega|assumption|rfl|simp|(simp;omega)),(by first|omega|assumption|rfl|simp|(simp;omega)),(by first|omega|assumption|rfl|simp|(simp;omega)),(by first|omega|assumption|rfl|simp|(simp;omega)),(by first|omega|assumption|rfl|simp|(simp;omega)),(by first|omega|assumption|rfl|simp|(simp;omega)),rfl⟩ ?_;rintro n0 st ⟨i0,fl,S,w,nx0,hk0,rfl,hL0,hV0_1,hV0_2,hV0_3,hV0_4,hV0_5,hV0_6,hV0_7,rfl⟩;by_cases hlt0:i0<e.agrs.length
 ·have hI0:(i0:Int)<(e.agrs.length:Int):=by omega
  have hat0:=aO gI e.agrs i0 hlt0;try rw [Nat.mul_one] at hat0
  rw [List.drop_eq_getElem_cons hlt0] at hL0;have hla:=hB.la _ (List.getElem_mem hlt0);have hpl:=hB.pl _ (List.getElem_mem hlt0);have hz2:=hB.z2 _ (List.getElem_mem hlt0);have hzr:=hB.zr _ (List.getElem_mem hlt0);have hfl:=hV0_1;have hSg:=hV0_2;have hSs:=hV0_3;have hSB:=hV0_4;have hSC:=hV0_5;have hSr:=hV0_6;have hw0:=hV0_7;rw [List.drop_eq_getElem_cons hlt0] at hw0;simp only [aN] at hw0;have hmw:(w+wN (aV e.claims (e.agrs[i0])).2)*(Z2+1)=w*(Z2+1)+wN (aV e.claims (e.agrs[i0])).2*(Z2+1):=Nat.add_mul _ _ _;have hm1:(w+wN (aV e.claims (e.agrs[i0])).2)*(Z2+1)<=aN e.claims e.agrs*(Z2+1):=Nat.mul_le_mul_right _ (by omega);generalize e.agrs[i0]=a at *
  simp only [jM] at hL0;refine awN ?_;simp only [bO,seval,hI0,aJ];refine awT ?_;refine awK ?_;simp only [bO,seval];refine awN ?_;simp only [bO,seval];refine awN ?_;simp only [bO,seval];refine awN ?_;simp only [bO,seval];refine cm (dz 9 (ai (enc 0)) (by rfl) (by show (3:Nat)≠0;decide) (by rfl) (fun κ vs h=>by rw [bf];exact h)) ?_;refine cm (dz 10 (ai (enc 0)) (by rfl) (by show (3:Nat)≠0;decide) (by rfl) (fun κ vs h=>by rw [bf];exact h)) ?_;simp only [bO,seval];have hV1a:qB (1+0*(Zg+1)) 0:=bW.mono (by omega);refine aQ [2,5,6,7,8,9,10,11] [2,50,48,46,33,9,10] ?_;try simp only [ak,bO,seval,ai]
  repeat' first|apply awS|apply awB
  refine aM (fun n st=>∃i1 fl2 p r s9 s10 nx,i1<=e.claims.length/\n=e.claims.length-i1/\rIn a G.got.cl G.slo.cl (e.claims.drop i1) i1 fl2 p r=rIn a G.got.cl G.slo.cl e.claims 0 fl 0 0/\fl2.length=e.claims.length/\qB (1+i1*(Zg+1)) p/\qB (1+i1*(Zg+1)) r/\st=⟨mkT [(2,.val (.one (.ptr 2 0 0))),(5,.val (.one (.sp (cRS e.claims.length G)))),(6,.val (.one (.ptr 50 s 0))),(7,.val (.one (.own 33 s7 e.claims.length 1))),(8,one (.int .i64 i0)),(9,.val (.one (.ptr 9 s9 0))),(10,.val (.one (.ptr 10 s10 0))),(11,one (.int .i64 i1))],mkH [(2,⟨0,36,5,1,aJ e⟩),(50,⟨s,214,12,1,[.own 46 sg e.claims.length 3,.own 48 sk e.claims.length 3,.lit (.bool (enc S.got.rv).neg),.lit (.string (enc S.got.rv).num),.lit (.string (enc S.got.rv).den),.lit (.bool (enc S.slo.rv).neg),.lit (.string (enc S.slo.rv).num),.lit (.string (enc S.slo.rv).den),.lit (.bool (enc S.room).neg),.lit (.string (enc S.room).num),.lit (.string (enc S.room).den),.lit (.bool S.bnd)]⟩),(48,⟨sk,32,3,e.claims.length,aA cQ S.slo.cl⟩),(46,⟨sg,32,3,e.claims.length,aA cQ S.got.cl⟩),(33,⟨s7,4,1,e.claims.length,aA cBl fl2⟩),(9,⟨s9,32,3,1,ai (enc p)⟩),(10,⟨s10,32,3,1,ai (enc r)⟩)],nx,0⟩) (e.claims.length) ⟨0,fl,0,0,_,_,_,by omega,by omega,by rfl,(by first|omega|assumption|rfl|simp|(simp;omega)),(by first|omega|assumption|rfl|simp|(simp;omega)),(by first|omega|assumption|rfl|simp|(simp;omega)),rfl⟩ ?_;rintro n1 st ⟨i1,fl2,p,r,s9,s10,nx1,hk1,rfl,hL1,hV1_1,hV1_2,hV1_3,rfl⟩;by_cases hlt1:i1<e.claims.length
  ·have hI1:(i1:Int)<(e.claims.length:Int):=by omega
   have hat1:=aO cK e.claims i1 hlt1;try rw [Nat.mul_one] at hat1
   rw [List.drop_eq_getElem_cons hlt1] at hL1;have hpB:=hV1_2;have hrB:=hV1_3;have hkg:i1<G.got.cl.length:=by omega
   have hks:i1<G.slo.cl.length:=by omega
   have hgB:=hGg.1 _ (List.getElem_mem hkg);have hsB:=hGs.1 _ (List.getElem_mem hks);have hgg:G.got.cl.getD i1 0=G.got.cl[i1]:=by rw [List.getD_eq_getElem?_getD,List.getElem?_eq_getElem hkg];rfl
   have hgs:G.slo.cl.getD i1 0=G.slo.cl[i1]:=by rw [List.getD_eq_getElem?_getD,List.getElem?_eq_getElem hks];rfl
   have hatg:=aO bH G.got.cl i1 hkg;have hats:=aO bH G.slo.cl i1 hks;simp only [cQ,ai] at hatg hats;have hi1:(i1+1)*(Zg+1)=i1*(Zg+1)+(Zg+1):=Nat.succ_mul _ _;have hi2:(i1+1)*(Zg+1)<=e.claims.length*(Zg+1):=Nat.mul_le_mul_right _ hlt1;have hpn:=(hpB.add hgB).mono (n:=1+(i1+1)*(Zg+1)) (by omega);have hrn:=(hrB.add hsB).mono (n:=1+(i1+1)*(Zg+1)) (by omega);have hp0:qB (1+(i1+1)*(Zg+1)) p:=hpB.mono (by omega);have hr0:qB (1+(i1+1)*(Zg+1)) r:=hrB.mono (by omega);generalize e.claims[i1]=c at *
   simp only [rIn] at hL1;refine awN ?_;simp only [bO,seval,ai,hI1,aJ];refine awT ?_;refine awK ?_;simp only [bO,seval];by_cases hmb:mbA (i1:Int) a=true
   ·have hMb:=jA a (i1:Int) (by have:=hla.tn;omega) (fun t ht=>by have:=(hla.pn t ht).1;omega);refine awN ?_;simp only [bO,seval,hI0,hat0,bu,ab bF];repeat refine ob ?_
    refine ⟨_,hMb,(by first|rfl|simp [aU,aD,al,ax,A1.cells,ab bh,jN]),?_⟩;try simp only [ak,bO,seval,hmb]
    refine awT ?_;have hset:=dP om fl2 i1 true (by omega);have hflb:=bo om fl2;simp only [cBl,Nat.mul_one] at hset;refine awN ?_;simp only [bO,seval,hI1,hset,hflb];repeat refine ob ?_
    have hP1:=l7 p G.got.cl[i1] _ Zg hpB hgB (by omega) (by omega);simp only [ai] at hP1;refine awD (scT 0 8 (scq [16,18] .nil)) [0,0,0,0,0,0,0,0,0,0] ?_;simp only [bO,seval,hI1,cRS,hatg];repeat refine ob ?_
    refine ⟨_,hP1,(by first|rfl|simp [aU,aD,al,ax,A1.cells,ab bh,jN]),?_⟩;try simp only [ak,bO,seval]
    have hP2:=l7 r G.slo.cl[i1] _ Zg hrB hsB (by omega) (by omega);simp only [ai] at hP2;refine awD (scT 0 8 (scq [16,18] .nil)) [0,0,0,0,0,0,0,0,0,0] ?_;simp only [bO,seval,hI1,hats];repeat refine ob ?_
    refine ⟨_,hP2,(by first|rfl|simp [aU,aD,al,ax,A1.cells,ab bh,jN]),?_⟩;try simp only [ak,bO,seval]
    refine awN ?_;simp only [bO,seval];repeat refine ob ?_
    refine ⟨_,aI [2,5,6,7,8,9,10,11] [2,50,48,46,33,9,10],e.claims.length-(i1+1),by omega,i1+1,(fl2.set i1 true),(p+G.got.cl[i1]),(r+G.slo.cl[i1]),?a20_s9,?a20_s10,?a20_nx,by omega,rfl,?i20_0,?i20_1,?i20_2,?i20_3,?st20⟩;case st20=>(simp only [bO,seval];first|rfl|(simp [aJ,bu,hI0,hat0,hI1,hat1,hmb,Nat.add_mul];done))
    case i20_0=>(have h:=hL1;rw [if_pos hmb,hgg,hgs] at h;exact h)
    all_goals (first|omega|assumption|(simp;omega)|(simp_all;done))
   have hMb:=jA a (i1:Int) (by have:=hla.tn;omega) (fun t ht=>by have:=(hla.pn t ht).1;omega);refine awN ?_;simp only [bO,seval,hI0,hat0,bu,ab bF];repeat refine ob ?_
   refine ⟨_,hMb,(by first|rfl|simp [aU,aD,al,ax,A1.cells,ab bh,jN]),?_⟩;try simp only [ak,bO,seval,hmb]
   refine awF ?_;refine awK ?_;simp only [bO,seval];refine awN ?_;simp only [bO,seval];repeat refine ob ?_
   refine ⟨_,aI [2,5,6,7,8,9,10,11] [2,50,48,46,33,9,10],e.claims.length-(i1+1),by omega,i1+1,?a23_fl2,?a23_p,?a23_r,?a23_s9,?a23_s10,?a23_nx,by omega,rfl,?i23_0,?i23_1,?i23_2,?i23_3,?st23⟩;case st23=>(simp only [bO,seval];first|rfl|(simp [aJ,bu,hI0,hat0,hI1,hat1,hmb,Nat.add_mul];done))
   case i23_0=>(have h:=hL1;rw [if_neg hmb] at h;exact h)
   all_goals (first|omega|assumption|(simp;omega)|(simp_all;done))
  obtain rfl:i1=e.claims.length:=by omega
  have hI1:¬(e.claims.length:Int)<(e.claims.length:Int):=by omega
  rw [List.drop_length] at hL1;simp only [rIn] at hL1;have hpP:qB P p:=hV1_2.mono (by have:=hB.p;omega);have hrP:qB P r:=hV1_3.mono (by have:=hB.p;omega);refine awN ?_;simp only [bO,seval,ai,hI1,aJ];refine awF ?_;refine awQ ?_;simp only [bO,seval];have hTi:=DM e a K Km hla;repeat' first|apply awS|apply awB
  refine cb [88] (by kernel_rfl) (.cons 0 true (.cons 1 true (.cons 2 true (.cons 3 true (.cons 4 true (.cons 5 true (.cons 6 true (.cons 8 true (.cons 9 true (.cons 7 false (.cons 10 false .nil))))))))))) (by kernel_rfl) (gs:=[none,none,none,none,none,none,none,none,none,none,none]) (by kernel_rfl) (by simp only [zT,seval];rfl) (by decide) ?_;simp only [bO,seval,hI0,hat0,bu,ab ao,ab au,ab bF,(id SD)];repeat refine ob ?_
  refine ⟨_,hTi,(by first|rfl|simp [al,ax,ab bh]),?_⟩;try simp only [ak,bO,seval,ai,hI0,hat0,hI1,aJ,bu,ab ao,ab au,ab bF,ab bh]
  repeat refine ob ?_
  refine ⟨_,Ab _ _ s sg sk e.claims.length S (aV e.claims a).2 p r K2 S2 P P (1+w*(Z2+1)) Z2 Zr (by rfl) (by rfl) (by rfl) hSg hSs (fun y B h=>?_) (by omega) hpl.1 hpl.2 hpP hrP hSB hSC hSr hB.k2 hz2 hzr (by omega) hB.z2b hB.zrb,?_⟩
  ·by_cases hy:y<7000
   ·exact hy
   exfalso;simp only [aB] at h;repeat rw [if_neg (by omega)] at h
   cases h
  rintro res H' nx' ⟨rfl,hW⟩;simp only [bO,seval,(id SD)];refine cg hW ?_;simp only [bO,seval];obtain ⟨hQ1,hQ2,hQ3,hQ4,hQ5⟩:=ol (Z:=Z2) (Zr:=Zr) hrP (aV e.claims a).2 p true S (1+w*(Z2+1)) P hpl.1 hpP hSB hSC hSr hz2 hzr;have hQ6:(bP r (aV e.claims a).2 p true S).got.B (1+(w+wN (aV e.claims a).2)*(Z2+1)):=hQ1.mono (by omega);have hQ7:(bP r (aV e.claims a).2 p true S).slo.B (1+(w+wN (aV e.claims a).2)*(Z2+1)):=hQ2.mono (by omega);rw [hSg] at hQ4;rw [hSs] at hQ5;refine awN ?_;simp only [bO,seval];repeat refine ob ?_
  refine ⟨_,aI [2,5,6,7,8] [2,50,48,46,33],e.agrs.length-(i0+1),by omega,i0+1,(fl2),(bP r (aV e.claims a).2 p true S),(w+wN (aV e.claims a).2),?a27_nx,by omega,rfl,?i27_0,?i27_1,?i27_2,?i27_3,?i27_4,?i27_5,?i27_6,?i27_7,?st27⟩;case st27=>(simp only [bO,seval];first|rfl|(simp [aJ,hI0,hat0,hI1,Nat.add_mul];done))
  case i27_0=>(rw [←hL1] at hL0;exact hL0)
  all_goals (first|omega|assumption|(simp;omega)|(simp_all;done))
 obtain rfl:i0=e.agrs.length:=by omega
 have hI0:¬(e.agrs.length:Int)<(e.agrs.length:Int):=by omega
 rw [List.drop_length] at hL0;simp only [jM] at hL0;refine awN ?_;simp only [bO,seval,hI0,aJ];refine awF ?_;refine awQ ?_;simp only [bO,seval];refine awN ?_;simp only [bO,seval];have hwe:w=aN e.claims e.agrs:=by have h:=hV0_7;rw [List.drop_length] at h;simpa [aN] using h
 have hSBe:S.got.B (1+aN e.claims e.agrs*(Z2+1)):=by rw [←hwe];exact hV0_4
 have hSCe:S.slo.B (1+aN e.claims e.agrs*(Z2+1)):=by rw [←hwe];exact hV0_5
 have hSBf:S.got.B (1+aN e.claims e.agrs*(Z2+1)+0*(Zg+1)):=hSBe.mono (by omega);have hSCf:S.slo.B (1+aN e.claims e.agrs*(Z2+1)+0*(Zg+1)):=hSCe.mono (by omega);refine aQ [2,5,6,7,12] [2,50,48,46,33] ?_;try simp only [ak,bO,seval]
 repeat' first|apply awS|apply awB
 refine aM (fun n st=>∃i2 S2 nx,i2<=e.claims.length/\n=e.claims.length-i2/\f8 G fl (e.claims.drop i2) i2 S2=f8 G fl e.claims 0 S/\S2.got.cl.length=e.claims.length/\S2.slo.cl.length=e.claims.length/\S2.got.B (1+aN e.claims e.agrs*(Z2+1)+i2*(Zg+1))/\S2.slo.B (1+aN e.claims e.agrs*(Z2+1)+i2*(Zg+1))/\qB Zr S2.room/\st=⟨mkT [(2,.val (.one (.ptr 2 0 0))),(5,.val (.one (.sp (cRS e.claims.length G)))),(6,.val (.one (.ptr 50 s 0))),(7,.val (.one (.own 33 s7 e.claims.length 1))),(12,one (.int .i64 i2))],mkH [(2,⟨0,36,5,1,aJ e⟩),(50,⟨s,214,12,1,[.own 46 sg e.claims.length 3,.own 48 sk e.claims.length 3,.lit (.bool (enc S2.got.rv).neg),.lit (.string (enc S2.got.rv).num),.lit (.string (enc S2.got.rv).den),.lit (.bool (enc S2.slo.rv).neg),.lit (.string (enc S2.slo.rv).num),.lit (.string (enc S2.slo.rv).den),.lit (.bool (enc S2.room).neg),.lit (.string (enc S2.room).num),.lit (.string (enc S2.room).den),.lit (.bool S2.bnd)]⟩),(48,⟨sk,32,3,e.claims.length,aA cQ S2.slo.cl⟩),(46,⟨sg,32,3,e.claims.length,aA cQ S2.got.cl⟩),(33,⟨s7,4,1,e.claims.length,aA cBl fl⟩)],nx,0⟩) (e.claims.length) ⟨0,S,_,by omega,by omega,by rfl,(by first|omega|assumption|rfl|simp|(simp;omega)),(by first|omega|assumption|rfl|simp|(simp;omega)),(by first|omega|assumption|rfl|simp|(simp;omega)),(by first|omega|assumption|rfl|simp|(simp;omega)),(by first|omega|assumption|rfl|simp|(simp;omega)),rfl⟩ ?_;rintro n2 st ⟨i2,S2,nx2,hk2,rfl,hL2,hV2_1,hV2_2,hV2_3,hV2_4,hV2_5,rfl⟩;by_cases hlt2:i2<e.claims.length
 ·have hI2:(i2:Int)<(e.claims.length:Int):=by omega
  have hat2:=aO cK e.claims i2 hlt2;try rw [Nat.mul_one] at hat2
  rw [List.drop_eq_getElem_cons hlt2] at hL2;have hfl2:i2<fl.length:=by omega
  have hSg2:=hV2_1;have hSs2:=hV2_2;have hSB2:=hV2_3;have hSC2:=hV2_4;have hkg:i2<G.got.cl.length:=by omega
  have hks:i2<G.slo.cl.length:=by omega
  have hgB2:=hGg.1 _ (List.getElem_mem hkg);have hsB2:=hGs.1 _ (List.getElem_mem hks);have hatg:=aO bH G.got.cl i2 hkg;have hats:=aO bH G.slo.cl i2 hks;simp only [cQ,ai] at hatg hats;have hj2:(i2+1)*(Zg+1)=i2*(Zg+1)+(Zg+1):=Nat.succ_mul _ _;have hj3:(i2+1)*(Zg+1)<=e.claims.length*(Zg+1):=Nat.mul_le_mul_right _ hlt2;have hSB9:S2.got.B (1+aN e.claims e.agrs*(Z2+1)+(i2+1)*(Zg+1)):=hSB2.mono (by omega);have hSC9:S2.slo.B (1+aN e.claims e.agrs*(Z2+1)+(i2+1)*(Zg+1)):=hSC2.mono (by omega);have hSBn:(S2.put (i2:Int) G.got.cl[i2] G.slo.cl[i2]).got.B (1+aN e.claims e.agrs*(Z2+1)+(i2+1)*(Zg+1)):=(eE hSB2 _ hgB2).mono (by omega);have hSCn:(S2.put (i2:Int) G.got.cl[i2] G.slo.cl[i2]).slo.B (1+aN e.claims e.agrs*(Z2+1)+(i2+1)*(Zg+1)):=(eE hSC2 _ hsB2).mono (by omega);have hln1:(S2.put (i2:Int) G.got.cl[i2] G.slo.cl[i2]).got.cl.length=e.claims.length:=(bU _ _ _).trans hSg2;have hln2:(S2.put (i2:Int) G.got.cl[i2] G.slo.cl[i2]).slo.cl.length=e.claims.length:=(bU _ _ _).trans hSs2;have hatf:=aO om fl i2 hfl2;rw [Nat.mul_one] at hatf;have hflb2:(aA cBl fl).length=e.claims.length:=by rw [bo om fl];omega
  have hget:(aA cBl fl)[i2]? =some (.lit (.bool fl[i2])):=by have h:=congrArg (fun l=>l[0]?) hatf;simpa [cBl] using h
  generalize e.claims[i2]=c at *
  simp only [f8] at hL2;refine awN ?_;simp only [bO,seval,hI2,aJ];refine awT ?_;refine awK ?_;simp only [bO,seval];by_cases hfp:fl[i2]=true
  ·refine awN ?_;simp only [bO,seval,hI2,hfp,hflb2,hget];repeat refine ob ?_
   refine awF ?_;refine awK ?_;simp only [bO,seval];refine awN ?_;simp only [bO,seval];repeat refine ob ?_
   refine ⟨_,aI [2,5,6,7,12] [2,50,48,46,33],e.claims.length-(i2+1),by omega,i2+1,?a33_S2,?a33_nx,by omega,rfl,?i33_0,?i33_1,?i33_2,?i33_3,?i33_4,?i33_5,?st33⟩;case st33=>(simp only [bO,seval];first|rfl|(simp [aJ,hI0,hI2,hat2,hfp,Nat.add_mul];done))
   case i33_0=>(first|exact hL2|(rw [←hL2];simp only [reduceIte,hI0,hI2,hat2,hfp];done)|(rw [←hL2];simp [hI0];done)|(simp [hI0] at hL2;simpa using hL2)|(rw [←hL2];simp [*];done))
   all_goals (first|omega|assumption|(simp;omega)|(simp_all;done))
  refine awN ?_;simp only [bO,seval,hI2,hfp,hflb2,hget];repeat refine ob ?_
  refine awT ?_;repeat' first|apply awS|apply awB
  refine cb [117] (by kernel_rfl) (.cons 0 true (.cons 1 true (.cons 2 true (.cons 3 true (.cons 4 true (.cons 5 true (.cons 6 true (.cons 7 true (.cons 8 true (.cons 9 true (.cons 10 true (.cons 11 true (.cons 12 true (.cons 13 true (.cons 14 true (.cons 15 true (.cons 16 false .nil))))))))))))))))) (by kernel_rfl) (gs:=[none,none,none,none,none,none,none,none,none,none,none,none,none,none,none,none,none]) (by kernel_rfl) (by simp only [zT,seval];rfl) (by decide) ?_;simp only [bO,seval,hI2,cRS,hatg,hats,(id SD)];repeat refine ob ?_
  refine ⟨_,qx _ _ s sg sk e.claims.length S2 (i2:Int) G.got.cl[i2] G.slo.cl[i2] (by rfl) (by rfl) (by rfl) hSg2 hSs2 (fun y B h=>?_) (by omega) (.inr ⟨by omega,by omega⟩) (hSB2.mono (by omega)) (hSC2.mono (by omega)) (hgB2.mono (by omega)) (hsB2.mono (by omega)),?_⟩
  ·by_cases hy:y<9000
   ·exact hy
   exfalso;simp only [aB] at h;repeat rw [if_neg (by omega)] at h
   cases h
  rintro res H' nx' ⟨rfl,hW⟩;try simp only [bO,seval]
  refine cg hW ?_;simp only [bO,seval];refine awN ?_;simp only [bO,seval];repeat refine ob ?_
  refine ⟨_,aI [2,5,6,7,12] [2,50,48,46,33],e.claims.length-(i2+1),by omega,i2+1,(S2.put (i2:Int) G.got.cl[i2] G.slo.cl[i2]),?a37_nx,by omega,rfl,?i37_0,?i37_1,?i37_2,?i37_3,?i37_4,?i37_5,?st37⟩;case st37=>(simp only [bO,seval];first|rfl|(simp [aJ,hI0,hI2,hat2,hfp,Nat.add_mul];done))
  case i37_0=>(first|exact hL2|(rw [←hL2];simp only [reduceIte,hI0,hI2,hat2,hfp];done)|(rw [←hL2];simp [hI0];done)|(simp [hI0] at hL2;simpa using hL2)|(rw [←hL2];simp [*];done))
  all_goals (first|omega|assumption|(simp;omega)|(simp_all;done))
 obtain rfl:i2=e.claims.length:=by omega
 have hI2:¬(e.claims.length:Int)<(e.claims.length:Int):=by omega
 rw [List.drop_length] at hL2;simp only [f8] at hL2;refine awN ?_;simp only [bO,seval,hI2,aJ];refine awF ?_;refine awQ ?_;simp only [bO,seval];refine dp 46 50 0 (by rfl) (by rfl) (by rfl) (by decide) (by show (3:Nat)≠0;decide) (by show (12:Nat)≠0;decide) rfl ?_;simp only [bO,seval];refine dp 48 50 1 (by rfl) (by rfl) (by rfl) (by decide) (by show (3:Nat)≠0;decide) (by show (12:Nat)≠0;decide) rfl ?_;simp only [bO,seval];refine vY (t:=6) (by rfl) (by rfl) (by show (12:Nat)≠0;decide) (by rfl) ?_;simp only [bO,seval];refine awN ?_;simp only [bO,seval];refine awX ?_;simp only [bO,seval];have hd:eL e m=S2:=by unfold eL rO;rw [hGd,←hS0d,←hL0];exact hL2.symm
 simp [cRS,hd,ab ap]
end Go.Proofs.YtokmkopihhnggaaGreatDoor
