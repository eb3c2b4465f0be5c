/- The waterfall: the slopes of what is delivered, the step to the next kink; walked by the abstract machine. -/
import Derived.Test.YtokmkopihhnggaaGreatDoorWl6M
set_option linter.unusedVariables false
set_option maxHeartbeats 4000000
set_option maxRecDepth 100000
set_option linter.unusedSimpArgs false
set_option linter.defProp false
set_option linter.unusedSectionVars false
namespace Go.Proofs.YtokmkopihhnggaaGreatDoor
open Go Go.RowKit Go.Proofs.Tryz
noncomputable def stR (L:WL) (m:Rat):AV:= .tup [.agg (ai (enc (if a8 L.ranks m then bx L m else 0))),.one (.lit (.bool (decide (a8 L.ranks m))))]
theorem Dz (p q:Rat) (hp:qB 50000000000 p) (hq:qB 50000000000 q):aR prog 36 [.agg (ai (enc p)),.agg (ai (enc q))] (.val (.agg (ai (enc (bC p q))))):=by
 have h:=Ij (enc p) (enc q) 50000000000 50000000000 (dT hp) (dT hq) (by decide) (by decide) (by decide) (by decide);rwa [ci,ci] at h
theorem mw (q:Rat) (h:qB 50000000000 q):aR prog 42 [.agg (ai (enc q))] (one (.int .i64 (cU q))):=by
 have hs:=dT h;have h:=yZ (enc q) (Nat.le_trans hs.1 (by decide)) (Nat.le_trans hs.2 (by decide));rwa [ci] at h
theorem kw (q:Rat):0<cU q↔0<q:=by unfold cU dM;grind
theorem ik {K S M:Nat} {l:List WT} (h:wOK K S l) {m:Rat} (hm:qB M m) (ho:a8 l m):qB (S+(M+l.length*(S+1))+1) (cu l m):=by
 have h1:=jE l m M (fun t ht=>(h.2 t ht).2.1) hm;have hgd:l.getD (aG l m).1 []=l[(aG l m).1]'ho:=by rw [List.getD_eq_getElem?_getD,List.getElem?_eq_getElem ho];rfl
 unfold cu;rw [hgd];exact (h.2 _ (List.getElem_mem ho)).2.1.sub h1
def F62:=And.intro zS (And.intro Ez (And.intro CJ (And.intro CL (And.intro Ex (And.intro AY (And.intro Gj (And.intro nX (And.intro CN (And.intro cD (And.intro CP (And.intro xG (And.intro CI (And.intro dN (A0))))))))))))))
theorem F63:type_of%F62:=F62
theorem x9 (L:WL) (m:Rat) (K Sm M Z G K2 S2 Z2:Nat) (hB:delB L K Sm M Z G K2 S2 Z2) (hM0:0<M) (hM:qB M m):aR prog 91 [.agg (bL L),.agg (ai (enc m))] (tT L.count (b9 L m)):=by
 have hGg:=hB.g;have hGz:=hB.gz;have hGb:=hB.gb;have hBb:G+qm L.pools*(Z2+1)<=50000000000:=hB.b;have hG0:0<G:=by omega
 have hLn:=hB.n;have hLp:=hB.pn;refine aP func91 rfl (by decide) (N:=46) rfl (by simp) (R:=[.tmp 4,.cell 5 32]) rfl fun en k0=>?_
 refine awN ?_;simp only [F63,seval,ai,bL];have hG:=mr L m K Sm M Z (by have:=hB.n;omega) hB.rk hB.rin hM hB.z (by omega) (by have:=hB.zb;omega);have hR:=zZ L m K Sm M Z (by have:=hB.n;omega) hB.rk hB.rin hM (by have:=hB.z;have:=hB.zb;omega) (by have:=hB.z;omega) (by omega) (by have:=hB.zb;omega);simp only [ai] at hG hR;refine awD (scq [1,3,7,9,4,10,13,15] .nil) [0,0,0,0,0,0,0,0] ?_;simp only [F63,seval,ab aw,ab ar];refine ⟨_,hG,(by first|rfl|simp [al,ax,ab ap]),?_⟩;try simp only [ak,F63,seval,ab aw,ab ar]
 refine ⟨_,hR,(by first|rfl|simp [al,ax,ab ap]),?_⟩;try simp only [ak,F63,seval]
 have hgl:=gK L m;have hgB:=mv hB hM;have hkl:=i9 L m;have hkB:=wj hB hM0 m;obtain ⟨g,hg⟩:∃g,aW L m=g:=⟨_,rfl⟩;obtain ⟨kk,hk⟩:∃g,ba L m=g:=⟨_,rfl⟩;rw [hg] at hgl hgB;rw [hk] at hkl hkB;rw [hg,hk];refine awR [19] [0,0,0,0] ?_;simp only [F63,seval];refine ⟨_,Ds L kk _ _ hkl (by have:=hB.n;omega) hB.pn (fun p hp=>⟨(hB.pl p hp).2.2.1,(hB.pl p hp).2.2.2⟩) (fun y B h=>?_),?_⟩
 ·by_cases hy:y<37
  ·exact hy
  exfalso;simp only [aB] at h;repeat rw [if_neg (by omega)] at h
  cases h
 rintro res H' nx' ⟨s,sc,rfl,rfl⟩;simp only [F63,seval];obtain ⟨nx9,hnx9⟩:∃n,nx'=n:=⟨_,rfl⟩;simp only [hnx9];refine awN ?_;simp only [F63,seval,ai];have hR0:(⟨cG L.pools kk,0⟩:WR).B (G+0*(Z2+1)):=⟨fun x hx=>(tS (by omega) L.pools kk hkB x hx).mono (by omega),bW.mono (by omega)⟩;have hR1:(⟨cG L.pools kk,0⟩:WR).cl.length=L.count:=by show (cG L.pools kk).length=_;rw [dR];exact hkl
 refine aQ [5,6,7,8,21,22,23] [50,48,5] ?_;try simp only [ak,F63,seval]
 repeat' first|apply awS|apply awB
 refine aM (fun n st=>∃i0 R w nx,i0<=L.pools.length/\n=L.pools.length-i0/\dJ g kk (L.pools.drop i0) R=dJ g kk L.pools ⟨cG L.pools kk,0⟩/\R.cl.length=L.count/\R.B (G+w*(Z2+1))/\w+qm (L.pools.drop i0)=qm L.pools/\st=⟨mkT [(5,.val (.one (.ptr 5 2 0))),(6,.val (.one (.sh 3 L.count (aA cQ g)))),(7,.val (.one (.sh 3 L.count (aA cQ kk)))),(8,.val (.one (.ptr 50 s 0))),(21,.val (.one (.sh 2 L.pools.length (aA cY L.pools)))),(22,one (.int .i64 L.pools.length)),(23,one (.int .i64 i0))],mkH [(50,⟨s,200,4,1,.own 48 sc L.count 3::ai (enc R.rv)⟩),(48,⟨sc,32,3,L.count,aA cQ R.cl⟩),(5,⟨2,32,3,1,[.lit (.bool false),.lit (.string ay),.lit (.string ay)]⟩)],nx,0⟩) (L.pools.length) ⟨0,⟨cG L.pools kk,0⟩,0,_,by omega,by omega,by rfl,(by first|omega|assumption|rfl|simp|(simp;omega)),(by first|omega|assumption|rfl|simp|(simp;omega)),(by first|omega|assumption|rfl|simp|(simp;omega)),rfl⟩ ?_;rintro n0 st ⟨i0,R,w,nx0,hk0,rfl,hL0,hV0_1,hV0_2,hV0_3,rfl⟩;by_cases hlt0:i0<L.pools.length
 ·have hI0:(i0:Int)<(L.pools.length:Int):=by omega
  have hat0:=aO ko L.pools i0 hlt0;try rw [Nat.mul_one] at hat0
  rw [List.drop_eq_getElem_cons hlt0] at hL0;have hpp:=hB.pl _ (List.getElem_mem hlt0);have hpz:=hB.pz _ (List.getElem_mem hlt0);have hw0:=hV0_3;rw [List.drop_eq_getElem_cons hlt0,sr] at hw0;have hmw:(w+wN (L.pools[i0]).2)*(Z2+1)=w*(Z2+1)+wN (L.pools[i0]).2*(Z2+1):=Nat.add_mul _ _ _;have hm1:(w+wN (L.pools[i0]).2)*(Z2+1)<=qm L.pools*(Z2+1):=Nat.mul_le_mul_right _ (by omega);have hnl:=gN (L.pools[i0]).2 (aK g (L.pools[i0]).1) (aK kk (L.pools[i0]).1) R;have hnx:=(wi hpp.1 (aK g (L.pools[i0]).1) (ij hkB (by omega) (L.pools[i0]).1) hV0_2).mono (n:=G+(w+wN (L.pools[i0]).2)*(Z2+1)) (by have h7:wN (L.pools[i0]).2*(K2+(1+(L.pools[i0]).1.length*(G+1)+S2)+1)<=wN (L.pools[i0]).2*(Z2+1):=Nat.mul_le_mul_left _ (by omega);omega);generalize L.pools[i0]=p at *
  simp only [dJ] at hL0;refine awN ?_;simp only [F63,seval,ai,hI0];refine awT ?_;refine awK ?_;simp only [F63,seval];refine awN ?_;simp only [F63,seval,hI0,hat0,cY];repeat refine ob ?_
  have hT:=mp p g L.count hgl G (fun i hi=>by have:=hpp.2.2.2 i hi;omega) hgB (by omega) (by have:=hpp.2.2.1;omega) (by omega) (by have h8:=Nat.mul_le_mul hpp.2.2.1 (show G+1<=40000001 by omega);omega);simp only [cY,ai] at hT;have hU:=mp p kk L.count hkl G (fun i hi=>by have:=hpp.2.2.2 i hi;omega) hkB (by omega) (by have:=hpp.2.2.1;omega) (by omega) (by have h8:=Nat.mul_le_mul hpp.2.2.1 (show G+1<=40000001 by omega);omega);simp only [cY,ai] at hU;have hTB:=ij hgB (by omega) p.1;have hUB:=ij hkB (by omega) p.1;have hRn:=hV0_1;have hRB:=hV0_2;repeat' first|apply awS|apply awB
  refine cb [36] (by kernel_rfl) (.cons 0 true (.cons 1 true (.cons 2 true (.cons 3 true (.cons 5 true (.cons 6 true (.cons 8 true (.cons 4 false (.cons 7 false (.cons 9 false .nil)))))))))) (by kernel_rfl) (gs:=[none,none,none,none,none,none,none,none,none,none]) (by kernel_rfl) (by simp only [zT,seval];rfl) (by decide) ?_;simp only [F63,seval,ab ap,ab aw,ab bg,(id SD),(id SD)];refine ⟨_,hT,(by first|rfl|simp [aU,aD,al,ax,A1.cells,ab ap,ab bg,ab aw]),?_⟩;try simp only [ak,F63,seval,ab ap,ab aw,ab bg,(id SD)]
  refine ⟨_,hU,(by first|rfl|simp [aU,aD,al,ax,A1.cells,ab ap,ab bg,ab aw]),?_⟩;try simp only [ak,F63,seval,(id SD)]
  refine ⟨_,zY _ _ s sc L.count R p.2 (aK g p.1) (aK kk p.1) K2 S2 (1+p.1.length*(G+1)) (1+p.1.length*(G+1)) (G+w*(Z2+1)) Z2 (by rfl) (by rfl) hRn (fun y B h=>?_) (by have:=hB.n;omega) hpp.1 hpp.2.1 hTB (by have:=hB.zb;omega) hUB hRB (by omega) (by omega) hB.zb,?_⟩
  ·by_cases hy:y<7000
   ·exact hy
   exfalso;simp only [aB] at h;repeat rw [if_neg (by omega)] at h
   cases h
  rintro res H' nx' ⟨rfl,hW⟩;simp only [F63,seval,(id SD)];refine cg hW ?_;simp only [F63,seval];refine awN ?_;simp only [F63,seval,ai];repeat refine ob ?_
  refine ⟨_,aI [5,6,7,8,21,22,23] [50,48,5],L.pools.length-(i0+1),by omega,i0+1,(cO p.2 (aK g p.1) (aK kk p.1) R),(w+wN p.2),?a8_nx,by omega,rfl,?i8_0,?i8_1,?i8_2,?i8_3,?st8⟩;case st8=>(simp only [F63,seval];first|rfl|(simp [hI0,hat0,Nat.add_mul];done))
  case i8_0=>(first|exact hL0|(rw [←hL0];simp only [reduceIte,hI0,hat0];done)|(rw [←hL0];simp [hI0,hat0];done)|(simp [hI0,hat0] at hL0;simpa using hL0)|(rw [←hL0];simp [*];done))
  all_goals (first|omega|assumption|(simp;omega)|(simp_all;done))
 obtain rfl:i0=L.pools.length:=by omega
 have hI0:¬(L.pools.length:Int)<(L.pools.length:Int):=by omega
 rw [List.drop_length] at hL0;simp only [dJ] at hL0;refine awN ?_;simp only [F63,seval,ai,hI0];refine awF ?_;refine awQ ?_;simp only [F63,seval];refine dp 48 50 0 (by rfl) (by rfl) (by rfl) (by decide) (by show (3:Nat)≠0;decide) (by show (4:Nat)≠0;decide) rfl ?_;simp only [F63,seval];refine awD (scT 0 9 (scq [18] .nil)) [0,0,0,0,0,0,0,0,0,0] ?_;simp only [F63,seval];refine awX ?_;simp only [F63,seval,ab ap];have hd:b9 L m=R:=by unfold b9;rw [hg,hk,hL0]
 simp [tT,hd,ai]
def F64:=And.intro zS (And.intro Ez (And.intro CJ (And.intro Ey (And.intro CL (And.intro Ex (And.intro CN (And.intro cD (And.intro CP (And.intro xG (And.intro CI (And.intro gH (And.intro dN (A0)))))))))))))
theorem F65:type_of%F64:=F64
theorem GY (L:WL) (m:Rat) (K Sm M Z G K2 S2 Z2:Nat) (hB:delB L K Sm M Z G K2 S2 Z2) (hM0:0<M) (hM:qB M m) (hZ4:Z2<=10000000000):aR prog 139 [.agg (bL L),.agg (ai (enc m))] (stR L m):=by
 have hGg:=hB.g;have hGz:=hB.gz;have hGb:=hB.gb;have hBb:G+qm L.pools*(Z2+1)<=50000000000:=hB.b;have hG0:0<G:=by omega
 have hLn:=hB.n;have hLp:=hB.pn;refine aP func139 rfl (by decide) (N:=69) rfl (by simp) (R:=[.cell 4 32,.tmp 5]) rfl fun en k0=>?_
 refine awN ?_;simp only [F65,seval,ai,bL];have hA:=Fs L.ranks m K Sm M hB.rk hM (by have:=hB.z;have:=hB.zb;omega) (by have:=hB.z;have:=hB.zb;omega);simp only [gpR,ai] at hA;refine awN ?_;simp only [F65,seval,ab aw];refine ⟨_,hA,(by first|rfl|simp [aU,aD,al,ax,A1.cells,ab ap,ab bg,ab aw,ab ar]),?_⟩;try simp only [ak,F65,seval]
 by_cases ho:a8 L.ranks m
 ·refine awN ?_;simp only [F65,seval,ho];refine awF ?_;refine awK ?_;simp only [F65,seval];have hG:=mr L m K Sm M Z (by have:=hB.n;omega) hB.rk hB.rin hM hB.z (by omega) (by have:=hB.zb;omega);have hR:=zZ L m K Sm M Z (by have:=hB.n;omega) hB.rk hB.rin hM (by have:=hB.z;have:=hB.zb;omega) (by have:=hB.z;omega) (by omega) (by have:=hB.zb;omega);simp only [ai] at hG hR;refine awD (scq [1,3,7,9,4,10,13,15] .nil) [0,0,0,0,0,0,0,0] ?_;simp only [F65,seval,ab aw,ab ar];refine ⟨_,hG,(by first|rfl|simp [al,ax,ab ap]),?_⟩;try simp only [ak,F65,seval,ab aw,ab ar]
  refine ⟨_,hR,(by first|rfl|simp [al,ax,ab ap]),?_⟩;try simp only [ak,F65,seval]
  have hgl:=gK L m;have hgB:=mv hB hM;have hkl:=i9 L m;have hkB:=wj hB hM0 m;obtain ⟨g,hg⟩:∃g,aW L m=g:=⟨_,rfl⟩;obtain ⟨kk,hk⟩:∃g,ba L m=g:=⟨_,rfl⟩;rw [hg] at hgl hgB;rw [hk] at hkl hkB;rw [hg,hk];refine awN ?_;simp only [F65,seval];have hgap0:qB 50000000000 (cu L.ranks m):=(ik hB.rk hM ho).mono (by have:=hB.z;have:=hB.zb;omega);refine aQ [4,6,8,9,34,35,36] [4,6] ?_;try simp only [ak,F65,seval]
  repeat' first|apply awS|apply awB
  refine aM (fun n st=>∃i0 out nx,i0<=L.pools.length/\n=L.pools.length-i0/\eF g kk (L.pools.drop i0) out=eF g kk L.pools (cu L.ranks m)/\qB 50000000000 out/\st=⟨mkT [(4,.val (.one (.ptr 4 2 0))),(6,.val (.one (.ptr 6 3 0))),(8,.val (.one (.sh 3 L.count (aA cQ g)))),(9,.val (.one (.sh 3 L.count (aA cQ kk)))),(34,.val (.one (.sh 2 L.pools.length (aA cY L.pools)))),(35,one (.int .i64 L.pools.length)),(36,one (.int .i64 i0))],mkH [(4,⟨2,32,3,1,[.lit (.bool false),.lit (.string ay),.lit (.string ay)]⟩),(6,⟨3,32,3,1,ai (enc out)⟩)],nx,0⟩) (L.pools.length) ⟨0,(cu L.ranks m),_,by omega,by omega,by rfl,(by first|omega|assumption|rfl|simp|(simp;omega)),rfl⟩ ?_;rintro n0 st ⟨i0,out,nx0,hk0,rfl,hL0,hV0_1,rfl⟩;by_cases hlt0:i0<L.pools.length
  ·have hI0:(i0:Int)<(L.pools.length:Int):=by omega
   have hat0:=aO ko L.pools i0 hlt0;try rw [Nat.mul_one] at hat0
   rw [List.drop_eq_getElem_cons hlt0] at hL0;have hpp:=hB.pl _ (List.getElem_mem hlt0);have hpz:=hB.pz _ (List.getElem_mem hlt0);have hVo:=hV0_1;have hTB:=ij hgB (by omega) (L.pools[i0]).1;have hUB:=ij hkB (by omega) (L.pools[i0]).1;generalize L.pools[i0]=p at *
   simp only [eF] at hL0;refine awN ?_;simp only [F65,seval,ai,hI0];refine awT ?_;refine awK ?_;simp only [F65,seval];refine awN ?_;simp only [F65,seval,hI0,hat0,cY];repeat refine ob ?_
   have hU:=mp p kk L.count hkl G (fun i hi=>by have:=hpp.2.2.2 i hi;omega) hkB (by omega) (by have:=hpp.2.2.1;omega) (by omega) (by have h8:=Nat.mul_le_mul hpp.2.2.1 (show G+1<=40000001 by omega);omega);simp only [cY,ai] at hU;refine awN ?_;simp only [F65,seval,ab ap,ab aw,ab bg];refine ⟨_,hU,(by first|rfl|simp [aU,aD,al,ax,A1.cells,ab ap,ab bg,ab aw,ab ar]),?_⟩;try simp only [ak,F65,seval]
   have hT:=mp p g L.count hgl G (fun i hi=>by have:=hpp.2.2.2 i hi;omega) hgB (by omega) (by have:=hpp.2.2.1;omega) (by omega) (by have h8:=Nat.mul_le_mul hpp.2.2.1 (show G+1<=40000001 by omega);omega);simp only [cY,ai] at hT;have hGp:=Fs p.2 (aK g p.1) K2 S2 (1+p.1.length*(G+1)) hpp.1 hTB (by have:=hB.zb;omega) (by have:=hB.zb;omega);simp only [gpR,ai] at hGp;refine awD (scT 0 4 (.two 4 9 (.two 5 9 (scq [13,15,17,18,20,23] .nil) (scq [10,13,15,17,20,23] .nil)) (scq [8,10,13,15,17,20,23] .nil))) [0,0,0,0,0,0,0,0,0,0,0,0] ?_;simp only [F65,seval,ab ap,ab aw,ab bg];refine ⟨?_,?_⟩
   ·refine ⟨_,hT,(by first|rfl|simp [aU,aD,al,ax,A1.cells,ab ap,ab bg,ab aw,ab ar]),?_⟩;try simp only [ak,F65,seval,ab aw]
    refine ⟨?_,?_⟩
    ·refine ⟨_,hGp,(by first|rfl|simp [aU,aD,al,ax,A1.cells,ab ap,ab bg,ab aw,ab ar]),?_⟩;try simp only [ak,F65,seval]
     by_cases hop:a8 p.2 (aK g p.1)
     ·by_cases hps:0<cU (aK kk p.1)
      ·have hpq:0<aK kk p.1:=(kw _).1 hps;have hSg:=mw (aK kk p.1) (hUB.mono (by have:=hB.zb;omega));simp only [ai] at hSg;refine awR [] [0,0,109,109,109,0] ?_;simp only [F65,seval,hop];refine ⟨_,hSg,(by first|rfl|simp [aU,aD,al,ax,A1.cells,ab ap,ab bg,ab aw,ab ar]),?_⟩;try simp only [ak,F65,seval,hps]
       refine awT ?_;have hDv:=ES (cu p.2 (aK g p.1)) (aK kk p.1) (S2+(1+p.1.length*(G+1)+p.2.length*(S2+1))+1) (1+p.1.length*(G+1)) (ik hpp.1 hTB hop) hUB (by have:=hB.zb;omega) (by have:=hB.zb;omega);simp only [ai] at hDv;refine awN ?_;simp only [F65,seval];refine ⟨_,hDv,(by first|rfl|simp [aU,aD,al,ax,A1.cells,ab ap,ab bg,ab aw,ab ar]),?_⟩;try simp only [ak,F65,seval]
       have hMn:=Dz out (cu p.2 (aK g p.1)/aK kk p.1) hVo (((ik hpp.1 hTB hop).div hUB).mono (by have:=hB.zb;omega));simp only [ai] at hMn;have hnx:qB 50000000000 (bC out (cu p.2 (aK g p.1)/aK kk p.1)):=by unfold bC;split<;>first|exact hVo|exact ((ik hpp.1 hTB hop).div hUB).mono (by have:=hB.zb;omega)
       refine awN ?_;simp only [F65,seval];refine ⟨_,hMn,(by first|rfl|simp [aU,aD,al,ax,A1.cells,ab ap,ab bg,ab aw,ab ar]),?_⟩;try simp only [ak,F65,seval]
       refine awN ?_;simp only [F65,seval];repeat refine ob ?_
       refine ⟨_,aI [4,6,8,9,34,35,36] [4,6],L.pools.length-(i0+1),by omega,i0+1,(bC out (cu p.2 (aK g p.1)/aK kk p.1)),?a13_nx,by omega,rfl,?i13_0,?i13_1,?st13⟩;case st13=>(simp only [F65,seval];first|rfl|(simp [ho,hI0,hat0,hop,hps,hpq,Nat.add_mul];done))
       case i13_0=>(first|exact hL0|(rw [←hL0];simp only [reduceIte,hop,hpq];done)|(rw [←hL0];simp [hop,hpq];done)|(simp [ho,hI0,hat0,hop,hps,hpq] at hL0;simpa using hL0)|(rw [←hL0];simp [*];done))
       all_goals (first|omega|assumption|(simp;omega)|(simp_all;done))
      have hpq:¬0<aK kk p.1:=fun h=>hps ((kw _).2 h)
      have hSg:=mw (aK kk p.1) (hUB.mono (by have:=hB.zb;omega));simp only [ai] at hSg;refine awR [] [0,0,109,109,109,0] ?_;simp only [F65,seval,hop];refine ⟨_,hSg,(by first|rfl|simp [aU,aD,al,ax,A1.cells,ab ap,ab bg,ab aw,ab ar]),?_⟩;try simp only [ak,F65,seval,hps]
      refine awF ?_;refine awK ?_;simp only [F65,seval];refine awN ?_;simp only [F65,seval];repeat refine ob ?_
      refine ⟨_,aI [4,6,8,9,34,35,36] [4,6],L.pools.length-(i0+1),by omega,i0+1,(out),?a16_nx,by omega,rfl,?i16_0,?i16_1,?st16⟩;case st16=>(simp only [F65,seval];first|rfl|(simp [ho,hI0,hat0,hop,hps,hpq,Nat.add_mul];done))
      case i16_0=>(first|exact hL0|(rw [←hL0];simp only [reduceIte,hop,hpq];done)|(rw [←hL0];simp [hop,hpq];done)|(simp [ho,hI0,hat0,hop,hps,hpq] at hL0;simpa using hL0)|(rw [←hL0];simp [*];done))
      all_goals (first|omega|assumption|(simp;omega)|(simp_all;done))
     have hSg:=mw (aK kk p.1) (hUB.mono (by have:=hB.zb;omega));simp only [ai] at hSg;refine awR [] [0,0,109,109,109,0] ?_;simp only [F65,seval,hop];refine awF ?_;refine awK ?_;simp only [F65,seval];refine awN ?_;simp only [F65,seval];repeat refine ob ?_
     refine ⟨_,aI [4,6,8,9,34,35,36] [4,6],L.pools.length-(i0+1),by omega,i0+1,(out),?a19_nx,by omega,rfl,?i19_0,?i19_1,?st19⟩;case st19=>(simp only [F65,seval];first|rfl|(simp [ho,hI0,hat0,hop,Nat.add_mul];done))
     case i19_0=>(first|exact hL0|(rw [←hL0];simp only [reduceIte,hop];done)|(rw [←hL0];simp [hop];done)|(simp [ho,hI0,hat0,hop] at hL0;simpa using hL0)|(rw [←hL0];simp [*];done))
     all_goals (first|omega|assumption|(simp;omega)|(simp_all;done))
    refine ⟨_,hGp,(by first|rfl|simp [aU,aD,al,ax,A1.cells,ab ap,ab bg,ab aw,ab ar]),?_⟩;try simp only [ak,F65,seval]
    by_cases hop:a8 p.2 (aK g p.1)
    ·by_cases hps:0<cU (aK kk p.1)
     ·have hpq:0<aK kk p.1:=(kw _).1 hps;have hSg:=mw (aK kk p.1) (hUB.mono (by have:=hB.zb;omega));simp only [ai] at hSg;refine awR [] [0,0,109,109,109,0] ?_;simp only [F65,seval,hop];refine ⟨_,hSg,(by first|rfl|simp [aU,aD,al,ax,A1.cells,ab ap,ab bg,ab aw,ab ar]),?_⟩;try simp only [ak,F65,seval,hps]
      refine awT ?_;have hDv:=ES (cu p.2 (aK g p.1)) (aK kk p.1) (S2+(1+p.1.length*(G+1)+p.2.length*(S2+1))+1) (1+p.1.length*(G+1)) (ik hpp.1 hTB hop) hUB (by have:=hB.zb;omega) (by have:=hB.zb;omega);simp only [ai] at hDv;refine awN ?_;simp only [F65,seval];refine ⟨_,hDv,(by first|rfl|simp [aU,aD,al,ax,A1.cells,ab ap,ab bg,ab aw,ab ar]),?_⟩;try simp only [ak,F65,seval]
      have hMn:=Dz out (cu p.2 (aK g p.1)/aK kk p.1) hVo (((ik hpp.1 hTB hop).div hUB).mono (by have:=hB.zb;omega));simp only [ai] at hMn;have hnx:qB 50000000000 (bC out (cu p.2 (aK g p.1)/aK kk p.1)):=by unfold bC;split<;>first|exact hVo|exact ((ik hpp.1 hTB hop).div hUB).mono (by have:=hB.zb;omega)
      refine awN ?_;simp only [F65,seval];refine ⟨_,hMn,(by first|rfl|simp [aU,aD,al,ax,A1.cells,ab ap,ab bg,ab aw,ab ar]),?_⟩;try simp only [ak,F65,seval]
      refine awN ?_;simp only [F65,seval];repeat refine ob ?_
      refine ⟨_,aI [4,6,8,9,34,35,36] [4,6],L.pools.length-(i0+1),by omega,i0+1,(bC out (cu p.2 (aK g p.1)/aK kk p.1)),?a24_nx,by omega,rfl,?i24_0,?i24_1,?st24⟩;case st24=>(simp only [F65,seval];first|rfl|(simp [ho,hI0,hat0,hop,hps,hpq,Nat.add_mul];done))
      case i24_0=>(first|exact hL0|(rw [←hL0];simp only [reduceIte,hop,hpq];done)|(rw [←hL0];simp [hop,hpq];done)|(simp [ho,hI0,hat0,hop,hps,hpq] at hL0;simpa using hL0)|(rw [←hL0];simp [*];done))
      all_goals (first|omega|assumption|(simp;omega)|(simp_all;done))
     have hpq:¬0<aK kk p.1:=fun h=>hps ((kw _).2 h)
     have hSg:=mw (aK kk p.1) (hUB.mono (by have:=hB.zb;omega));simp only [ai] at hSg;refine awR [] [0,0,109,109,109,0] ?_;simp only [F65,seval,hop];refine ⟨_,hSg,(by first|rfl|simp [aU,aD,al,ax,A1.cells,ab ap,ab bg,ab aw,ab ar]),?_⟩;try simp only [ak,F65,seval,hps]
     refine awF ?_;refine awK ?_;simp only [F65,seval];refine awN ?_;simp only [F65,seval];repeat refine ob ?_
     refine ⟨_,aI [4,6,8,9,34,35,36] [4,6],L.pools.length-(i0+1),by omega,i0+1,(out),?a27_nx,by omega,rfl,?i27_0,?i27_1,?st27⟩;case st27=>(simp only [F65,seval];first|rfl|(simp [ho,hI0,hat0,hop,hps,hpq,Nat.add_mul];done))
     case i27_0=>(first|exact hL0|(rw [←hL0];simp only [reduceIte,hop,hpq];done)|(rw [←hL0];simp [hop,hpq];done)|(simp [ho,hI0,hat0,hop,hps,hpq] at hL0;simpa using hL0)|(rw [←hL0];simp [*];done))
     all_goals (first|omega|assumption|(simp;omega)|(simp_all;done))
    have hSg:=mw (aK kk p.1) (hUB.mono (by have:=hB.zb;omega));simp only [ai] at hSg;refine awR [] [0,0,109,109,109,0] ?_;simp only [F65,seval,hop];refine awF ?_;refine awK ?_;simp only [F65,seval];refine awN ?_;simp only [F65,seval];repeat refine ob ?_
    refine ⟨_,aI [4,6,8,9,34,35,36] [4,6],L.pools.length-(i0+1),by omega,i0+1,(out),?a30_nx,by omega,rfl,?i30_0,?i30_1,?st30⟩;case st30=>(simp only [F65,seval];first|rfl|(simp [ho,hI0,hat0,hop,Nat.add_mul];done))
    case i30_0=>(first|exact hL0|(rw [←hL0];simp only [reduceIte,hop];done)|(rw [←hL0];simp [hop];done)|(simp [ho,hI0,hat0,hop] at hL0;simpa using hL0)|(rw [←hL0];simp [*];done))
    all_goals (first|omega|assumption|(simp;omega)|(simp_all;done))
   refine ⟨_,hT,(by first|rfl|simp [aU,aD,al,ax,A1.cells,ab ap,ab bg,ab aw,ab ar]),?_⟩;try simp only [ak,F65,seval,ab aw]
   refine ⟨_,hGp,(by first|rfl|simp [aU,aD,al,ax,A1.cells,ab ap,ab bg,ab aw,ab ar]),?_⟩;try simp only [ak,F65,seval]
   by_cases hop:a8 p.2 (aK g p.1)
   ·by_cases hps:0<cU (aK kk p.1)
    ·have hpq:0<aK kk p.1:=(kw _).1 hps;have hSg:=mw (aK kk p.1) (hUB.mono (by have:=hB.zb;omega));simp only [ai] at hSg;refine awR [] [0,0,109,109,109,0] ?_;simp only [F65,seval,hop];refine ⟨_,hSg,(by first|rfl|simp [aU,aD,al,ax,A1.cells,ab ap,ab bg,ab aw,ab ar]),?_⟩;try simp only [ak,F65,seval,hps]
     refine awT ?_;have hDv:=ES (cu p.2 (aK g p.1)) (aK kk p.1) (S2+(1+p.1.length*(G+1)+p.2.length*(S2+1))+1) (1+p.1.length*(G+1)) (ik hpp.1 hTB hop) hUB (by have:=hB.zb;omega) (by have:=hB.zb;omega);simp only [ai] at hDv;refine awN ?_;simp only [F65,seval];refine ⟨_,hDv,(by first|rfl|simp [aU,aD,al,ax,A1.cells,ab ap,ab bg,ab aw,ab ar]),?_⟩;try simp only [ak,F65,seval]
     have hMn:=Dz out (cu p.2 (aK g p.1)/aK kk p.1) hVo (((ik hpp.1 hTB hop).div hUB).mono (by have:=hB.zb;omega));simp only [ai] at hMn;have hnx:qB 50000000000 (bC out (cu p.2 (aK g p.1)/aK kk p.1)):=by unfold bC;split<;>first|exact hVo|exact ((ik hpp.1 hTB hop).div hUB).mono (by have:=hB.zb;omega)
     refine awN ?_;simp only [F65,seval];refine ⟨_,hMn,(by first|rfl|simp [aU,aD,al,ax,A1.cells,ab ap,ab bg,ab aw,ab ar]),?_⟩;try simp only [ak,F65,seval]
     refine awN ?_;simp only [F65,seval];repeat refine ob ?_
     refine ⟨_,aI [4,6,8,9,34,35,36] [4,6],L.pools.length-(i0+1),by omega,i0+1,(bC out (cu p.2 (aK g p.1)/aK kk p.1)),?a35_nx,by omega,rfl,?i35_0,?i35_1,?st35⟩;case st35=>(simp only [F65,seval];first|rfl|(simp [ho,hI0,hat0,hop,hps,hpq,Nat.add_mul];done))
     case i35_0=>(first|exact hL0|(rw [←hL0];simp only [reduceIte,hop,hpq];done)|(rw [←hL0];simp [hop,hpq];done)|(simp [ho,hI0,hat0,hop,hps,hpq] at hL0;simpa using hL0)|(rw [←hL0];simp [*];done))
     all_goals (first|omega|assumption|(simp;omega)|(simp_all;done))
    have hpq:¬0<aK kk p.1:=fun h=>hps ((kw _).2 h)
    have hSg:=mw (aK kk p.1) (hUB.mono (by have:=hB.zb;omega));simp only [ai] at hSg;refine awR [] [0,0,109,109,109,0] ?_;simp only [F65,seval,hop];refine ⟨_,hSg,(by first|rfl|simp [aU,aD,al,ax,A1.cells,ab ap,ab bg,ab aw,ab ar]),?_⟩;try simp only [ak,F65,seval,hps]
    refine awF ?_;refine awK ?_;simp only [F65,seval];refine awN ?_;simp only [F65,seval];repeat refine ob ?_
    refine ⟨_,aI [4,6,8,9,34,35,36] [4,6],L.pools.length-(i0+1),by omega,i0+1,(out),?a38_nx,by omega,rfl,?i38_0,?i38_1,?st38⟩;case st38=>(simp only [F65,seval];first|rfl|(simp [ho,hI0,hat0,hop,hps,hpq,Nat.add_mul];done))
    case i38_0=>(first|exact hL0|(rw [←hL0];simp only [reduceIte,hop,hpq];done)|(rw [←hL0];simp [hop,hpq];done)|(simp [ho,hI0,hat0,hop,hps,hpq] at hL0;simpa using hL0)|(rw [←hL0];simp [*];done))
    all_goals (first|omega|assumption|(simp;omega)|(simp_all;done))
   have hSg:=mw (aK kk p.1) (hUB.mono (by have:=hB.zb;omega));simp only [ai] at hSg;refine awR [] [0,0,109,109,109,0] ?_;simp only [F65,seval,hop];refine awF ?_;refine awK ?_;simp only [F65,seval];refine awN ?_;simp only [F65,seval];repeat refine ob ?_
   refine ⟨_,aI [4,6,8,9,34,35,36] [4,6],L.pools.length-(i0+1),by omega,i0+1,(out),?a41_nx,by omega,rfl,?i41_0,?i41_1,?st41⟩;case st41=>(simp only [F65,seval];first|rfl|(simp [ho,hI0,hat0,hop,Nat.add_mul];done))
   case i41_0=>(first|exact hL0|(rw [←hL0];simp only [reduceIte,hop];done)|(rw [←hL0];simp [hop];done)|(simp [ho,hI0,hat0,hop] at hL0;simpa using hL0)|(rw [←hL0];simp [*];done))
   all_goals (first|omega|assumption|(simp;omega)|(simp_all;done))
  obtain rfl:i0=L.pools.length:=by omega
  have hI0:¬(L.pools.length:Int)<(L.pools.length:Int):=by omega
  rw [List.drop_length] at hL0;simp only [eF] at hL0;refine awN ?_;simp only [F65,seval,ai,hI0];refine awF ?_;refine awQ ?_;simp only [F65,seval];refine awN ?_;simp only [F65,seval];refine awX ?_;simp only [F65,seval];have hd:bx L m=out:=by unfold bx;rw [hg,hk,hL0]
  simp [stR,ho,hd,ai]
 refine awN ?_;simp only [F65,seval,ho];refine awT ?_;refine awN ?_;simp only [F65,seval];refine awX ?_;simp only [F65,seval];simp [stR,ho,bf]
structure eIn (e:GEst) (K M nc na:Nat):Prop where
 ok:y8 e
 s:x8 K e
 k0:0<K
 m0:0<M
 hnc:e.claims.length<=nc
 nc2:nc<=24
 hna:e.agrs.length<=na
 kb:K<=10000
 mb:M<=40000000
 b:kG nc K M<=40000000/\kY nc K M<=40000000000/\kG nc K M+(na*600)*(kY nc K M+1)<=50000000000
theorem Ix (r:GRat) (M:Nat) (h:sB M r) (h0:0<M) (hM:M<=100000000000):aR prog 133 [.agg (ai r),.agg [.lit (.bool false),.lit (.string ay),.lit (.string ay)]] (.val (.agg (ai (enc (nW (qOf r) 0))))):=by
 have h1:=I8 r gZ M 1 h ⟨by decide,by decide⟩ hM (by decide) h0 (by decide);rw [mZ] at h1;exact h1
noncomputable def cx (r:GRat):Rat:=nW (qOf r) 0
theorem jc {r:GRat} {M:Nat} (h:sB M r) (h0:0<M):qB M (cx r):=by
 unfold cx nW;split
 ·exact bW.mono h0
 exact h.qB h0
theorem my (r:GRat):0<=cx r:=by
 unfold cx nW;split<;>grind
noncomputable def ttR (e:GEst):AV:= .tup [.agg (ai (enc (if bv e=0 then cn e.claims else 0))),.one (.lit (.int .i64 (bv e)))]
noncomputable def grR (e:GEst) (m:Rat):AV:= .tup [.one (if bv e=0 then .sh 3 e.claims.length (aA cQ (aW (az e) m)) else .lit (.slice none 0 0)),.one (.lit (.int .i64 (bv e)))]
noncomputable def dlR (e:GEst) (m:Rat):AV:= .tup [.one (if bv e=0 then .sh 3 e.claims.length (aA cQ (eQ (az e) m).cl) else .lit (.slice none 0 0)),.agg (ai (enc (if bv e=0 then (eQ (az e) m).rv else 0))),.one (.lit (.int .i64 (bv e)))]
def F66:=And.intro zS (And.intro cD (And.intro gH (dN)))
theorem F67:type_of%F66:=F66
theorem gO (r:GRat) (M:Nat) (h:sB M r) (h0:0<M) (hM:M<=100000000000):aR prog 81 [.agg (ai r)] (.val (.agg (ai (enc (cx r))))):=by
 have hA:=Ix r M h h0 hM;simp only [ai] at hA;refine aP func81 rfl (by decide) (N:=6) rfl (by simp) (R:=[.cell 2 32]) rfl fun en k0=>?_
 refine awN ?_;simp only [F67,seval,ai];refine awN ?_;simp only [F67,seval];refine ⟨_,hA,rfl,?_⟩;try simp only [ak,F67,seval]
 refine awX ?_;(first|(simp only [F67,seval,cx];done)|(simp only [F67,seval,ai];first|(simp [cx,ai];done)))
def F68:=And.intro zS (And.intro Hy (And.intro cD (dN)))
theorem F69:type_of%F68:=F68
theorem DC (L:WL):aR prog 82 [.agg (bL L)] (.val (.agg (ai (enc L.total)))):=by
 refine aP func82 rfl (by decide) (N:=5) rfl (by simp) (R:=[.cell 2 32]) rfl fun en k0=>?_
 refine awN ?_;simp only [F69,seval,ai,bL];refine awN ?_;simp only [F69,seval];refine awX ?_;(first|(simp only [F69,seval];done)|(simp only [F69,seval,ai];first|(simp [ai];done)))
def F70:=And.intro zS (And.intro ic (And.intro cD (And.intro gH (dN))))
theorem F71:type_of%F70:=F70
theorem yb (e:GEst) (m:GRat) (K M nc na:Nat) (hI:eIn e K M nc na) (hm:sB M m):aR prog 32 [.agg (aJ e),.agg (ai m)] (dlR e (cx m)):=by
 refine aP func32 rfl (by decide) (N:=26) rfl (by simp) (R:=[.tmp 4,.cell 5 32,.tmp 6]) rfl fun en k0=>?_
 refine awN ?_;simp only [F71,seval,aJ,ai];have hC:=iv e hI.ok;refine awN ?_;simp only [F71,seval,ab ao,ab au];refine ⟨_,hC,(by first|rfl|simp [aU,aD,al,ax,A1.cells,bL,ai,ab ap,ab aw,ab ar]),?_⟩;try simp only [ak,F71,seval]
 by_cases h0:bv e=0
 ·refine awN ?_;simp only [F71,seval,h0];refine awF ?_;refine awK ?_;simp only [F71,seval];have hW:=iC h0;have hLay:=so e K (K+576*(K+1)) (by have:=hW.n;omega) (by have:=hW.an;omega) hW.cl.rk hI.s.2.1 hI.k0 (by have:=hI.kb;omega) (jb hW hI.s hI.k0 hI.kb);have hB:=EX hW hI.s hI.k0 hI.hnc hI.nc2 hI.hna hI.b;have hP:=gO m M hm hI.m0 (by have:=hI.mb;omega);have hG:=Dt (az e) (cx m) K (kS nc K) M (kZ nc K M) _ _ _ _ hB (jc hm hI.m0);simp only [ai,tT] at hG hP;refine awD (scq [1,5] (.two 1 8 (.two 3 8 (.two 4 8 (scq [11,13,15,16,19,20] .nil) (scq [8,11,13,15,19,20] .nil)) (scq [6,8,11,13,15,19,20] .nil)) (scq [2,6,8,11,13,15,19,20] .nil))) [0,0,0,0,0,0,0,0,0,0,0] ?_;simp only [F71,seval,ab ao,ab au];refine ⟨?_,?_⟩
  ·refine ⟨_,hLay,(by first|rfl|simp [al,ax,bL,ai,ab aw,ab ar]),?_⟩;try simp only [ak,F71,seval,bL,ai]
   refine ⟨?_,?_⟩
   ·refine ⟨_,hP,(by first|rfl|simp [aU,aD,al,ax,A1.cells,bL,ai,ab ap,ab aw,ab ar]),?_⟩;try simp only [ak,F71,seval,ab aw,ab ar]
    refine ⟨?_,?_⟩
    ·refine ⟨_,hG,(by first|rfl|simp [aD,al,ax,A1.cells,ab ap]),?_⟩;try simp only [ak,F71,seval]
     refine awD (scq [1,3,5,6,9] .nil) [0,0,0,0,0] ?_;simp only [F71,seval];refine awX ?_;simp only [F71,seval,ab ap];simp [dlR,h0,az,ai]
    refine ⟨_,hG,(by first|rfl|simp [aD,al,ax,A1.cells,ab ap]),?_⟩;try simp only [ak,F71,seval]
    refine awD (scq [1,3,5,6,9] .nil) [0,0,0,0,0] ?_;simp only [F71,seval];refine awX ?_;simp only [F71,seval,ab ap];simp [dlR,h0,az,ai]
   refine ⟨_,hP,(by first|rfl|simp [aU,aD,al,ax,A1.cells,bL,ai,ab ap,ab aw,ab ar]),?_⟩;try simp only [ak,F71,seval,ab aw,ab ar]
   refine ⟨_,hG,(by first|rfl|simp [aD,al,ax,A1.cells,ab ap]),?_⟩;try simp only [ak,F71,seval]
   refine awD (scq [1,3,5,6,9] .nil) [0,0,0,0,0] ?_;simp only [F71,seval];refine awX ?_;simp only [F71,seval,ab ap];simp [dlR,h0,az,ai]
  refine ⟨_,hLay,(by first|rfl|simp [al,ax,bL,ai,ab aw,ab ar]),?_⟩;try simp only [ak,F71,seval,bL,ai]
  refine ⟨_,hP,(by first|rfl|simp [aU,aD,al,ax,A1.cells,bL,ai,ab ap,ab aw,ab ar]),?_⟩;try simp only [ak,F71,seval,ab aw,ab ar]
  refine ⟨_,hG,(by first|rfl|simp [aD,al,ax,A1.cells,ab ap]),?_⟩;try simp only [ak,F71,seval]
  refine awD (scq [1,3,5,6,9] .nil) [0,0,0,0,0] ?_;simp only [F71,seval];refine awX ?_;simp only [F71,seval,ab ap];simp [dlR,h0,az,ai]
 refine awN ?_;simp only [F71,seval,h0];refine awT ?_;refine awN ?_;simp only [F71,seval];refine awX ?_;simp only [F71,seval];simp [dlR,h0,bf]
theorem nQ : (prog.fieldsOf 32).toList = [⟨"Neg", 4, 0, false, "", "", 0⟩, ⟨"Num", 9, 1, false, "", "", 8⟩, ⟨"Den", 9, 2, false, "", "", 24⟩] := by kernel_rfl
theorem yd:ldT prog 4=some (false,1):=by kernel_rfl
theorem tU:ldT prog 9=some (false,1):=by kernel_rfl
theorem lC (cs:Array Value) (i:Nat) (v:Value) (h:cs[i]? =some v) (w:World):(part 4 cs i).run prog w= .ok v w:=by
 simp [part,(lG yd w).1,h]
theorem gl (cs:Array Value) (i:Nat) (v:Value) (h:cs[i]? =some v) (w:World):(part 9 cs i).run prog w= .ok v w:=by
 simp [part,(lG tU w).1,h]
theorem go (a:GRat):DY prog 32 [.bool a.neg,.string a.num,.string a.den] [.bool a.neg,.string a.num,.string a.den]:=fun w=>⟨by
 obtain ⟨x,y,z⟩:=a;have h2:=run_equalIn_agg (P:=prog) w 9999 32 #[.bool x,.string y,.string z] #[.bool x,.string y,.string z] (by kernel_rfl) (by kernel_rfl);have h3:(Op.equal 32 (.agg #[.bool x,.string y,.string z]) (.agg #[.bool x,.string y,.string z])).run prog w=(Op.equalIn (9999+1) 32 (.agg #[.bool x,.string y,.string z]) (.agg #[.bool x,.string y,.string z])).run prog w:=rfl;have hb:=fun (a b:Bool)=>run_equalIn_bool' (P:=prog) w 9998 4 a b (by kernel_rfl)
 have hs:=fun (a b:ByteArray)=>run_equalIn_string (P:=prog) w 9998 9 a b (by kernel_rfl)
 have p0:=lC #[.bool x,.string y,.string z] 0 _ rfl w;have p1:=gl #[.bool x,.string y,.string z] 1 _ rfl w;have p2:=gl #[.bool x,.string y,.string z] 2 _ rfl w;show (Op.equal 32 (.agg #[.bool x,.string y,.string z]) (.agg #[.bool x,.string y,.string z])).run prog w=_;rw [h3,h2,nQ];have n1 : ¬ "Neg" = "_" := by decide
 have n2 : ¬ "Num" = "_" := by decide
 have n3 : ¬ "Den" = "_" := by decide
 simp only [Op.eqFields,ne_eq,n1,n2,n3,not_false_eq_true,if_true,Sem.run_bind,p0,Result.andThen_ok];simp [hb,hs,p1,p2,jn,eqV],by kernel_rfl⟩
theorem gv (a:GRat):jn [.bool a.neg,.string a.num,.string a.den] [.bool a.neg,.string a.num,.string a.den]=true:=by simp [jn,eqV]
theorem fV (n:Int) (h0: -1000000<=n) (h1:n<=1000000):aR prog 52 [.one (.lit (.int .i64 n))] (.val (.agg (ai (enc (n:Rat))))):=Ik n (by omega) (by omega)
def jd:List GClaim:=[⟨-1,2,enc 60⟩,⟨-1,2,enc 40⟩]
noncomputable def exE (ags:List bR):GEst:=⟨gZ,jd,ags⟩
section
variable {P : Program} {e : En} {H : Hp} {nx : Nat} {σ : Nat → Value} {w : World}
theorem ye (hW:RW e H nx σ w) {nt st na sa:Nat} {E E':TypeId} {t1 t2:List GPart} {v:Value} (hd:den (kx e H nx σ w) v (.own nt st 2 1)) (h1:H nt=some ⟨st,E,1,2,[.sh 5 t1.length (aA bT t1),.own na sa t2.length 5]⟩) (h2:H na=some ⟨sa,E',5,t2.length,aA bT t2⟩):
  den (fd w) v (.sh 1 2 (aA bD [t1,t2])):=by
 refine kj hW hd h1 rfl (by show (1:Nat)≠0;decide) fun xs hx=>?_
 obtain ⟨v1,vs1,rfl,d1,hx⟩:=cv hx;obtain ⟨v2,vs2,rfl,d2,hx⟩:=cv hx;cases vs2 with
 |nil=>exact ⟨dK eS (by simp [ax,ab d9]) d1,kj hW d2 h2 rfl (by show (5:Nat)≠0;decide) (fun ys hy=>iI eS (ab d9 _) hy),trivial⟩
 |cons v vs=>exact hx.elim
theorem mz (hW:RW e H nx σ w) {n1 n2 nt st na sa sx sy:Nat} {E E' E1 E2:TypeId} {t1 t2:List GPart} {vs:List Value}
  (hd:denVs (kx e H nx σ w) vs [.lit (.bool false),.lit (.string ay),.lit (.string ay),.own n1 sx 2 5,.own n2 sy 1 1]) (h1:H nt=some ⟨st,E,1,2,[.sh 5 t1.length (aA bT t1),.own na sa t2.length 5]⟩) (h2:H na=some ⟨sa,E',5,t2.length,aA bT t2⟩)
  (h3:H n1=some ⟨sx,E1,5,2,aA b0 jd⟩) (h4:H n2=some ⟨sy,E2,1,1,[.own nt st 2 1]⟩):denVs (fd w) vs (aJ (exE [[t1,t2]])):=by
 obtain ⟨v1,vs1,rfl,d1,hd⟩:=cv hd;obtain ⟨v2,vs2,rfl,d2,hd⟩:=cv hd;obtain ⟨v3,vs3,rfl,d3,hd⟩:=cv hd;obtain ⟨v4,vs4,rfl,d4,hd⟩:=cv hd;obtain ⟨v5,vs5,rfl,d5,hd⟩:=cv hd;have k4:=kj hW d4 h3 rfl (by show (5:Nat)≠0;decide) (fun ys hy=>iI eS (ab ao _) hy);have k5:den (fd w) v5 (.sh 1 1 (aA bu [[t1,t2]])):=kj hW d5 h4 rfl (by show (1:Nat)≠0;decide) fun xs hx=>by
  obtain ⟨u1,us1,rfl,f1,hx⟩:=cv hx;cases us1 with
  |nil=>exact ⟨ye hW f1 h1 h2,trivial⟩
  |cons v vs=>exact hx.elim
 cases vs5 with
 |nil=>exact ⟨d1,d2,d3,k4,k5,trivial⟩
 |cons v vs=>exact hd.elim
end
def F72:=And.intro zS (And.intro pt (And.intro ll (And.intro ic (And.intro cD (dN)))))
theorem F73:type_of%F72:=F72
theorem qr (e:GEst) (m:Int) (a b:Rat) (hm0: -1000<=m/\m<=1000) (hI:eIn e 1 2 24 12) (h0:bv e=0) (hmB:qB 2 (m:Rat)) (hmp:cx (enc (m:Rat))=(m:Rat)) (hn2:e.claims.length=2) (hcl:(eQ (az e) (m:Rat)).cl=[a,b]):aR prog 73 [.agg (aJ e),.one (.lit (.int .i64 m)),.agg (ai (enc a)),.agg (ai (enc b))] (one (.bool true)):=by
 refine aP func73 rfl (by decide) (N:=41) rfl (by simp) (R:=[.tmp 8]) rfl fun en k0=>?_
 refine awN ?_;simp only [F73,seval,ai,aJ];have hI0:=fV m (by omega) (by omega);have hD:=yb e (enc (m:Rat)) 1 2 24 12 hI (dT hmB);rw [hmp] at hD;simp only [dlR,h0,if_true,hn2] at hD;simp only [ai] at hI0 hD;refine awD (scq [1,3] (.two 2 8 (.two 3 8 (scT 4 4 (scq [16,19,20,23] .nil)) (scq [6] (scT 4 4 (scq [19,20,23] .nil)))) (scq [4,6] (scT 4 4 (scq [19,20,23] .nil))))) [0,0,0,0,0,0,0,0,0,0,0,0] ?_;simp only [F73,seval];refine ⟨?_,?_⟩
 ·refine ⟨_,hI0,(by first|rfl|simp [aU,aD,al,ax,A1.cells,ab ap]),?_⟩;try simp only [ak,F73,seval,ab ao,ab au]
  refine ⟨?_,?_⟩
  ·refine ⟨_,hD,(by first|rfl|simp [aD,al,ax,A1.cells,ab ap]),?_⟩;try simp only [ak,F73,seval]
   have q1:=go (enc a);have q2:=gv (enc a);have q3:=go (enc b);have q4:=gv (enc b);have hfl:aA cQ [a,b]=ai (enc a)++(ai (enc b)++[]):=rfl;simp only [ai,List.cons_append,List.nil_append] at hfl;refine awD (scT 0 22 .nil) [0,0,0,47,47,47,0,0,57,57,57,57,57,0,0,71,71,71,71,71,0,0] ?_;simp only [F73,seval,hcl,hfl,q1,q2,q3,q4];refine awX ?_;simp only [F73,seval];try simp
  refine ⟨_,hD,(by first|rfl|simp [aD,al,ax,A1.cells,ab ap]),?_⟩;try simp only [ak,F73,seval]
  have q1:=go (enc a);have q2:=gv (enc a);have q3:=go (enc b);have q4:=gv (enc b);have hfl:aA cQ [a,b]=ai (enc a)++(ai (enc b)++[]):=rfl;simp only [ai,List.cons_append,List.nil_append] at hfl;refine awD (scT 0 22 .nil) [0,0,0,47,47,47,0,0,57,57,57,57,57,0,0,71,71,71,71,71,0,0] ?_;simp only [F73,seval,hcl,hfl,q1,q2,q3,q4];refine awX ?_;simp only [F73,seval];try simp
 refine ⟨_,hI0,(by first|rfl|simp [aU,aD,al,ax,A1.cells,ab ap]),?_⟩;try simp only [ak,F73,seval,ab ao,ab au]
 refine ⟨_,hD,(by first|rfl|simp [aD,al,ax,A1.cells,ab ap]),?_⟩;try simp only [ak,F73,seval]
 have q1:=go (enc a);have q2:=gv (enc a);have q3:=go (enc b);have q4:=gv (enc b);have hfl:aA cQ [a,b]=ai (enc a)++(ai (enc b)++[]):=rfl;simp only [ai,List.cons_append,List.nil_append] at hfl;refine awD (scT 0 22 .nil) [0,0,0,47,47,47,0,0,57,57,57,57,57,0,0,71,71,71,71,71,0,0] ?_;simp only [F73,seval,hcl,hfl,q1,q2,q3,q4];refine awX ?_;simp only [F73,seval];try simp
theorem EZ {κ:Kx} {vs:List Value} (h:denVs κ vs [.lit (.bool false),.lit (.string ay),.lit (.string ay),.sh 5 2 [.lit (.int .i64 (-1)),.lit (.int .i64 2),.lit (.bool (enc ((60:Int):Rat)).neg),.lit (.string (enc ((60:Int):Rat)).num),.lit (.string (enc ((60:Int):Rat)).den),.lit (.int .i64 (-1)),.lit (.int .i64 2),.lit (.bool (enc ((40:Int):Rat)).neg),.lit (.string (enc ((40:Int):Rat)).num),.lit (.string (enc ((40:Int):Rat)).den)],.lit (.slice none 0 0)]):denVs κ vs (aJ (exE [])):=by
 obtain ⟨v1,vs1,rfl,d1,h⟩:=cv h;obtain ⟨v2,vs2,rfl,d2,h⟩:=cv h;obtain ⟨v3,vs3,rfl,d3,h⟩:=cv h;obtain ⟨v4,vs4,rfl,d4,h⟩:=cv h;obtain ⟨v5,vs5,rfl,d5,h⟩:=cv h;exact ⟨d1,d2,d3,d4,m5 1 d5,h⟩
def F74:=And.intro zS (And.intro tf2 (And.intro tv (And.intro mN (And.intro tw (And.intro tz (And.intro ic (And.intro HJ (And.intro HW (And.intro H5 (And.intro AX (And.intro xF (H6))))))))))))
theorem F75:type_of%F74:=F74
theorem Iy:aR prog 74 [.one (.lit (.slice none 0 0))] (.val (.agg (aJ (exE [])))):=by
 refine aP func74 rfl (by decide) (N:=18) rfl (by simp) (R:=[.cell 2 36]) rfl fun en k0=>?_
 refine awN ?_;simp only [F75,seval];have h60:=fV 60 (by decide) (by decide);have h40:=fV 40 (by decide) (by decide);simp only [ai] at h60 h40;refine awN ?_;simp only [F75,seval];refine ⟨_,h60,rfl,?_⟩;try simp only [ak,F75,seval]
 refine ⟨_,h40,rfl,?_⟩;try simp only [ak,F75,seval]
 refine awN ?_;simp only [F75,seval];refine awF ?_;refine awK ?_;simp only [F75,seval];refine dp 8 3 3 (by rfl) (by rfl) (by rfl) (by decide) (by show (5:Nat)≠0;decide) (by show (5:Nat)≠0;decide) rfl ?_;refine cm (dz 3 (aJ (exE [])) (by rfl) (by show (5:Nat)≠0;decide) (by rfl) (fun κ vs h=>EZ h)) ?_;simp only [F75,seval];refine awN ?_;simp only [F75,seval,aJ];refine awX ?_;simp only [F75,seval,ab ao,ab au];try simp [aJ,ab ao,ab au]
def F76:=And.intro zS (And.intro tf2 (And.intro tv (And.intro mN (And.intro tw (And.intro tz (And.intro ic (And.intro HJ (And.intro HW (And.intro H5 (And.intro AX (And.intro xF (H6))))))))))))
theorem F77:type_of%F76:=F76
theorem DD (H:Hp) (ny nt st:Nat) (hnt:∃B,H nt=some B/\B.st=st) (hbH:∀y B,H y=some B->y<700):cT prog 74 [.one (.own nt st 2 1)] H ny
  (fun res H' _=>∃sx sy s2 cs2,res= .val (.agg [.lit (.bool false),.lit (.string ay),.lit (.string ay),.own 708 sx 2 5,.own 715 sy 1 1])/\H'=bZ H [(702,⟨s2,36,5,1,cs2⟩),(708,⟨sx,38,5,2,aA b0 jd⟩),(715,⟨sy,50,1,1,[.own nt st 2 1]⟩)]):=by
 refine cF 700 func74 rfl (by decide) (N:=18) rfl (by simp) (Rl:=[.cell 2 36]) rfl fun en k0=>?_
 refine awN ?_;simp only [F77,seval];have h60:=fV 60 (by decide) (by decide);have h40:=fV 40 (by decide) (by decide);simp only [ai] at h60 h40;refine awN ?_;simp only [F77,seval];refine ⟨_,h60,rfl,?_⟩;try simp only [ak,F77,seval]
 refine ⟨_,h40,rfl,?_⟩;try simp only [ak,F77,seval]
 refine awN ?_;simp only [F77,seval];refine ⟨by obtain ⟨B,hB,hs⟩:=hnt;have:=hbH nt B hB;exact ⟨B,by (repeat rw [if_neg (by omega)]);exact hB,hs⟩,?_⟩;refine awT ?_;refine awN ?_;simp only [F77,seval];refine awN ?_;simp only [F77,seval];refine eC H [2] [702,708,715] (by intro y B h;right;have h9:=hbH y B h;simp only [aB];(repeat rw [if_neg (by omega)]);exact h) ?_;simp only [F77,seval];refine awX ?_;simp only [F77,seval];exact ⟨_,_,_,_,rfl,rfl⟩
theorem Iz (H:Hp) (ny nt st:Nat) (hnt:∃B,H nt=some B/\B.st=st) (hbH:∀y B,H y=some B->y<800):cT prog 74 [.one (.own nt st 2 1)] H ny
  (fun res H' _=>∃sx sy s2 cs2,res= .val (.agg [.lit (.bool false),.lit (.string ay),.lit (.string ay),.own 808 sx 2 5,.own 815 sy 1 1])/\H'=bZ H [(802,⟨s2,36,5,1,cs2⟩),(808,⟨sx,38,5,2,aA b0 jd⟩),(815,⟨sy,50,1,1,[.own nt st 2 1]⟩)]):=by
 refine cF 800 func74 rfl (by decide) (N:=18) rfl (by simp) (Rl:=[.cell 2 36]) rfl fun en k0=>?_
 refine awN ?_;simp only [F77,seval];have h60:=fV 60 (by decide) (by decide);have h40:=fV 40 (by decide) (by decide);simp only [ai] at h60 h40;refine awN ?_;simp only [F77,seval];refine ⟨_,h60,rfl,?_⟩;try simp only [ak,F77,seval]
 refine ⟨_,h40,rfl,?_⟩;try simp only [ak,F77,seval]
 refine awN ?_;simp only [F77,seval];refine ⟨by obtain ⟨B,hB,hs⟩:=hnt;have:=hbH nt B hB;exact ⟨B,by (repeat rw [if_neg (by omega)]);exact hB,hs⟩,?_⟩;refine awT ?_;refine awN ?_;simp only [F77,seval];refine awN ?_;simp only [F77,seval];refine eC H [2] [802,808,815] (by intro y B h;right;have h9:=hbH y B h;simp only [aB];(repeat rw [if_neg (by omega)]);exact h) ?_;simp only [F77,seval];refine awX ?_;simp only [F77,seval];exact ⟨_,_,_,_,rfl,rfl⟩
theorem cq (a b:GRat):DY prog 32 [.bool a.neg,.string a.num,.string a.den] [.bool b.neg,.string b.num,.string b.den]:=fun w=>⟨by
 obtain ⟨x,y,z⟩:=a;obtain ⟨x',y',z'⟩:=b;have h2:=run_equalIn_agg (P:=prog) w 9999 32 #[.bool x,.string y,.string z] #[.bool x',.string y',.string z'] (by kernel_rfl) (by kernel_rfl);have h3:(Op.equal 32 (.agg #[.bool x,.string y,.string z]) (.agg #[.bool x',.string y',.string z'])).run prog w=(Op.equalIn (9999+1) 32 (.agg #[.bool x,.string y,.string z]) (.agg #[.bool x',.string y',.string z'])).run prog w:=rfl;have hb:=fun (a b:Bool)=>run_equalIn_bool' (P:=prog) w 9998 4 a b (by kernel_rfl)
 have hs:∀a b:ByteArray,_:=fun (a b:ByteArray)=>(Bv a b)▸run_equalIn_string (P:=prog) w 9998 9 a b (by kernel_rfl)
 have p0:=lC #[.bool x,.string y,.string z] 0 _ rfl w;have p1:=gl #[.bool x,.string y,.string z] 1 _ rfl w;have p2:=gl #[.bool x,.string y,.string z] 2 _ rfl w;have q0:=lC #[.bool x',.string y',.string z'] 0 _ rfl w;have q1:=gl #[.bool x',.string y',.string z'] 1 _ rfl w;have q2:=gl #[.bool x',.string y',.string z'] 2 _ rfl w;show (Op.equal 32 (.agg #[.bool x,.string y,.string z]) (.agg #[.bool x',.string y',.string z'])).run prog w=_;rw [h3,h2,nQ];have n1 : ¬ "Neg" = "_" := by decide
 have n2 : ¬ "Num" = "_" := by decide
 have n3 : ¬ "Den" = "_" := by decide
 by_cases e1:x=x'
 ·subst e1;by_cases e2:y=y'
  ·subst e2;by_cases e3:z=z'
   ·subst e3;simp only [Op.eqFields,ne_eq,n1,n2,n3,not_false_eq_true,if_true,Sem.run_bind,p0,Result.andThen_ok];simp [hb,hs,p1,p2,jn,eqV]
   simp only [Op.eqFields,ne_eq,n1,n2,n3,not_false_eq_true,if_true,Sem.run_bind,p0,q0,Result.andThen_ok];simp [hb,hs,p1,p2,q1,q2,jn,eqV,e3]
  simp only [Op.eqFields,ne_eq,n1,n2,n3,not_false_eq_true,if_true,Sem.run_bind,p0,q0,Result.andThen_ok];simp [hb,hs,p1,q1,jn,eqV,e2]
 simp only [Op.eqFields,ne_eq,n1,n2,n3,not_false_eq_true,if_true,Sem.run_bind,p0,q0,Result.andThen_ok];simp [hb,jn,eqV,e1],by kernel_rfl⟩
theorem cr (p q:Rat):jn [.bool (enc p).neg,.string (enc p).num,.string (enc p).den] [.bool (enc q).neg,.string (enc q).num,.string (enc q).den]=decide (p=q):=by
 by_cases h:p=q
 ·subst h;simp [jn,eqV]
 have h2:enc p≠enc q:=fun e=>h (yP e)
 have h3:¬((enc p).neg=(enc q).neg/\(enc p).num=(enc q).num/\(enc p).den=(enc q).den):=fun ⟨a,b,c⟩=>h2 (by
  generalize enc p=x at *
  generalize enc q=y at *
  obtain ⟨x1,x2,x3⟩:=x;obtain ⟨y1,y2,y3⟩:=y;simp only at a b c;rw [a,b,c])
 simp only [h,decide_false];apply Bool.eq_false_iff.2;intro h4;simp only [jn,eqV,Bool.and_eq_true,beq_iff_eq,decide_eq_true_eq] at h4;exact h3 (by simpa using h4)
end Go.Proofs.YtokmkopihhnggaaGreatDoor
