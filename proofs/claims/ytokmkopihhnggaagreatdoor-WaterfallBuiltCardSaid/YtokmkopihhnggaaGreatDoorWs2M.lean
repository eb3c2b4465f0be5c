/- The waterfall: the slopes of what is delivered, the step to the next kink; walked by the abstract machine. -/
import Derived.Test.YtokmkopihhnggaaGreatDoorWraM
set_option linter.unusedVariables false
set_option maxHeartbeats 4000000
set_option maxRecDepth 100000
set_option linter.unusedSimpArgs false
set_option linter.defProp false
set_option linter.unusedSectionVars false
namespace Go.Proofs.YtokmkopihhnggaaGreatDoor
open Go Go.RowKit Go.Proofs.Tryz
noncomputable def stR (L:WL) (m:Rat):AV:= .tup [.agg (ai (enc (if bd L.ranks m then bJ L m else 0))),.one (.lit (.bool (decide (bd L.ranks m))))]
theorem Fc (p q:Rat) (hp:qB 50000000000 p) (hq:qB 50000000000 q):aU prog 36 [.agg (ai (enc p)),.agg (ai (enc q))] (.val (.agg (ai (enc (bT p q))))):=by
 have h:=Ki (enc p) (enc q) 50000000000 50000000000 (dj hp) (dj hq) (by decide) (by decide) (by decide) (by decide);rwa [cc,cc] at h
theorem nr (q:Rat) (h:qB 50000000000 q):aU prog 42 [.agg (ai (enc q))] (one (.int .i64 (cr q))):=by
 have hs:=dj h;have h:=Ak (enc q) (Nat.le_trans hs.1 (by decide)) (Nat.le_trans hs.2 (by decide));rwa [cc] at h
theorem lH (q:Rat):0<cr q↔0<q:=by unfold cr dQ;grind
theorem iX {K S M:Nat} {l:List WT} (h:wOK K S l) {m:Rat} (hm:qB M m) (ho:bd l m):qB (S+(M+l.length*(S+1))+1) (cA l m):=by
 have h1:=kw l m M (fun t ht=>(h.2 t ht).2.1) hm;have hgd:l.getD (aJ l m).1 []=l[(aJ l m).1]'ho:=by rw [List.getD_eq_getElem?_getD,List.getElem?_eq_getElem ho];rfl
 unfold cA;rw [hgd];exact (h.2 _ (List.getElem_mem ho)).2.1.sub h1
def F90:=And.intro zS (And.intro Au (And.intro wt (And.intro wu (And.intro Ap (And.intro sT (And.intro DV (And.intro jW (And.intro wv (And.intro cG (And.intro wy (And.intro qp (And.intro ws (And.intro d7 (sV))))))))))))))
theorem F91:type_of%F90:=F90
theorem zu (L:WL) (m:Rat) (K Sm M Z G K2 S2 Z2:Nat) (hB:delB L K Sm M Z G K2 S2 Z2) (hM0:0<M) (hM:qB M m):aU prog 91 [.agg (ck L),.agg (ai (enc m))] (xF L.count (cn L m)):=by
 have hGg:=hB.g;have hGz:=hB.gz;have hGb:=hB.gb;have hBb:G+rA L.pools*(Z2+1)<=50000000000:=hB.b;have hG0:0<G:=by omega
 have hLn:=hB.n;have hLp:=hB.pn;refine aT func91 rfl (by decide) (N:=46) rfl (by simp) (R:=[.tmp 4,.cell 5 32]) rfl fun en k0=>?_
 refine awN ?_;simp only [F91,seval,ai,ck];have hG:=nl L m K Sm M Z (by have:=hB.n;omega) hB.rk hB.rin hM hB.z (by omega) (by have:=hB.zb;omega);have hR:=Bi L m K Sm M Z (by have:=hB.n;omega) hB.rk hB.rin hM (by have:=hB.z;have:=hB.zb;omega) (by have:=hB.z;omega) (by omega) (by have:=hB.zb;omega);simp only [ai] at hG hR;refine awD (scq [1,3,7,9,4,10,13,15] .nil) [0,0,0,0,0,0,0,0] ?_;simp only [F91,seval,ab az,ab ax];refine ⟨_,hG,(by first|rfl|simp [al,aw,ab aq]),?_⟩;try simp only [ak,F91,seval,ab az,ab ax]
 refine ⟨_,hR,(by first|rfl|simp [al,aw,ab aq]),?_⟩;try simp only [ak,F91,seval]
 have hgl:=iq L m;have hgB:=np hB hM;have hkl:=jN L m;have hkB:=xK hB hM0 m;obtain ⟨g,hg⟩:∃g,aX L m=g:=⟨_,rfl⟩;obtain ⟨kk,hk⟩:∃g,bg L m=g:=⟨_,rfl⟩;rw [hg] at hgl hgB;rw [hk] at hkl hkB;rw [hg,hk];refine awR [19] [0,0,0,0] ?_;simp only [F91,seval];refine ⟨_,E7 L kk _ _ hkl (by have:=hB.n;omega) hB.pn (fun p hp=>⟨(hB.pl p hp).2.2.1,(hB.pl p hp).2.2.2⟩) (fun y B h=>?_),?_⟩
 ·by_cases hy:y<37
  ·exact hy
  exfalso;simp only [ap] at h;repeat rw [if_neg (by omega)] at h
  cases h
 rintro res H' nx' ⟨s,sc,rfl,rfl⟩;simp only [F91,seval];obtain ⟨nx9,hnx9⟩:∃n,nx'=n:=⟨_,rfl⟩;simp only [hnx9];refine awN ?_;simp only [F91,seval,ai];have hR0:(⟨cO L.pools kk,0⟩:WR).B (G+0*(Z2+1)):=⟨fun x hx=>(uV (by omega) L.pools kk hkB x hx).mono (by omega),ce.mono (by omega)⟩;have hR1:(⟨cO L.pools kk,0⟩:WR).cl.length=L.count:=by show (cO L.pools kk).length=_;rw [ee];exact hkl
 refine aS [5,6,7,8,21,22,23] [50,48,5] ?_;try simp only [ak,F91,seval]
 repeat' first|apply awS|apply awB
 refine aM (fun n st=>∃i0 R w nx,i0<=L.pools.length/\n=L.pools.length-i0/\dX g kk (L.pools.drop i0) R=dX g kk L.pools ⟨cO L.pools kk,0⟩/\R.cl.length=L.count/\R.B (G+w*(Z2+1))/\w+rA (L.pools.drop i0)=rA L.pools/\st=⟨mkT [(5,.val (.one (.ptr 5 2 0))),(6,.val (.one (.sh 3 L.count (ar cQ g)))),(7,.val (.one (.sh 3 L.count (ar cQ kk)))),(8,.val (.one (.ptr 50 s 0))),(21,.val (.one (.sh 2 L.pools.length (ar dv L.pools)))),(22,one (.int .i64 L.pools.length)),(23,one (.int .i64 i0))],mkH [(50,⟨s,200,4,1,.own 48 sc L.count 3::ai (enc R.rv)⟩),(48,⟨sc,32,3,L.count,ar cQ R.cl⟩),(5,⟨2,32,3,1,[.lit (.bool false),.lit (.string aA),.lit (.string aA)]⟩)],nx,0⟩) (L.pools.length) ⟨0,⟨cO L.pools kk,0⟩,0,_,by omega,by omega,by rfl,(by first|omega|assumption|rfl|simp|(simp;omega)),(by first|omega|assumption|rfl|simp|(simp;omega)),(by first|omega|assumption|rfl|simp|(simp;omega)),rfl⟩ ?_;rintro n0 st ⟨i0,R,w,nx0,hk0,rfl,hL0,hV0_1,hV0_2,hV0_3,rfl⟩;by_cases hlt0:i0<L.pools.length
 ·have hI0:(i0:Int)<(L.pools.length:Int):=by omega
  have hat0:=aO lv L.pools i0 hlt0;try rw [Nat.mul_one] at hat0
  rw [List.drop_eq_getElem_cons hlt0] at hL0;have hpp:=hB.pl _ (List.getElem_mem hlt0);have hpz:=hB.pz _ (List.getElem_mem hlt0);have hw0:=hV0_3;rw [List.drop_eq_getElem_cons hlt0,tI] at hw0;have hmw:(w+wN (L.pools[i0]).2)*(Z2+1)=w*(Z2+1)+wN (L.pools[i0]).2*(Z2+1):=Nat.add_mul _ _ _;have hm1:(w+wN (L.pools[i0]).2)*(Z2+1)<=rA L.pools*(Z2+1):=Nat.mul_le_mul_right _ (by omega);have hnl:=iv (L.pools[i0]).2 (aQ g (L.pools[i0]).1) (aQ kk (L.pools[i0]).1) R;have hnx:=(xJ hpp.1 (aQ g (L.pools[i0]).1) (iW hkB (by omega) (L.pools[i0]).1) hV0_2).mono (n:=G+(w+wN (L.pools[i0]).2)*(Z2+1)) (by have h7:wN (L.pools[i0]).2*(K2+(1+(L.pools[i0]).1.length*(G+1)+S2)+1)<=wN (L.pools[i0]).2*(Z2+1):=Nat.mul_le_mul_left _ (by omega);omega);generalize L.pools[i0]=p at *
  simp only [dX] at hL0;refine awN ?_;simp only [F91,seval,ai,hI0];refine awT ?_;refine awK ?_;simp only [F91,seval];refine awN ?_;simp only [F91,seval,hI0,hat0,dv];repeat refine ob ?_
  have hT:=m6 p g L.count hgl G (fun i hi=>by have:=hpp.2.2.2 i hi;omega) hgB (by omega) (by have:=hpp.2.2.1;omega) (by omega) (by have h8:=Nat.mul_le_mul hpp.2.2.1 (show G+1<=40000001 by omega);omega);simp only [dv,ai] at hT;have hU:=m6 p kk L.count hkl G (fun i hi=>by have:=hpp.2.2.2 i hi;omega) hkB (by omega) (by have:=hpp.2.2.1;omega) (by omega) (by have h8:=Nat.mul_le_mul hpp.2.2.1 (show G+1<=40000001 by omega);omega);simp only [dv,ai] at hU;have hTB:=iW hgB (by omega) p.1;have hUB:=iW hkB (by omega) p.1;have hRn:=hV0_1;have hRB:=hV0_2;repeat' first|apply awS|apply awB
  refine cm [36] (by kernel_rfl) (.cons 0 true (.cons 1 true (.cons 2 true (.cons 3 true (.cons 5 true (.cons 6 true (.cons 8 true (.cons 4 false (.cons 7 false (.cons 9 false .nil)))))))))) (by kernel_rfl) (gs:=[none,none,none,none,none,none,none,none,none,none]) (by kernel_rfl) (by simp only [zT,seval];rfl) (by decide) ?_;simp only [F91,seval,ab aq,ab az,ab bm,(id SD),(id SD)];refine ⟨_,hT,(by first|rfl|simp [a8,aK,al,aw,A1.cells,ab aq,ab bm,ab az]),?_⟩;try simp only [ak,F91,seval,ab aq,ab az,ab bm,(id SD)]
  refine ⟨_,hU,(by first|rfl|simp [a8,aK,al,aw,A1.cells,ab aq,ab bm,ab az]),?_⟩;try simp only [ak,F91,seval,(id SD)]
  refine ⟨_,Bh _ _ s sc L.count R p.2 (aQ g p.1) (aQ kk p.1) K2 S2 (1+p.1.length*(G+1)) (1+p.1.length*(G+1)) (G+w*(Z2+1)) Z2 (by rfl) (by rfl) hRn (fun y B h=>?_) (by have:=hB.n;omega) hpp.1 hpp.2.1 hTB (by have:=hB.zb;omega) hUB hRB (by omega) (by omega) hB.zb,?_⟩
  ·by_cases hy:y<7000
   ·exact hy
   exfalso;simp only [ap] at h;repeat rw [if_neg (by omega)] at h
   cases h
  rintro res H' nx' ⟨rfl,hW⟩;simp only [F91,seval,(id SD)];refine cq hW ?_;simp only [F91,seval];refine awN ?_;simp only [F91,seval,ai];repeat refine ob ?_
  refine ⟨_,aC [5,6,7,8,21,22,23] [50,48,5],L.pools.length-(i0+1),by omega,i0+1,(cZ p.2 (aQ g p.1) (aQ kk p.1) R),(w+wN p.2),?a8_nx,by omega,rfl,?i8_0,?i8_1,?i8_2,?i8_3,?st8⟩;case st8=>(simp only [F91,seval];first|rfl|(simp [hI0,hat0,Nat.add_mul];done))
  case i8_0=>(first|exact hL0|(rw [←hL0];simp only [reduceIte,hI0,hat0];done)|(rw [←hL0];simp [hI0,hat0];done)|(simp [hI0,hat0] at hL0;simpa using hL0)|(rw [←hL0];simp [*];done))
  all_goals (first|omega|assumption|(simp;omega)|(simp_all;done))
 obtain rfl:i0=L.pools.length:=by omega
 have hI0:¬(L.pools.length:Int)<(L.pools.length:Int):=by omega
 rw [List.drop_length] at hL0;simp only [dX] at hL0;refine awN ?_;simp only [F91,seval,ai,hI0];refine awF ?_;refine awQ ?_;simp only [F91,seval];refine bE 48 50 0 (by rfl) (by rfl) (by rfl) (by decide) (by show (3:Nat)≠0;decide) (by show (4:Nat)≠0;decide) rfl ?_;simp only [F91,seval];refine awD (scT 0 9 (scq [18] .nil)) [0,0,0,0,0,0,0,0,0,0] ?_;simp only [F91,seval];refine awX ?_;simp only [F91,seval,ab aq];have hd:cn L m=R:=by unfold cn;rw [hg,hk,hL0]
 simp [xF,hd,ai]
def F92:=And.intro zS (And.intro Au (And.intro wt (And.intro Aq (And.intro wu (And.intro Ap (And.intro wv (And.intro cG (And.intro wy (And.intro qp (And.intro ws (And.intro iy (And.intro d7 (sV)))))))))))))
theorem F93:type_of%F92:=F92
theorem JA (L:WL) (m:Rat) (K Sm M Z G K2 S2 Z2:Nat) (hB:delB L K Sm M Z G K2 S2 Z2) (hM0:0<M) (hM:qB M m) (hZ4:Z2<=10000000000):aU prog 139 [.agg (ck L),.agg (ai (enc m))] (stR L m):=by
 have hGg:=hB.g;have hGz:=hB.gz;have hGb:=hB.gb;have hBb:G+rA L.pools*(Z2+1)<=50000000000:=hB.b;have hG0:0<G:=by omega
 have hLn:=hB.n;have hLp:=hB.pn;refine aT func139 rfl (by decide) (N:=69) rfl (by simp) (R:=[.cell 4 32,.tmp 5]) rfl fun en k0=>?_
 refine awN ?_;simp only [F93,seval,ai,ck];have hA:=Hu L.ranks m K Sm M hB.rk hM (by have:=hB.z;have:=hB.zb;omega) (by have:=hB.z;have:=hB.zb;omega);simp only [gpR,ai] at hA;refine awN ?_;simp only [F93,seval,ab az];refine ⟨_,hA,(by first|rfl|simp [a8,aK,al,aw,A1.cells,ab aq,ab bm,ab az,ab ax]),?_⟩;try simp only [ak,F93,seval]
 by_cases ho:bd L.ranks m
 ·refine awN ?_;simp only [F93,seval,ho];refine awF ?_;refine awK ?_;simp only [F93,seval];have hG:=nl L m K Sm M Z (by have:=hB.n;omega) hB.rk hB.rin hM hB.z (by omega) (by have:=hB.zb;omega);have hR:=Bi L m K Sm M Z (by have:=hB.n;omega) hB.rk hB.rin hM (by have:=hB.z;have:=hB.zb;omega) (by have:=hB.z;omega) (by omega) (by have:=hB.zb;omega);simp only [ai] at hG hR;refine awD (scq [1,3,7,9,4,10,13,15] .nil) [0,0,0,0,0,0,0,0] ?_;simp only [F93,seval,ab az,ab ax];refine ⟨_,hG,(by first|rfl|simp [al,aw,ab aq]),?_⟩;try simp only [ak,F93,seval,ab az,ab ax]
  refine ⟨_,hR,(by first|rfl|simp [al,aw,ab aq]),?_⟩;try simp only [ak,F93,seval]
  have hgl:=iq L m;have hgB:=np hB hM;have hkl:=jN L m;have hkB:=xK hB hM0 m;obtain ⟨g,hg⟩:∃g,aX L m=g:=⟨_,rfl⟩;obtain ⟨kk,hk⟩:∃g,bg L m=g:=⟨_,rfl⟩;rw [hg] at hgl hgB;rw [hk] at hkl hkB;rw [hg,hk];refine awN ?_;simp only [F93,seval];have hgap0:qB 50000000000 (cA L.ranks m):=(iX hB.rk hM ho).mono (by have:=hB.z;have:=hB.zb;omega);refine aS [4,6,8,9,34,35,36] [4,6] ?_;try simp only [ak,F93,seval]
  repeat' first|apply awS|apply awB
  refine aM (fun n st=>∃i0 out nx,i0<=L.pools.length/\n=L.pools.length-i0/\eW g kk (L.pools.drop i0) out=eW g kk L.pools (cA L.ranks m)/\qB 50000000000 out/\st=⟨mkT [(4,.val (.one (.ptr 4 2 0))),(6,.val (.one (.ptr 6 3 0))),(8,.val (.one (.sh 3 L.count (ar cQ g)))),(9,.val (.one (.sh 3 L.count (ar cQ kk)))),(34,.val (.one (.sh 2 L.pools.length (ar dv L.pools)))),(35,one (.int .i64 L.pools.length)),(36,one (.int .i64 i0))],mkH [(4,⟨2,32,3,1,[.lit (.bool false),.lit (.string aA),.lit (.string aA)]⟩),(6,⟨3,32,3,1,ai (enc out)⟩)],nx,0⟩) (L.pools.length) ⟨0,(cA L.ranks m),_,by omega,by omega,by rfl,(by first|omega|assumption|rfl|simp|(simp;omega)),rfl⟩ ?_;rintro n0 st ⟨i0,out,nx0,hk0,rfl,hL0,hV0_1,rfl⟩;by_cases hlt0:i0<L.pools.length
  ·have hI0:(i0:Int)<(L.pools.length:Int):=by omega
   have hat0:=aO lv L.pools i0 hlt0;try rw [Nat.mul_one] at hat0
   rw [List.drop_eq_getElem_cons hlt0] at hL0;have hpp:=hB.pl _ (List.getElem_mem hlt0);have hpz:=hB.pz _ (List.getElem_mem hlt0);have hVo:=hV0_1;have hTB:=iW hgB (by omega) (L.pools[i0]).1;have hUB:=iW hkB (by omega) (L.pools[i0]).1;generalize L.pools[i0]=p at *
   simp only [eW] at hL0;refine awN ?_;simp only [F93,seval,ai,hI0];refine awT ?_;refine awK ?_;simp only [F93,seval];refine awN ?_;simp only [F93,seval,hI0,hat0,dv];repeat refine ob ?_
   have hU:=m6 p kk L.count hkl G (fun i hi=>by have:=hpp.2.2.2 i hi;omega) hkB (by omega) (by have:=hpp.2.2.1;omega) (by omega) (by have h8:=Nat.mul_le_mul hpp.2.2.1 (show G+1<=40000001 by omega);omega);simp only [dv,ai] at hU;refine awN ?_;simp only [F93,seval,ab aq,ab az,ab bm];refine ⟨_,hU,(by first|rfl|simp [a8,aK,al,aw,A1.cells,ab aq,ab bm,ab az,ab ax]),?_⟩;try simp only [ak,F93,seval]
   have hT:=m6 p g L.count hgl G (fun i hi=>by have:=hpp.2.2.2 i hi;omega) hgB (by omega) (by have:=hpp.2.2.1;omega) (by omega) (by have h8:=Nat.mul_le_mul hpp.2.2.1 (show G+1<=40000001 by omega);omega);simp only [dv,ai] at hT;have hGp:=Hu p.2 (aQ g p.1) K2 S2 (1+p.1.length*(G+1)) hpp.1 hTB (by have:=hB.zb;omega) (by have:=hB.zb;omega);simp only [gpR,ai] at hGp;refine awD (scT 0 4 (.two 4 9 (.two 5 9 (scq [13,15,17,18,20,23] .nil) (scq [10,13,15,17,20,23] .nil)) (scq [8,10,13,15,17,20,23] .nil))) [0,0,0,0,0,0,0,0,0,0,0,0] ?_;simp only [F93,seval,ab aq,ab az,ab bm];refine ⟨?_,?_⟩
   ·refine ⟨_,hT,(by first|rfl|simp [a8,aK,al,aw,A1.cells,ab aq,ab bm,ab az,ab ax]),?_⟩;try simp only [ak,F93,seval,ab az]
    refine ⟨?_,?_⟩
    ·refine ⟨_,hGp,(by first|rfl|simp [a8,aK,al,aw,A1.cells,ab aq,ab bm,ab az,ab ax]),?_⟩;try simp only [ak,F93,seval]
     by_cases hop:bd p.2 (aQ g p.1)
     ·by_cases hps:0<cr (aQ kk p.1)
      ·have hpq:0<aQ kk p.1:=(lH _).1 hps;have hSg:=nr (aQ kk p.1) (hUB.mono (by have:=hB.zb;omega));simp only [ai] at hSg;refine awR [] [0,0,109,109,109,0] ?_;simp only [F93,seval,hop];refine ⟨_,hSg,(by first|rfl|simp [a8,aK,al,aw,A1.cells,ab aq,ab bm,ab az,ab ax]),?_⟩;try simp only [ak,F93,seval,hps]
       refine awT ?_;have hDv:=Gy (cA p.2 (aQ g p.1)) (aQ kk p.1) (S2+(1+p.1.length*(G+1)+p.2.length*(S2+1))+1) (1+p.1.length*(G+1)) (iX hpp.1 hTB hop) hUB (by have:=hB.zb;omega) (by have:=hB.zb;omega);simp only [ai] at hDv;refine awN ?_;simp only [F93,seval];refine ⟨_,hDv,(by first|rfl|simp [a8,aK,al,aw,A1.cells,ab aq,ab bm,ab az,ab ax]),?_⟩;try simp only [ak,F93,seval]
       have hMn:=Fc out (cA p.2 (aQ g p.1)/aQ kk p.1) hVo (((iX hpp.1 hTB hop).div hUB).mono (by have:=hB.zb;omega));simp only [ai] at hMn;have hnx:qB 50000000000 (bT out (cA p.2 (aQ g p.1)/aQ kk p.1)):=by unfold bT;split<;>first|exact hVo|exact ((iX hpp.1 hTB hop).div hUB).mono (by have:=hB.zb;omega)
       refine awN ?_;simp only [F93,seval];refine ⟨_,hMn,(by first|rfl|simp [a8,aK,al,aw,A1.cells,ab aq,ab bm,ab az,ab ax]),?_⟩;try simp only [ak,F93,seval]
       refine awN ?_;simp only [F93,seval];repeat refine ob ?_
       refine ⟨_,aC [4,6,8,9,34,35,36] [4,6],L.pools.length-(i0+1),by omega,i0+1,(bT out (cA p.2 (aQ g p.1)/aQ kk p.1)),?a13_nx,by omega,rfl,?i13_0,?i13_1,?st13⟩;case st13=>(simp only [F93,seval];first|rfl|(simp [ho,hI0,hat0,hop,hps,hpq,Nat.add_mul];done))
       case i13_0=>(first|exact hL0|(rw [←hL0];simp only [reduceIte,hop,hpq];done)|(rw [←hL0];simp [hop,hpq];done)|(simp [ho,hI0,hat0,hop,hps,hpq] at hL0;simpa using hL0)|(rw [←hL0];simp [*];done))
       all_goals (first|omega|assumption|(simp;omega)|(simp_all;done))
      have hpq:¬0<aQ kk p.1:=fun h=>hps ((lH _).2 h)
      have hSg:=nr (aQ kk p.1) (hUB.mono (by have:=hB.zb;omega));simp only [ai] at hSg;refine awR [] [0,0,109,109,109,0] ?_;simp only [F93,seval,hop];refine ⟨_,hSg,(by first|rfl|simp [a8,aK,al,aw,A1.cells,ab aq,ab bm,ab az,ab ax]),?_⟩;try simp only [ak,F93,seval,hps]
      refine awF ?_;refine awK ?_;simp only [F93,seval];refine awN ?_;simp only [F93,seval];repeat refine ob ?_
      refine ⟨_,aC [4,6,8,9,34,35,36] [4,6],L.pools.length-(i0+1),by omega,i0+1,(out),?a16_nx,by omega,rfl,?i16_0,?i16_1,?st16⟩;case st16=>(simp only [F93,seval];first|rfl|(simp [ho,hI0,hat0,hop,hps,hpq,Nat.add_mul];done))
      case i16_0=>(first|exact hL0|(rw [←hL0];simp only [reduceIte,hop,hpq];done)|(rw [←hL0];simp [hop,hpq];done)|(simp [ho,hI0,hat0,hop,hps,hpq] at hL0;simpa using hL0)|(rw [←hL0];simp [*];done))
      all_goals (first|omega|assumption|(simp;omega)|(simp_all;done))
     have hSg:=nr (aQ kk p.1) (hUB.mono (by have:=hB.zb;omega));simp only [ai] at hSg;refine awR [] [0,0,109,109,109,0] ?_;simp only [F93,seval,hop];refine awF ?_;refine awK ?_;simp only [F93,seval];refine awN ?_;simp only [F93,seval];repeat refine ob ?_
     refine ⟨_,aC [4,6,8,9,34,35,36] [4,6],L.pools.length-(i0+1),by omega,i0+1,(out),?a19_nx,by omega,rfl,?i19_0,?i19_1,?st19⟩;case st19=>(simp only [F93,seval];first|rfl|(simp [ho,hI0,hat0,hop,Nat.add_mul];done))
     case i19_0=>(first|exact hL0|(rw [←hL0];simp only [reduceIte,hop];done)|(rw [←hL0];simp [hop];done)|(simp [ho,hI0,hat0,hop] at hL0;simpa using hL0)|(rw [←hL0];simp [*];done))
     all_goals (first|omega|assumption|(simp;omega)|(simp_all;done))
    refine ⟨_,hGp,(by first|rfl|simp [a8,aK,al,aw,A1.cells,ab aq,ab bm,ab az,ab ax]),?_⟩;try simp only [ak,F93,seval]
    by_cases hop:bd p.2 (aQ g p.1)
    ·by_cases hps:0<cr (aQ kk p.1)
     ·have hpq:0<aQ kk p.1:=(lH _).1 hps;have hSg:=nr (aQ kk p.1) (hUB.mono (by have:=hB.zb;omega));simp only [ai] at hSg;refine awR [] [0,0,109,109,109,0] ?_;simp only [F93,seval,hop];refine ⟨_,hSg,(by first|rfl|simp [a8,aK,al,aw,A1.cells,ab aq,ab bm,ab az,ab ax]),?_⟩;try simp only [ak,F93,seval,hps]
      refine awT ?_;have hDv:=Gy (cA p.2 (aQ g p.1)) (aQ kk p.1) (S2+(1+p.1.length*(G+1)+p.2.length*(S2+1))+1) (1+p.1.length*(G+1)) (iX hpp.1 hTB hop) hUB (by have:=hB.zb;omega) (by have:=hB.zb;omega);simp only [ai] at hDv;refine awN ?_;simp only [F93,seval];refine ⟨_,hDv,(by first|rfl|simp [a8,aK,al,aw,A1.cells,ab aq,ab bm,ab az,ab ax]),?_⟩;try simp only [ak,F93,seval]
      have hMn:=Fc out (cA p.2 (aQ g p.1)/aQ kk p.1) hVo (((iX hpp.1 hTB hop).div hUB).mono (by have:=hB.zb;omega));simp only [ai] at hMn;have hnx:qB 50000000000 (bT out (cA p.2 (aQ g p.1)/aQ kk p.1)):=by unfold bT;split<;>first|exact hVo|exact ((iX hpp.1 hTB hop).div hUB).mono (by have:=hB.zb;omega)
      refine awN ?_;simp only [F93,seval];refine ⟨_,hMn,(by first|rfl|simp [a8,aK,al,aw,A1.cells,ab aq,ab bm,ab az,ab ax]),?_⟩;try simp only [ak,F93,seval]
      refine awN ?_;simp only [F93,seval];repeat refine ob ?_
      refine ⟨_,aC [4,6,8,9,34,35,36] [4,6],L.pools.length-(i0+1),by omega,i0+1,(bT out (cA p.2 (aQ g p.1)/aQ kk p.1)),?a24_nx,by omega,rfl,?i24_0,?i24_1,?st24⟩;case st24=>(simp only [F93,seval];first|rfl|(simp [ho,hI0,hat0,hop,hps,hpq,Nat.add_mul];done))
      case i24_0=>(first|exact hL0|(rw [←hL0];simp only [reduceIte,hop,hpq];done)|(rw [←hL0];simp [hop,hpq];done)|(simp [ho,hI0,hat0,hop,hps,hpq] at hL0;simpa using hL0)|(rw [←hL0];simp [*];done))
      all_goals (first|omega|assumption|(simp;omega)|(simp_all;done))
     have hpq:¬0<aQ kk p.1:=fun h=>hps ((lH _).2 h)
     have hSg:=nr (aQ kk p.1) (hUB.mono (by have:=hB.zb;omega));simp only [ai] at hSg;refine awR [] [0,0,109,109,109,0] ?_;simp only [F93,seval,hop];refine ⟨_,hSg,(by first|rfl|simp [a8,aK,al,aw,A1.cells,ab aq,ab bm,ab az,ab ax]),?_⟩;try simp only [ak,F93,seval,hps]
     refine awF ?_;refine awK ?_;simp only [F93,seval];refine awN ?_;simp only [F93,seval];repeat refine ob ?_
     refine ⟨_,aC [4,6,8,9,34,35,36] [4,6],L.pools.length-(i0+1),by omega,i0+1,(out),?a27_nx,by omega,rfl,?i27_0,?i27_1,?st27⟩;case st27=>(simp only [F93,seval];first|rfl|(simp [ho,hI0,hat0,hop,hps,hpq,Nat.add_mul];done))
     case i27_0=>(first|exact hL0|(rw [←hL0];simp only [reduceIte,hop,hpq];done)|(rw [←hL0];simp [hop,hpq];done)|(simp [ho,hI0,hat0,hop,hps,hpq] at hL0;simpa using hL0)|(rw [←hL0];simp [*];done))
     all_goals (first|omega|assumption|(simp;omega)|(simp_all;done))
    have hSg:=nr (aQ kk p.1) (hUB.mono (by have:=hB.zb;omega));simp only [ai] at hSg;refine awR [] [0,0,109,109,109,0] ?_;simp only [F93,seval,hop];refine awF ?_;refine awK ?_;simp only [F93,seval];refine awN ?_;simp only [F93,seval];repeat refine ob ?_
    refine ⟨_,aC [4,6,8,9,34,35,36] [4,6],L.pools.length-(i0+1),by omega,i0+1,(out),?a30_nx,by omega,rfl,?i30_0,?i30_1,?st30⟩;case st30=>(simp only [F93,seval];first|rfl|(simp [ho,hI0,hat0,hop,Nat.add_mul];done))
    case i30_0=>(first|exact hL0|(rw [←hL0];simp only [reduceIte,hop];done)|(rw [←hL0];simp [hop];done)|(simp [ho,hI0,hat0,hop] at hL0;simpa using hL0)|(rw [←hL0];simp [*];done))
    all_goals (first|omega|assumption|(simp;omega)|(simp_all;done))
   refine ⟨_,hT,(by first|rfl|simp [a8,aK,al,aw,A1.cells,ab aq,ab bm,ab az,ab ax]),?_⟩;try simp only [ak,F93,seval,ab az]
   refine ⟨_,hGp,(by first|rfl|simp [a8,aK,al,aw,A1.cells,ab aq,ab bm,ab az,ab ax]),?_⟩;try simp only [ak,F93,seval]
   by_cases hop:bd p.2 (aQ g p.1)
   ·by_cases hps:0<cr (aQ kk p.1)
    ·have hpq:0<aQ kk p.1:=(lH _).1 hps;have hSg:=nr (aQ kk p.1) (hUB.mono (by have:=hB.zb;omega));simp only [ai] at hSg;refine awR [] [0,0,109,109,109,0] ?_;simp only [F93,seval,hop];refine ⟨_,hSg,(by first|rfl|simp [a8,aK,al,aw,A1.cells,ab aq,ab bm,ab az,ab ax]),?_⟩;try simp only [ak,F93,seval,hps]
     refine awT ?_;have hDv:=Gy (cA p.2 (aQ g p.1)) (aQ kk p.1) (S2+(1+p.1.length*(G+1)+p.2.length*(S2+1))+1) (1+p.1.length*(G+1)) (iX hpp.1 hTB hop) hUB (by have:=hB.zb;omega) (by have:=hB.zb;omega);simp only [ai] at hDv;refine awN ?_;simp only [F93,seval];refine ⟨_,hDv,(by first|rfl|simp [a8,aK,al,aw,A1.cells,ab aq,ab bm,ab az,ab ax]),?_⟩;try simp only [ak,F93,seval]
     have hMn:=Fc out (cA p.2 (aQ g p.1)/aQ kk p.1) hVo (((iX hpp.1 hTB hop).div hUB).mono (by have:=hB.zb;omega));simp only [ai] at hMn;have hnx:qB 50000000000 (bT out (cA p.2 (aQ g p.1)/aQ kk p.1)):=by unfold bT;split<;>first|exact hVo|exact ((iX hpp.1 hTB hop).div hUB).mono (by have:=hB.zb;omega)
     refine awN ?_;simp only [F93,seval];refine ⟨_,hMn,(by first|rfl|simp [a8,aK,al,aw,A1.cells,ab aq,ab bm,ab az,ab ax]),?_⟩;try simp only [ak,F93,seval]
     refine awN ?_;simp only [F93,seval];repeat refine ob ?_
     refine ⟨_,aC [4,6,8,9,34,35,36] [4,6],L.pools.length-(i0+1),by omega,i0+1,(bT out (cA p.2 (aQ g p.1)/aQ kk p.1)),?a35_nx,by omega,rfl,?i35_0,?i35_1,?st35⟩;case st35=>(simp only [F93,seval];first|rfl|(simp [ho,hI0,hat0,hop,hps,hpq,Nat.add_mul];done))
     case i35_0=>(first|exact hL0|(rw [←hL0];simp only [reduceIte,hop,hpq];done)|(rw [←hL0];simp [hop,hpq];done)|(simp [ho,hI0,hat0,hop,hps,hpq] at hL0;simpa using hL0)|(rw [←hL0];simp [*];done))
     all_goals (first|omega|assumption|(simp;omega)|(simp_all;done))
    have hpq:¬0<aQ kk p.1:=fun h=>hps ((lH _).2 h)
    have hSg:=nr (aQ kk p.1) (hUB.mono (by have:=hB.zb;omega));simp only [ai] at hSg;refine awR [] [0,0,109,109,109,0] ?_;simp only [F93,seval,hop];refine ⟨_,hSg,(by first|rfl|simp [a8,aK,al,aw,A1.cells,ab aq,ab bm,ab az,ab ax]),?_⟩;try simp only [ak,F93,seval,hps]
    refine awF ?_;refine awK ?_;simp only [F93,seval];refine awN ?_;simp only [F93,seval];repeat refine ob ?_
    refine ⟨_,aC [4,6,8,9,34,35,36] [4,6],L.pools.length-(i0+1),by omega,i0+1,(out),?a38_nx,by omega,rfl,?i38_0,?i38_1,?st38⟩;case st38=>(simp only [F93,seval];first|rfl|(simp [ho,hI0,hat0,hop,hps,hpq,Nat.add_mul];done))
    case i38_0=>(first|exact hL0|(rw [←hL0];simp only [reduceIte,hop,hpq];done)|(rw [←hL0];simp [hop,hpq];done)|(simp [ho,hI0,hat0,hop,hps,hpq] at hL0;simpa using hL0)|(rw [←hL0];simp [*];done))
    all_goals (first|omega|assumption|(simp;omega)|(simp_all;done))
   have hSg:=nr (aQ kk p.1) (hUB.mono (by have:=hB.zb;omega));simp only [ai] at hSg;refine awR [] [0,0,109,109,109,0] ?_;simp only [F93,seval,hop];refine awF ?_;refine awK ?_;simp only [F93,seval];refine awN ?_;simp only [F93,seval];repeat refine ob ?_
   refine ⟨_,aC [4,6,8,9,34,35,36] [4,6],L.pools.length-(i0+1),by omega,i0+1,(out),?a41_nx,by omega,rfl,?i41_0,?i41_1,?st41⟩;case st41=>(simp only [F93,seval];first|rfl|(simp [ho,hI0,hat0,hop,Nat.add_mul];done))
   case i41_0=>(first|exact hL0|(rw [←hL0];simp only [reduceIte,hop];done)|(rw [←hL0];simp [hop];done)|(simp [ho,hI0,hat0,hop] at hL0;simpa using hL0)|(rw [←hL0];simp [*];done))
   all_goals (first|omega|assumption|(simp;omega)|(simp_all;done))
  obtain rfl:i0=L.pools.length:=by omega
  have hI0:¬(L.pools.length:Int)<(L.pools.length:Int):=by omega
  rw [List.drop_length] at hL0;simp only [eW] at hL0;refine awN ?_;simp only [F93,seval,ai,hI0];refine awF ?_;refine awQ ?_;simp only [F93,seval];refine awN ?_;simp only [F93,seval];refine awX ?_;simp only [F93,seval];have hd:bJ L m=out:=by unfold bJ;rw [hg,hk,hL0]
  simp [stR,ho,hd,ai]
 refine awN ?_;simp only [F93,seval,ho];refine awT ?_;refine awN ?_;simp only [F93,seval];refine awX ?_;simp only [F93,seval];simp [stR,ho,br]
structure eIn (e:GEst) (K M nc na:Nat):Prop where
 ok:D9 e
 s:GK K e
 k0:0<K
 m0:0<M
 hnc:e.claims.length<=nc
 nc2:nc<=24
 hna:e.agrs.length<=na
 kb:K<=10000
 mb:M<=40000000
 b:kG nc K M<=40000000/\kY nc K M<=40000000000/\kG nc K M+(na*600)*(kY nc K M+1)<=50000000000
theorem Kw (r:GRat) (M:Nat) (h:sB M r) (h0:0<M) (hM:M<=100000000000):aU prog 133 [.agg (ai r),.agg [.lit (.bool false),.lit (.string aA),.lit (.string aA)]] (.val (.agg (ai (enc (oX (qOf r) 0))))):=by
 have h1:=Lp r gZ M 1 h ⟨by decide,by decide⟩ hM (by decide) h0 (by decide);rw [ml] at h1;exact h1
noncomputable def cL (r:GRat):Rat:=oX (qOf r) 0
theorem kM {r:GRat} {M:Nat} (h:sB M r) (h0:0<M):qB M (cL r):=by
 unfold cL oX;split
 ·exact ce.mono h0
 exact h.qB h0
theorem nu (r:GRat):0<=cL r:=by
 unfold cL oX;split<;>grind
noncomputable def ttR (e:GEst):AV:= .tup [.agg (ai (enc (if bS e=0 then cx e.claims else 0))),.one (.lit (.int .i64 (bS e)))]
noncomputable def grR (e:GEst) (m:Rat):AV:= .tup [.one (if bS e=0 then .sh 3 e.claims.length (ar cQ (aX (ay e) m)) else .lit (.slice none 0 0)),.one (.lit (.int .i64 (bS e)))]
noncomputable def dlR (e:GEst) (m:Rat):AV:= .tup [.one (if bS e=0 then .sh 3 e.claims.length (ar cQ (fo (ay e) m).cl) else .lit (.slice none 0 0)),.agg (ai (enc (if bS e=0 then (fo (ay e) m).rv else 0))),.one (.lit (.int .i64 (bS e)))]
def F94:=And.intro zS (And.intro cG (And.intro iy (d7)))
theorem F95:type_of%F94:=F94
theorem jP (r:GRat) (M:Nat) (h:sB M r) (h0:0<M) (hM:M<=100000000000):aU prog 81 [.agg (ai r)] (.val (.agg (ai (enc (cL r))))):=by
 have hA:=Kw r M h h0 hM;simp only [ai] at hA;refine aT func81 rfl (by decide) (N:=6) rfl (by simp) (R:=[.cell 2 32]) rfl fun en k0=>?_
 refine awN ?_;simp only [F95,seval,ai];refine awN ?_;simp only [F95,seval];refine ⟨_,hA,rfl,?_⟩;try simp only [ak,F95,seval]
 refine awX ?_;(first|(simp only [F95,seval,cL];done)|(simp only [F95,seval,ai];first|(simp [cL,ai];done)))
def F96:=And.intro zS (And.intro G7 (And.intro cG (d7)))
theorem F97:type_of%F96:=F96
theorem Fd (L:WL):aU prog 82 [.agg (ck L)] (.val (.agg (ai (enc L.total)))):=by
 refine aT func82 rfl (by decide) (N:=5) rfl (by simp) (R:=[.cell 2 32]) rfl fun en k0=>?_
 refine awN ?_;simp only [F97,seval,ai,ck];refine awN ?_;simp only [F97,seval];refine awX ?_;(first|(simp only [F97,seval];done)|(simp only [F97,seval,ai];first|(simp [ai];done)))
def F98:=And.intro zS (And.intro il (And.intro cG (And.intro iy (d7))))
theorem F99:type_of%F98:=F98
theorem Fe (e:GEst) (K M nc na:Nat) (hI:eIn e K M nc na):aU prog 33 [.agg (aI e)] (ttR e):=by
 refine aT func33 rfl (by decide) (N:=14) rfl (by simp) (R:=[.cell 2 32,.tmp 3]) rfl fun en k0=>?_
 refine awN ?_;simp only [F99,seval,aI];have hC:=je e hI.ok;refine awN ?_;simp only [F99,seval,ab av,ab aB];refine ⟨_,hC,(by first|rfl|simp [a8,aK,al,aw,A1.cells,ck,ai,ab az,ab ax]),?_⟩;try simp only [ak,F99,seval]
 by_cases h0:bS e=0
 ·skip;refine awN ?_;simp only [F99,seval,h0];refine awF ?_;refine awK ?_;simp only [F99,seval];have hW:=kL h0;have hLay:=xo e K (K+576*(K+1)) (by have:=hW.n;omega) (by have:=hW.an;omega) hW.cl.rk hI.s.2.1 hI.k0 (by have:=hI.kb;omega) (lG hW hI.s hI.k0 hI.kb);have hB:=jO hW hI.s hI.k0 hI.hnc hI.nc2 hI.hna hI.b;have hT:=Fd (ay e);refine awN ?_;simp only [F99,seval,ab av,ab aB];refine ⟨_,hLay,(by first|rfl|simp [al,aw,ck,ai,ab az,ab ax]),?_⟩;try simp only [ak,F99,seval,ab az,ab ax,ck,ai]
  refine ⟨_,hT,(by first|rfl|simp [a8,aK,al,aw,A1.cells,ck,ai,ab az,ab ax]),?_⟩;try simp only [ak,F99,seval,ai]
  refine awX ?_;simp only [F99,seval];simp [ttR,h0,ai,ay]
 skip;refine awN ?_;simp only [F99,seval,h0];refine awT ?_;refine awN ?_;simp only [F99,seval];refine awX ?_;simp only [F99,seval];simp [ttR,h0,br]
def Ky:=And.intro zS (And.intro il (cG))
theorem oo:type_of%Ky:=Ky
theorem Ff (e:GEst) (m:GRat) (K M nc na:Nat) (hI:eIn e K M nc na) (hm:sB M m):aU prog 93 [.agg (aI e),.agg (ai m)] (grR e (cL m)):=by
 refine aT func93 rfl (by decide) (N:=17) rfl (by simp) (R:=[.tmp 4,.tmp 5]) rfl fun en k0=>?_
 refine awN ?_;simp only [oo,seval,aI,ai];have hC:=je e hI.ok;refine awN ?_;simp only [oo,seval,ab av,ab aB];refine ⟨_,hC,(by first|rfl|simp [a8,aK,al,aw,A1.cells,ck,ai,ab aq,ab az,ab ax]),?_⟩;try simp only [ak,oo,seval]
 by_cases h0:bS e=0
 ·refine awN ?_;simp only [oo,seval,h0];refine awF ?_;refine awK ?_;simp only [oo,seval];have hW:=kL h0;have hLay:=xo e K (K+576*(K+1)) (by have:=hW.n;omega) (by have:=hW.an;omega) hW.cl.rk hI.s.2.1 hI.k0 (by have:=hI.kb;omega) (lG hW hI.s hI.k0 hI.kb);have hB:=jO hW hI.s hI.k0 hI.hnc hI.nc2 hI.hna hI.b;have hP:=jP m M hm hI.m0 (by have:=hI.mb;omega);have hG:=nl (ay e) (cL m) K (kS nc K) M (kZ nc K M) (by have:=hB.n;omega) hB.rk hB.rin (kM hm hI.m0) hB.z (by have:=hB.g;have:=hB.gb;omega) (by have:=hB.gz;have:=hB.gb;omega);simp only [ai] at hG hP;refine awD (scq [1,5,2,6,8,11,13] .nil) [0,0,0,0,0,0,0] ?_;simp only [oo,seval,ab av,ab aB];refine ⟨_,hLay,(by first|rfl|simp [al,aw,ck,ai,ab az,ab ax]),?_⟩;try simp only [ak,oo,seval,ck,ai]
  refine ⟨_,hP,(by first|rfl|simp [a8,aK,al,aw,A1.cells,ck,ai,ab aq,ab az,ab ax]),?_⟩;try simp only [ak,oo,seval,ab az,ab ax]
  refine ⟨_,hG,(by first|rfl|simp [al,aw,ab aq]),?_⟩;try simp only [ak,oo,seval]
  refine awX ?_;simp only [oo,seval,ab aq];simp [grR,h0,ay]
 refine awN ?_;simp only [oo,seval,h0];refine awT ?_;refine awN ?_;simp only [oo,seval];refine awX ?_;simp only [oo,seval];simp [grR,h0]
def r6:=And.intro zS (And.intro il (And.intro cG (And.intro iy (d7))))
theorem di:type_of%r6:=r6
theorem rD (e:GEst) (m:GRat) (K M nc na:Nat) (hI:eIn e K M nc na) (hm:sB M m):aU prog 32 [.agg (aI e),.agg (ai m)] (dlR e (cL m)):=by
 refine aT func32 rfl (by decide) (N:=26) rfl (by simp) (R:=[.tmp 4,.cell 5 32,.tmp 6]) rfl fun en k0=>?_
 refine awN ?_;simp only [di,seval,aI,ai];have hC:=je e hI.ok;refine awN ?_;simp only [di,seval,ab av,ab aB];refine ⟨_,hC,(by first|rfl|simp [a8,aK,al,aw,A1.cells,ck,ai,ab aq,ab az,ab ax]),?_⟩;try simp only [ak,di,seval]
 by_cases h0:bS e=0
 ·refine awN ?_;simp only [di,seval,h0];refine awF ?_;refine awK ?_;simp only [di,seval];have hW:=kL h0;have hLay:=xo e K (K+576*(K+1)) (by have:=hW.n;omega) (by have:=hW.an;omega) hW.cl.rk hI.s.2.1 hI.k0 (by have:=hI.kb;omega) (lG hW hI.s hI.k0 hI.kb);have hB:=jO hW hI.s hI.k0 hI.hnc hI.nc2 hI.hna hI.b;have hP:=jP m M hm hI.m0 (by have:=hI.mb;omega);have hG:=Jw (ay e) (cL m) K (kS nc K) M (kZ nc K M) _ _ _ _ hB (kM hm hI.m0);simp only [ai,xF] at hG hP;refine awD (scq [1,5] (.two 1 8 (.two 3 8 (.two 4 8 (scq [11,13,15,16,19,20] .nil) (scq [8,11,13,15,19,20] .nil)) (scq [6,8,11,13,15,19,20] .nil)) (scq [2,6,8,11,13,15,19,20] .nil))) [0,0,0,0,0,0,0,0,0,0,0] ?_;simp only [di,seval,ab av,ab aB];refine ⟨?_,?_⟩
  ·refine ⟨_,hLay,(by first|rfl|simp [al,aw,ck,ai,ab az,ab ax]),?_⟩;try simp only [ak,di,seval,ck,ai]
   refine ⟨?_,?_⟩
   ·refine ⟨_,hP,(by first|rfl|simp [a8,aK,al,aw,A1.cells,ck,ai,ab aq,ab az,ab ax]),?_⟩;try simp only [ak,di,seval,ab az,ab ax]
    refine ⟨?_,?_⟩
    ·refine ⟨_,hG,(by first|rfl|simp [aK,al,aw,A1.cells,ab aq]),?_⟩;try simp only [ak,di,seval]
     refine awD (scq [1,3,5,6,9] .nil) [0,0,0,0,0] ?_;simp only [di,seval];refine awX ?_;simp only [di,seval,ab aq];simp [dlR,h0,ay,ai]
    refine ⟨_,hG,(by first|rfl|simp [aK,al,aw,A1.cells,ab aq]),?_⟩;try simp only [ak,di,seval]
    refine awD (scq [1,3,5,6,9] .nil) [0,0,0,0,0] ?_;simp only [di,seval];refine awX ?_;simp only [di,seval,ab aq];simp [dlR,h0,ay,ai]
   refine ⟨_,hP,(by first|rfl|simp [a8,aK,al,aw,A1.cells,ck,ai,ab aq,ab az,ab ax]),?_⟩;try simp only [ak,di,seval,ab az,ab ax]
   refine ⟨_,hG,(by first|rfl|simp [aK,al,aw,A1.cells,ab aq]),?_⟩;try simp only [ak,di,seval]
   refine awD (scq [1,3,5,6,9] .nil) [0,0,0,0,0] ?_;simp only [di,seval];refine awX ?_;simp only [di,seval,ab aq];simp [dlR,h0,ay,ai]
  refine ⟨_,hLay,(by first|rfl|simp [al,aw,ck,ai,ab az,ab ax]),?_⟩;try simp only [ak,di,seval,ck,ai]
  refine ⟨_,hP,(by first|rfl|simp [a8,aK,al,aw,A1.cells,ck,ai,ab aq,ab az,ab ax]),?_⟩;try simp only [ak,di,seval,ab az,ab ax]
  refine ⟨_,hG,(by first|rfl|simp [aK,al,aw,A1.cells,ab aq]),?_⟩;try simp only [ak,di,seval]
  refine awD (scq [1,3,5,6,9] .nil) [0,0,0,0,0] ?_;simp only [di,seval];refine awX ?_;simp only [di,seval,ab aq];simp [dlR,h0,ay,ai]
 refine awN ?_;simp only [di,seval,h0];refine awT ?_;refine awN ?_;simp only [di,seval];refine awX ?_;simp only [di,seval];simp [dlR,h0,br]
theorem oU : (prog.fieldsOf 32).toList = [⟨"Neg", 4, 0, false, "", "", 0⟩, ⟨"Num", 9, 1, false, "", "", 8⟩, ⟨"Den", 9, 2, false, "", "", 24⟩] := by kernel_rfl
theorem zv:ldT prog 4=some (false,1):=by kernel_rfl
theorem u0:ldT prog 9=some (false,1):=by kernel_rfl
theorem mz (cs:Array Value) (i:Nat) (v:Value) (h:cs[i]? =some v) (w:World):(part 4 cs i).run prog w= .ok v w:=by
 simp [part,(mL zv w).1,h]
theorem gX (cs:Array Value) (i:Nat) (v:Value) (h:cs[i]? =some v) (w:World):(part 9 cs i).run prog w= .ok v w:=by
 simp [part,(mL u0 w).1,h]
theorem gY (a:GRat):FE prog 32 [.bool a.neg,.string a.num,.string a.den] [.bool a.neg,.string a.num,.string a.den]:=fun w=>⟨by
 obtain ⟨x,y,z⟩:=a;have h2:=run_equalIn_agg (P:=prog) w 9999 32 #[.bool x,.string y,.string z] #[.bool x,.string y,.string z] (by kernel_rfl) (by kernel_rfl);have h3:(Op.equal 32 (.agg #[.bool x,.string y,.string z]) (.agg #[.bool x,.string y,.string z])).run prog w=(Op.equalIn (9999+1) 32 (.agg #[.bool x,.string y,.string z]) (.agg #[.bool x,.string y,.string z])).run prog w:=rfl;have hb:=fun (a b:Bool)=>run_equalIn_bool' (P:=prog) w 9998 4 a b (by kernel_rfl)
 have hs:=fun (a b:ByteArray)=>run_equalIn_string (P:=prog) w 9998 9 a b (by kernel_rfl)
 have p0:=mz #[.bool x,.string y,.string z] 0 _ rfl w;have p1:=gX #[.bool x,.string y,.string z] 1 _ rfl w;have p2:=gX #[.bool x,.string y,.string z] 2 _ rfl w;show (Op.equal 32 (.agg #[.bool x,.string y,.string z]) (.agg #[.bool x,.string y,.string z])).run prog w=_;rw [h3,h2,oU];have n1 : ¬ "Neg" = "_" := by decide
 have n2 : ¬ "Num" = "_" := by decide
 have n3 : ¬ "Den" = "_" := by decide
 simp only [Op.eqFields,ne_eq,n1,n2,n3,not_false_eq_true,if_true,Sem.run_bind,p0,Result.andThen_ok];simp [hb,hs,p1,p2,kh,eqV],by kernel_rfl⟩
theorem g8 (a:GRat):kh [.bool a.neg,.string a.num,.string a.den] [.bool a.neg,.string a.num,.string a.den]=true:=by simp [kh,eqV]
theorem gA (n:Int) (h0: -1000000<=n) (h1:n<=1000000):aU prog 52 [.one (.lit (.int .i64 n))] (.val (.agg (ai (enc (n:Rat))))):=Kj n (by omega) (by omega)
def jQ:List GClaim:=[⟨-1,2,enc 60⟩,⟨-1,2,enc 40⟩]
noncomputable def exE (ags:List bP):GEst:=⟨gZ,jQ,ags⟩
section
variable {P : Program} {e : En} {H : Hp} {nx : Nat} {σ : Nat → Value} {w : World}
theorem zw (hW:RW e H nx σ w) {nt st na sa:Nat} {E E':TypeId} {t1 t2:List GPart} {v:Value} (hd:den (kx e H nx σ w) v (.own nt st 2 1)) (h1:H nt=some ⟨st,E,1,2,[.sh 5 t1.length (ar bA t1),.own na sa t2.length 5]⟩) (h2:H na=some ⟨sa,E',5,t2.length,ar bA t2⟩):
  den (gl w) v (.sh 1 2 (ar bF [t1,t2])):=by
 refine ls hW hd h1 rfl (by show (1:Nat)≠0;decide) fun xs hx=>?_
 obtain ⟨v1,vs1,rfl,d1,hx⟩:=bM hx;obtain ⟨v2,vs2,rfl,d2,hx⟩:=bM hx;cases vs2 with
 |nil=>exact ⟨dZ fq (by simp [aw,ab cT]) d1,ls hW d2 h2 rfl (by show (5:Nat)≠0;decide) (fun ys hy=>jx fq (ab cT _) hy),trivial⟩
 |cons v vs=>exact hx.elim
theorem nv (hW:RW e H nx σ w) {n1 n2 nt st na sa sx sy:Nat} {E E' E1 E2:TypeId} {t1 t2:List GPart} {vs:List Value}
  (hd:denVs (kx e H nx σ w) vs [.lit (.bool false),.lit (.string aA),.lit (.string aA),.own n1 sx 2 5,.own n2 sy 1 1]) (h1:H nt=some ⟨st,E,1,2,[.sh 5 t1.length (ar bA t1),.own na sa t2.length 5]⟩) (h2:H na=some ⟨sa,E',5,t2.length,ar bA t2⟩)
  (h3:H n1=some ⟨sx,E1,5,2,ar bj jQ⟩) (h4:H n2=some ⟨sy,E2,1,1,[.own nt st 2 1]⟩):denVs (gl w) vs (aI (exE [[t1,t2]])):=by
 obtain ⟨v1,vs1,rfl,d1,hd⟩:=bM hd;obtain ⟨v2,vs2,rfl,d2,hd⟩:=bM hd;obtain ⟨v3,vs3,rfl,d3,hd⟩:=bM hd;obtain ⟨v4,vs4,rfl,d4,hd⟩:=bM hd;obtain ⟨v5,vs5,rfl,d5,hd⟩:=bM hd;have k4:=ls hW d4 h3 rfl (by show (5:Nat)≠0;decide) (fun ys hy=>jx fq (ab av _) hy);have k5:den (gl w) v5 (.sh 1 1 (ar bz [[t1,t2]])):=ls hW d5 h4 rfl (by show (1:Nat)≠0;decide) fun xs hx=>by
  obtain ⟨u1,us1,rfl,f1,hx⟩:=bM hx;cases us1 with
  |nil=>exact ⟨zw hW f1 h1 h2,trivial⟩
  |cons v vs=>exact hx.elim
 cases vs5 with
 |nil=>exact ⟨d1,d2,d3,k4,k5,trivial⟩
 |cons v vs=>exact hd.elim
end
def Kz:=And.intro zS (And.intro qo (And.intro me (And.intro il (And.intro cG (d7)))))
theorem ot:type_of%Kz:=Kz
theorem rE (e:GEst) (m:Int) (a b:Rat) (hm0: -1000<=m/\m<=1000) (hI:eIn e 1 2 24 12) (h0:bS e=0) (hmB:qB 2 (m:Rat)) (hmp:cL (enc (m:Rat))=(m:Rat)) (hn2:e.claims.length=2) (hcl:(fo (ay e) (m:Rat)).cl=[a,b]):aU prog 73 [.agg (aI e),.one (.lit (.int .i64 m)),.agg (ai (enc a)),.agg (ai (enc b))] (one (.bool true)):=by
 refine aT func73 rfl (by decide) (N:=41) rfl (by simp) (R:=[.tmp 8]) rfl fun en k0=>?_
 refine awN ?_;simp only [ot,seval,ai,aI];have hI0:=gA m (by omega) (by omega);have hD:=rD e (enc (m:Rat)) 1 2 24 12 hI (dj hmB);rw [hmp] at hD;simp only [dlR,h0,if_true,hn2] at hD;simp only [ai] at hI0 hD;refine awD (scq [1,3] (.two 2 8 (.two 3 8 (scT 4 4 (scq [16,19,20,23] .nil)) (scq [6] (scT 4 4 (scq [19,20,23] .nil)))) (scq [4,6] (scT 4 4 (scq [19,20,23] .nil))))) [0,0,0,0,0,0,0,0,0,0,0,0] ?_;simp only [ot,seval];refine ⟨?_,?_⟩
 ·refine ⟨_,hI0,(by first|rfl|simp [a8,aK,al,aw,A1.cells,ab aq]),?_⟩;try simp only [ak,ot,seval,ab av,ab aB]
  refine ⟨?_,?_⟩
  ·refine ⟨_,hD,(by first|rfl|simp [aK,al,aw,A1.cells,ab aq]),?_⟩;try simp only [ak,ot,seval]
   have q1:=gY (enc a);have q2:=g8 (enc a);have q3:=gY (enc b);have q4:=g8 (enc b);have hfl:ar cQ [a,b]=ai (enc a)++(ai (enc b)++[]):=rfl;simp only [ai,List.cons_append,List.nil_append] at hfl;refine awD (scT 0 22 .nil) [0,0,0,47,47,47,0,0,57,57,57,57,57,0,0,71,71,71,71,71,0,0] ?_;simp only [ot,seval,hcl,hfl,q1,q2,q3,q4];refine awX ?_;simp only [ot,seval];try simp
  refine ⟨_,hD,(by first|rfl|simp [aK,al,aw,A1.cells,ab aq]),?_⟩;try simp only [ak,ot,seval]
  have q1:=gY (enc a);have q2:=g8 (enc a);have q3:=gY (enc b);have q4:=g8 (enc b);have hfl:ar cQ [a,b]=ai (enc a)++(ai (enc b)++[]):=rfl;simp only [ai,List.cons_append,List.nil_append] at hfl;refine awD (scT 0 22 .nil) [0,0,0,47,47,47,0,0,57,57,57,57,57,0,0,71,71,71,71,71,0,0] ?_;simp only [ot,seval,hcl,hfl,q1,q2,q3,q4];refine awX ?_;simp only [ot,seval];try simp
 refine ⟨_,hI0,(by first|rfl|simp [a8,aK,al,aw,A1.cells,ab aq]),?_⟩;try simp only [ak,ot,seval,ab av,ab aB]
 refine ⟨_,hD,(by first|rfl|simp [aK,al,aw,A1.cells,ab aq]),?_⟩;try simp only [ak,ot,seval]
 have q1:=gY (enc a);have q2:=g8 (enc a);have q3:=gY (enc b);have q4:=g8 (enc b);have hfl:ar cQ [a,b]=ai (enc a)++(ai (enc b)++[]):=rfl;simp only [ai,List.cons_append,List.nil_append] at hfl;refine awD (scT 0 22 .nil) [0,0,0,47,47,47,0,0,57,57,57,57,57,0,0,71,71,71,71,71,0,0] ?_;simp only [ot,seval,hcl,hfl,q1,q2,q3,q4];refine awX ?_;simp only [ot,seval];try simp
theorem GL {κ:Kx} {vs:List Value} (h:denVs κ vs [.lit (.bool false),.lit (.string aA),.lit (.string aA),.sh 5 2 [.lit (.int .i64 (-1)),.lit (.int .i64 2),.lit (.bool (enc ((60:Int):Rat)).neg),.lit (.string (enc ((60:Int):Rat)).num),.lit (.string (enc ((60:Int):Rat)).den),.lit (.int .i64 (-1)),.lit (.int .i64 2),.lit (.bool (enc ((40:Int):Rat)).neg),.lit (.string (enc ((40:Int):Rat)).num),.lit (.string (enc ((40:Int):Rat)).den)],.lit (.slice none 0 0)]):denVs κ vs (aI (exE [])):=by
 obtain ⟨v1,vs1,rfl,d1,h⟩:=bM h;obtain ⟨v2,vs2,rfl,d2,h⟩:=bM h;obtain ⟨v3,vs3,rfl,d3,h⟩:=bM h;obtain ⟨v4,vs4,rfl,d4,h⟩:=bM h;obtain ⟨v5,vs5,rfl,d5,h⟩:=bM h;exact ⟨d1,d2,d3,d4,lp 1 d5,h⟩
def KA:=And.intro zS (And.intro tf2 (And.intro ql (And.intro mc (And.intro qm (And.intro qn (And.intro il (And.intro II (And.intro Q9 (And.intro IP (And.intro yJ (And.intro wl (DU))))))))))))
theorem u6:type_of%KA:=KA
theorem KB:aU prog 74 [.one (.lit (.slice none 0 0))] (.val (.agg (aI (exE [])))):=by
 refine aT func74 rfl (by decide) (N:=18) rfl (by simp) (R:=[.cell 2 36]) rfl fun en k0=>?_
 refine awN ?_;simp only [u6,seval];have h60:=gA 60 (by decide) (by decide);have h40:=gA 40 (by decide) (by decide);simp only [ai] at h60 h40;refine awN ?_;simp only [u6,seval];refine ⟨_,h60,rfl,?_⟩;try simp only [ak,u6,seval]
 refine ⟨_,h40,rfl,?_⟩;try simp only [ak,u6,seval]
 refine awN ?_;simp only [u6,seval];refine awF ?_;refine awK ?_;simp only [u6,seval];refine bE 8 3 3 (by rfl) (by rfl) (by rfl) (by decide) (by show (5:Nat)≠0;decide) (by show (5:Nat)≠0;decide) rfl ?_;refine ch (dl 3 (aI (exE [])) (by rfl) (by show (5:Nat)≠0;decide) (by rfl) (fun κ vs h=>GL h)) ?_;simp only [u6,seval];refine awN ?_;simp only [u6,seval,aI];refine awX ?_;simp only [u6,seval,ab av,ab aB];try simp [aI,ab av,ab aB]
def KC:=And.intro zS (And.intro tf2 (And.intro ql (And.intro mc (And.intro qm (And.intro qn (And.intro il (And.intro II (And.intro Q9 (And.intro IP (And.intro yJ (And.intro wl (DU))))))))))))
theorem j0:type_of%KC:=KC
theorem Fg (H:Hp) (ny nt st:Nat) (hnt:∃B,H nt=some B/\B.st=st) (hbH:∀y B,H y=some B->y<700):cX prog 74 [.one (.own nt st 2 1)] H ny
  (fun res H' _=>∃sx sy s2 cs2,res= .val (.agg [.lit (.bool false),.lit (.string aA),.lit (.string aA),.own 708 sx 2 5,.own 715 sy 1 1])/\H'=bC H [(702,⟨s2,36,5,1,cs2⟩),(708,⟨sx,38,5,2,ar bj jQ⟩),(715,⟨sy,50,1,1,[.own nt st 2 1]⟩)]):=by
 refine cN 700 func74 rfl (by decide) (N:=18) rfl (by simp) (Rl:=[.cell 2 36]) rfl fun en k0=>?_
 refine awN ?_;simp only [j0,seval];have h60:=gA 60 (by decide) (by decide);have h40:=gA 40 (by decide) (by decide);simp only [ai] at h60 h40;refine awN ?_;simp only [j0,seval];refine ⟨_,h60,rfl,?_⟩;try simp only [ak,j0,seval]
 refine ⟨_,h40,rfl,?_⟩;try simp only [ak,j0,seval]
 refine awN ?_;simp only [j0,seval];refine ⟨by obtain ⟨B,hB,hs⟩:=hnt;have:=hbH nt B hB;exact ⟨B,by (repeat rw [if_neg (by omega)]);exact hB,hs⟩,?_⟩;refine awT ?_;refine awN ?_;simp only [j0,seval];refine awN ?_;simp only [j0,seval];refine eE H [2] [702,708,715] (by intro y B h;right;have h9:=hbH y B h;simp only [ap];(repeat rw [if_neg (by omega)]);exact h) ?_;simp only [j0,seval];refine awX ?_;simp only [j0,seval];exact ⟨_,_,_,_,rfl,rfl⟩
theorem KD (H:Hp) (ny nt st:Nat) (hnt:∃B,H nt=some B/\B.st=st) (hbH:∀y B,H y=some B->y<800):cX prog 74 [.one (.own nt st 2 1)] H ny
  (fun res H' _=>∃sx sy s2 cs2,res= .val (.agg [.lit (.bool false),.lit (.string aA),.lit (.string aA),.own 808 sx 2 5,.own 815 sy 1 1])/\H'=bC H [(802,⟨s2,36,5,1,cs2⟩),(808,⟨sx,38,5,2,ar bj jQ⟩),(815,⟨sy,50,1,1,[.own nt st 2 1]⟩)]):=by
 refine cN 800 func74 rfl (by decide) (N:=18) rfl (by simp) (Rl:=[.cell 2 36]) rfl fun en k0=>?_
 refine awN ?_;simp only [j0,seval];have h60:=gA 60 (by decide) (by decide);have h40:=gA 40 (by decide) (by decide);simp only [ai] at h60 h40;refine awN ?_;simp only [j0,seval];refine ⟨_,h60,rfl,?_⟩;try simp only [ak,j0,seval]
 refine ⟨_,h40,rfl,?_⟩;try simp only [ak,j0,seval]
 refine awN ?_;simp only [j0,seval];refine ⟨by obtain ⟨B,hB,hs⟩:=hnt;have:=hbH nt B hB;exact ⟨B,by (repeat rw [if_neg (by omega)]);exact hB,hs⟩,?_⟩;refine awT ?_;refine awN ?_;simp only [j0,seval];refine awN ?_;simp only [j0,seval];refine eE H [2] [802,808,815] (by intro y B h;right;have h9:=hbH y B h;simp only [ap];(repeat rw [if_neg (by omega)]);exact h) ?_;simp only [j0,seval];refine awX ?_;simp only [j0,seval];exact ⟨_,_,_,_,rfl,rfl⟩
theorem dL (a b:GRat):FE prog 32 [.bool a.neg,.string a.num,.string a.den] [.bool b.neg,.string b.num,.string b.den]:=fun w=>⟨by
 obtain ⟨x,y,z⟩:=a;obtain ⟨x',y',z'⟩:=b;have h2:=run_equalIn_agg (P:=prog) w 9999 32 #[.bool x,.string y,.string z] #[.bool x',.string y',.string z'] (by kernel_rfl) (by kernel_rfl);have h3:(Op.equal 32 (.agg #[.bool x,.string y,.string z]) (.agg #[.bool x',.string y',.string z'])).run prog w=(Op.equalIn (9999+1) 32 (.agg #[.bool x,.string y,.string z]) (.agg #[.bool x',.string y',.string z'])).run prog w:=rfl;have hb:=fun (a b:Bool)=>run_equalIn_bool' (P:=prog) w 9998 4 a b (by kernel_rfl)
 have hs:∀a b:ByteArray,_:=fun (a b:ByteArray)=>(Du a b)▸run_equalIn_string (P:=prog) w 9998 9 a b (by kernel_rfl)
 have p0:=mz #[.bool x,.string y,.string z] 0 _ rfl w;have p1:=gX #[.bool x,.string y,.string z] 1 _ rfl w;have p2:=gX #[.bool x,.string y,.string z] 2 _ rfl w;have q0:=mz #[.bool x',.string y',.string z'] 0 _ rfl w;have q1:=gX #[.bool x',.string y',.string z'] 1 _ rfl w;have q2:=gX #[.bool x',.string y',.string z'] 2 _ rfl w;show (Op.equal 32 (.agg #[.bool x,.string y,.string z]) (.agg #[.bool x',.string y',.string z'])).run prog w=_;rw [h3,h2,oU];have n1 : ¬ "Neg" = "_" := by decide
 have n2 : ¬ "Num" = "_" := by decide
 have n3 : ¬ "Den" = "_" := by decide
 by_cases e1:x=x'
 ·subst e1;by_cases e2:y=y'
  ·subst e2;by_cases e3:z=z'
   ·subst e3;simp only [Op.eqFields,ne_eq,n1,n2,n3,not_false_eq_true,if_true,Sem.run_bind,p0,Result.andThen_ok];simp [hb,hs,p1,p2,kh,eqV]
   simp only [Op.eqFields,ne_eq,n1,n2,n3,not_false_eq_true,if_true,Sem.run_bind,p0,q0,Result.andThen_ok];simp [hb,hs,p1,p2,q1,q2,kh,eqV,e3]
  simp only [Op.eqFields,ne_eq,n1,n2,n3,not_false_eq_true,if_true,Sem.run_bind,p0,q0,Result.andThen_ok];simp [hb,hs,p1,q1,kh,eqV,e2]
 simp only [Op.eqFields,ne_eq,n1,n2,n3,not_false_eq_true,if_true,Sem.run_bind,p0,q0,Result.andThen_ok];simp [hb,kh,eqV,e1],by kernel_rfl⟩
theorem dM (p q:Rat):kh [.bool (enc p).neg,.string (enc p).num,.string (enc p).den] [.bool (enc q).neg,.string (enc q).num,.string (enc q).den]=decide (p=q):=by
 by_cases h:p=q
 ·subst h;simp [kh,eqV]
 have h2:enc p≠enc q:=fun e=>h (zE e)
 have h3:¬((enc p).neg=(enc q).neg/\(enc p).num=(enc q).num/\(enc p).den=(enc q).den):=fun ⟨a,b,c⟩=>h2 (by
  generalize enc p=x at *
  generalize enc q=y at *
  obtain ⟨x1,x2,x3⟩:=x;obtain ⟨y1,y2,y3⟩:=y;simp only at a b c;rw [a,b,c])
 simp only [h,decide_false];apply Bool.eq_false_iff.2;intro h4;simp only [kh,eqV,Bool.and_eq_true,beq_iff_eq,decide_eq_true_eq] at h4;exact h3 (by simpa using h4)
end Go.Proofs.YtokmkopihhnggaaGreatDoor
