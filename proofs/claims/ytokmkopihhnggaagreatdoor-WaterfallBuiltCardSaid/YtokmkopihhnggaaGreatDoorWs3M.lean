/- The waterfall: the next kink; Slopes and Next for an estate; walked by the abstract machine. -/
import Derived.Test.YtokmkopihhnggaaGreatDoorWs2M
import Derived.Test.YtokmkopihhnggaaGreatDoorWraM
import Derived.Test.YtokmkopihhnggaaGreatDoorPl3M
import Derived.Test.YtokmkopihhnggaaGreatDoorWp4M
set_option linter.unusedVariables false
set_option maxHeartbeats 4000000
set_option maxRecDepth 100000
set_option linter.unusedSimpArgs false
set_option linter.defProp false
namespace Go.Proofs.YtokmkopihhnggaaGreatDoor
open Go Go.RowKit Go.Proofs.Tryz
def eqR:List Rat->List Rat->Bool
 |x::l,y::k=>if x=y then eqR l k else false
 |_,_=>true
theorem xM (x y:Rat) (l k:List Rat):eqR (x::l) (y::k)=if x=y then eqR l k else false:=rfl
theorem Bj (k:List Rat):eqR [] k=true:=by cases k<;>rfl
theorem iK:∀{l k:List Rat},l.length=k.length->(eqR l k=true↔l=k)
 |[],[],_=>by simp [eqR]
 |x::l,y::k,h=>by
  have h1:=iK (l:=l) (k:=k) (by simpa using h);rw [eqR];split
  ·rename_i e;rw [h1,e];simp
  rename_i e;simp [e]
noncomputable def nxR (o:Option Rat):AV:= .tup [.agg (ai (enc (o.getD 0))),.one (.lit (.bool o.isSome))]
noncomputable def slR (e:GEst) (m:Rat):AV:= .tup [.one (if bS e=0 then .sh 3 e.claims.length (ar cQ (cn (ay e) m).cl) else .lit (.slice none 0 0)),.agg (ai (enc (if bS e=0 then (cn (ay e) m).rv else 0))),.one (.lit (.int .i64 (bS e)))]
noncomputable def neR (e:GEst) (m:Rat):AV:= .tup [.agg (ai (enc (if bS e=0 then (fB (ay e) m).getD 0 else 0))),.one (.lit (.bool (decide (bS e=0)&&(fB (ay e) m).isSome))),.one (.lit (.int .i64 (bS e)))]
def KE:=And.intro zS (And.intro qo (And.intro me (cG)))
theorem jR:type_of%KE:=KE
theorem rF (l k:List Rat) (n9:Nat) (hl:l.length=n9) (hk:k.length=n9) (hn:n9<=1000000):aU prog 140 [.one (.sh 3 n9 (ar cQ l)),.one (.sh 3 n9 (ar cQ k))] (one (.bool (eqR l k))):=by
 subst hl;refine aT func140 rfl (by decide) (N:=26) rfl (by simp) (R:=[.tmp 4]) rfl fun en k0=>?_
 refine awN ?_;simp only [jR,seval];refine awN ?_;simp only [jR,seval];refine awF ?_;refine awK ?_;simp only [jR,seval];refine awN ?_;simp only [jR,seval];refine aS [0,1,12,13] [] ?_;try simp only [ak,jR,seval]
 repeat' first|apply awS|apply awB
 refine aM (fun n st=>∃i0 nx,i0<=l.length/\n=l.length-i0/\eqR (l.drop i0) (k.drop i0)=eqR l (k.drop 0)/\st=⟨mkT [(0,.val (.one (.sh 3 l.length (ar cQ l)))),(1,.val (.one (.sh 3 l.length (ar cQ k)))),(12,one (.int .i64 l.length)),(13,one (.int .i64 i0))],mkH [],nx,0⟩) (l.length) ⟨0,_,by omega,by omega,by rfl,rfl⟩ ?_;rintro n0 st ⟨i0,nx0,hk0,rfl,hL0,rfl⟩;by_cases hlt0:i0<l.length
 ·have hI0:(i0:Int)<(l.length:Int):=by omega
  have hat0:=aO bV l i0 hlt0;try rw [Nat.mul_one] at hat0
  rw [List.drop_eq_getElem_cons hlt0] at hL0;have hik:i0<k.length:=by omega
  have hatk:=aO bV k i0 hik;simp only [cQ,ai] at hatk;rw [List.drop_eq_getElem_cons hik] at hL0;generalize l[i0]=x at *
  simp only [xM] at hL0;refine awN ?_;simp only [jR,seval,hI0];refine awT ?_;refine awK ?_;simp only [jR,seval];refine awN ?_;simp only [jR,seval];by_cases heq:x=k[i0]
  ·have q3:decide (x=k[i0])=true:=by simp [heq]
   have q1:=dL (enc x) (enc k[i0]);have q2:=dM x k[i0];refine awD (scT 0 9 .nil) [0,0,0,0,0,0,0,0,0] ?_;simp only [jR,seval,ai,hI0,q3,hat0,hatk,cQ,q1,q2];repeat refine ob ?_
   refine awF ?_;refine awK ?_;simp only [jR,seval];refine awN ?_;simp only [jR,seval];repeat refine ob ?_
   refine ⟨_,aC [0,1,12,13] [],l.length-(i0+1),by omega,i0+1,?a7_nx,by omega,rfl,?i7_0,?st7⟩;case st7=>(simp only [jR,seval];first|rfl|(simp [hI0,hat0,q3,Nat.add_mul];done))
   case i7_0=>(rw [if_pos heq,List.drop_zero] at hL0;exact hL0)
  have q3:decide (x=k[i0])=false:=by simp [heq]
  have q1:=dL (enc x) (enc k[i0]);have q2:=dM x k[i0];refine awD (scT 0 9 .nil) [0,0,0,0,0,0,0,0,0] ?_;simp only [jR,seval,ai,hI0,q3,hat0,hatk,cQ,q1,q2];repeat refine ob ?_
  refine awT ?_;refine awN ?_;simp only [jR,seval];refine awX ?_;try simp only [jR,seval]
  have h9:eqR l k=false:=by rw [List.drop_zero,if_neg heq] at hL0;exact hL0.symm
  rw [h9]
 obtain rfl:i0=l.length:=by omega
 have hI0:¬(l.length:Int)<(l.length:Int):=by omega
 rw [List.drop_length] at hL0;simp only [Bj] at hL0;refine awN ?_;simp only [jR,seval,hI0];refine awF ?_;refine awQ ?_;simp only [jR,seval];refine awN ?_;simp only [jR,seval];refine awX ?_;try simp only [jR,seval]
 have h9:eqR l k=true:=by rw [List.drop_zero] at hL0;exact hL0.symm
 rw [h9]
def KF:=And.intro zS (And.intro cG (And.intro wy (And.intro iy (d7))))
theorem gC:type_of%KF:=KF
theorem JB (L:WL) (m:Rat) (K Sm M Z G K2 S2 Z2:Nat) (hB:delB L K Sm M Z G K2 S2 Z2) (hM0:0<M) (hMb:M<=40000000) (hM:qB M m) (hm:0<=m) (hZ4:Z2<=10000000000) (hU:∀x,0<=x->bd L.ranks x->qB M (x+bJ L x)) (hMu:∀x,0<=x->bd L.ranks x->wMu L (x+bJ L x)<wMu L x) (hPos:∀x,0<=x->bd L.ranks x->0<bJ L x):aU prog 87 [.agg (ck L),.agg (ai (enc m))] (nxR (fB L m)):=by
 obtain ⟨s0,hs0⟩:∃s,cn L m=s:=⟨_,rfl⟩;have hs0l:s0.cl.length=L.count:=by rw [←hs0];exact d9 L m
 refine aT func87 rfl (by decide) (N:=46) rfl (by simp) (R:=[.cell 4 32,.tmp 5]) rfl fun en k0=>?_
 refine awN ?_;simp only [gC,seval,ai,ck];have hS0:=zu L m K Sm M Z G K2 S2 Z2 hB hM0 hM;simp only [xF,hs0,ai,ck] at hS0;refine awN ?_;simp only [gC,seval,ab az,ab ax];refine ⟨_,hS0,(by first|rfl|simp [aK,al,aw,A1.cells,ab aq]),?_⟩;try simp only [ak,gC,seval]
 refine aS [2,3,4,6,7] [2,3,4,7] ?_;try simp only [ak,gC,seval]
 repeat' first|apply awS|apply awB
 refine aM (fun n st=>∃x nx,wMu L x<n/\iV L s0 n x=fB L m/\qB M x/\0<=x/\st=⟨mkT [(2,.val (.one (.ptr 2 0 0))),(3,.val (.one (.ptr 3 1 0))),(4,.val (.one (.ptr 4 2 0))),(6,.val (.one (.sh 3 L.count (ar cQ s0.cl)))),(7,.val (.one (.ptr 7 3 0)))],mkH [(2,⟨0,141,6,1,ck L⟩),(3,⟨1,32,3,1,ai (enc x)⟩),(4,⟨2,32,3,1,[.lit (.bool false),.lit (.string aA),.lit (.string aA)]⟩),(7,⟨3,32,3,1,ai (enc s0.rv)⟩)],nx,0⟩) (wMu L m+1) ⟨m,_,Nat.lt_succ_self _,by rw [←hs0];rfl,hM,hm,rfl⟩ ?_;rintro n0 st ⟨x,nx0,hmu,hnx,hxB,hx0,rfl⟩;obtain ⟨k0,rfl⟩:∃k,n0=k+1:=⟨n0-1,by omega⟩;have hSt:=JA L x K Sm M Z G K2 S2 Z2 hB hM0 hxB hZ4;simp only [stR,ai,ck] at hSt;refine awN ?_;simp only [gC,seval,ai,ck,ab az,ab ax];refine ⟨_,hSt,(by first|rfl|simp [a8,aK,al,aw,A1.cells,ab az,ab ax,ab aq,ck]),?_⟩;try simp only [ak,gC,seval]
 by_cases ho:bd L.ranks x
 ·refine awN ?_;simp only [gC,seval,ho];refine awF ?_;refine awK ?_;simp only [gC,seval];have hx2:=hU x hx0 ho;have hst:qB (M+M+1) (bJ L x):=by have:=hx2.sub hxB;rwa [show x+bJ L x-x=bJ L x by grind] at this
  have hAd:=tg x (bJ L x) _ _ hxB hst (by omega) (by omega);simp only [ai] at hAd;refine awN ?_;simp only [gC,seval];refine ⟨_,hAd,(by first|rfl|simp [a8,aK,al,aw,A1.cells,ab az,ab ax,ab aq,ck]),?_⟩;try simp only [ak,gC,seval]
  have hS1:=zu L (x+bJ L x) K Sm M Z G K2 S2 Z2 hB hM0 hx2;simp only [xF,ai,ck] at hS1;refine awN ?_;simp only [gC,seval,ab az,ab ax];refine ⟨_,hS1,(by first|rfl|simp [aK,al,aw,A1.cells,ab aq]),?_⟩;try simp only [ak,gC,seval]
  by_cases hrv:(cn L (x+bJ L x)).rv=s0.rv
  ·have q3:decide ((cn L (x+bJ L x)).rv=s0.rv)=true:=by simp [hrv]
   by_cases hcl:eqR (cn L (x+bJ L x)).cl s0.cl=true
   ·have q1:=dL (enc (cn L (x+bJ L x)).rv) (enc s0.rv);have q2:=dM (cn L (x+bJ L x)).rv s0.rv;have hEq:=rF (cn L (x+bJ L x)).cl s0.cl L.count (d9 L _) hs0l (by have:=hB.n;omega);refine awR [] [0,0,0,0,80,80,80,80,0] ?_;simp only [gC,seval,q3,ab aq,q1,q2];refine ⟨_,hEq,(by first|rfl|simp [a8,aK,al,aw,A1.cells,ab az,ab ax,ab aq,ck]),?_⟩;try simp only [ak,gC,seval,hcl]
    refine awF ?_;refine awK ?_;simp only [gC,seval];have hmu2:=hMu x hx0 ho;refine ⟨_,aC [2,3,4,6,7] [2,3,4,7],k0,by omega,x+bJ L x,?na,by omega,?eq,hx2,?pos,?st⟩;case st=>(simp only [gC,seval];rfl)
    case eq=>(rw [←hnx];have h9:=(iK (by rw [d9,hs0l])).1 hcl;simp only [iV,ho,if_true,hrv,h9,and_self])
    case pos=>(have:=hPos x hx0 ho;grind)
   have q1:=dL (enc (cn L (x+bJ L x)).rv) (enc s0.rv);have q2:=dM (cn L (x+bJ L x)).rv s0.rv;have hEq:=rF (cn L (x+bJ L x)).cl s0.cl L.count (d9 L _) hs0l (by have:=hB.n;omega);refine awR [] [0,0,0,0,80,80,80,80,0] ?_;simp only [gC,seval,q3,ab aq,q1,q2];refine ⟨_,hEq,(by first|rfl|simp [a8,aK,al,aw,A1.cells,ab az,ab ax,ab aq,ck]),?_⟩;try simp only [ak,gC,seval,hcl]
   refine awT ?_;refine awN ?_;simp only [gC,seval];refine awX ?_;have hno:fB L m=some (x+bJ L x):=by rw [←hnx];simp only [iV,ho,if_true];rw [if_neg (fun h=>hcl ((iK (by rw [d9,hs0l])).2 h.2))]
   simp only [gC,seval];simp [nxR,hno,ai]
  have q3:decide ((cn L (x+bJ L x)).rv=s0.rv)=false:=by simp [hrv]
  have q1:=dL (enc (cn L (x+bJ L x)).rv) (enc s0.rv);have q2:=dM (cn L (x+bJ L x)).rv s0.rv;have hEq:=rF (cn L (x+bJ L x)).cl s0.cl L.count (d9 L _) hs0l (by have:=hB.n;omega);refine awR [] [0,0,0,0,80,80,80,80,0] ?_;simp only [gC,seval,q3,q1,q2];refine awT ?_;refine awN ?_;simp only [gC,seval];refine awX ?_;have hno:fB L m=some (x+bJ L x):=by rw [←hnx];simp only [iV,ho,if_true];rw [if_neg (fun h=>hrv h.1)]
  simp only [gC,seval];simp [nxR,hno,ai]
 refine awN ?_;simp only [gC,seval,ho];refine awT ?_;refine awN ?_;simp only [gC,seval];refine awX ?_;have hno:fB L m=none:=by rw [←hnx];simp only [iV,ho,if_false]
 simp only [gC,seval];simp [nxR,hno,br]
def KG:=And.intro zS (And.intro il (And.intro cG (And.intro iy (d7))))
theorem gD:type_of%KG:=KG
theorem Cy (e:GEst) (m:GRat) (K M nc na:Nat) (hI:eIn e K M nc na) (hm:sB M m):aU prog 41 [.agg (aI e),.agg (ai m)] (slR e (cL m)):=by
 refine aT func41 rfl (by decide) (N:=26) rfl (by simp) (R:=[.tmp 4,.cell 5 32,.tmp 6]) rfl fun en k0=>?_
 refine awN ?_;simp only [gD,seval,aI,ai];have hC:=je e hI.ok;refine awN ?_;simp only [gD,seval,ab av,ab aB];refine ⟨_,hC,(by first|rfl|simp [a8,aK,al,aw,A1.cells,ck,ai,ab aq,ab az,ab ax]),?_⟩;try simp only [ak,gD,seval]
 by_cases h0:bS e=0
 ·refine awN ?_;simp only [gD,seval,h0];refine awF ?_;refine awK ?_;simp only [gD,seval];have hW:=kL h0;have hLay:=xo e K (K+576*(K+1)) (by have:=hW.n;omega) (by have:=hW.an;omega) hW.cl.rk hI.s.2.1 hI.k0 (by have:=hI.kb;omega) (lG hW hI.s hI.k0 hI.kb);have hB:=jO hW hI.s hI.k0 hI.hnc hI.nc2 hI.hna hI.b;have hP:=jP m M hm hI.m0 (by have:=hI.mb;omega);have hG:=zu (ay e) (cL m) K (kS nc K) M (kZ nc K M) _ _ _ _ hB hI.m0 (kM hm hI.m0);simp only [ai,xF] at hG hP;refine awD (scq [1,5] (.two 1 8 (.two 3 8 (.two 4 8 (scq [11,13,15,16,19,20] .nil) (scq [8,11,13,15,19,20] .nil)) (scq [6,8,11,13,15,19,20] .nil)) (scq [2,6,8,11,13,15,19,20] .nil))) [0,0,0,0,0,0,0,0,0,0,0] ?_;simp only [gD,seval,ab av,ab aB];refine ⟨?_,?_⟩
  ·refine ⟨_,hLay,(by first|rfl|simp [al,aw,ck,ai,ab az,ab ax]),?_⟩;try simp only [ak,gD,seval,ck,ai]
   refine ⟨?_,?_⟩
   ·refine ⟨_,hP,(by first|rfl|simp [a8,aK,al,aw,A1.cells,ck,ai,ab aq,ab az,ab ax]),?_⟩;try simp only [ak,gD,seval,ab az,ab ax]
    refine ⟨?_,?_⟩
    ·refine ⟨_,hG,(by first|rfl|simp [aK,al,aw,A1.cells,ab aq]),?_⟩;try simp only [ak,gD,seval]
     refine awD (scq [1,3,5,6,9] .nil) [0,0,0,0,0] ?_;simp only [gD,seval];refine awX ?_;simp only [gD,seval,ab aq];simp [slR,h0,ay,ai]
    refine ⟨_,hG,(by first|rfl|simp [aK,al,aw,A1.cells,ab aq]),?_⟩;try simp only [ak,gD,seval]
    refine awD (scq [1,3,5,6,9] .nil) [0,0,0,0,0] ?_;simp only [gD,seval];refine awX ?_;simp only [gD,seval,ab aq];simp [slR,h0,ay,ai]
   refine ⟨_,hP,(by first|rfl|simp [a8,aK,al,aw,A1.cells,ck,ai,ab aq,ab az,ab ax]),?_⟩;try simp only [ak,gD,seval,ab az,ab ax]
   refine ⟨_,hG,(by first|rfl|simp [aK,al,aw,A1.cells,ab aq]),?_⟩;try simp only [ak,gD,seval]
   refine awD (scq [1,3,5,6,9] .nil) [0,0,0,0,0] ?_;simp only [gD,seval];refine awX ?_;simp only [gD,seval,ab aq];simp [slR,h0,ay,ai]
  refine ⟨_,hLay,(by first|rfl|simp [al,aw,ck,ai,ab az,ab ax]),?_⟩;try simp only [ak,gD,seval,ck,ai]
  refine ⟨_,hP,(by first|rfl|simp [a8,aK,al,aw,A1.cells,ck,ai,ab aq,ab az,ab ax]),?_⟩;try simp only [ak,gD,seval,ab az,ab ax]
  refine ⟨_,hG,(by first|rfl|simp [aK,al,aw,A1.cells,ab aq]),?_⟩;try simp only [ak,gD,seval]
  refine awD (scq [1,3,5,6,9] .nil) [0,0,0,0,0] ?_;simp only [gD,seval];refine awX ?_;simp only [gD,seval,ab aq];simp [slR,h0,ay,ai]
 refine awN ?_;simp only [gD,seval,h0];refine awT ?_;refine awN ?_;simp only [gD,seval];refine awX ?_;simp only [gD,seval];simp [slR,h0,br]
def KH:=And.intro zS (And.intro il (And.intro cG (And.intro iy (d7))))
theorem gE:type_of%KH:=KH
theorem GM (e:GEst) (m:GRat) (K M nc na:Nat) (hI:eIn e K M nc na) (hm:sB M m) (hZ4:kY nc K M<=10000000000) (hkU:kU nc K<=M) (hb:kG nc K (kB nc K)<=40000000/\kY nc K (kB nc K)<=40000000000/\kG nc K (kB nc K)+(na*600)*(kY nc K (kB nc K)+1)<=50000000000):aU prog 37 [.agg (aI e),.agg (ai m)] (neR e (cL m)):=by
 refine aT func37 rfl (by decide) (N:=26) rfl (by simp) (R:=[.cell 4 32,.tmp 5,.tmp 6]) rfl fun en k0=>?_
 refine awN ?_;simp only [gE,seval,aI,ai];have hC:=je e hI.ok;refine awN ?_;simp only [gE,seval,ab av,ab aB];refine ⟨_,hC,(by first|rfl|simp [a8,aK,al,aw,A1.cells,ck,ai,ab aq,ab az,ab ax]),?_⟩;try simp only [ak,gE,seval]
 by_cases h0:bS e=0
 ·refine awN ?_;simp only [gE,seval,h0];refine awF ?_;refine awK ?_;simp only [gE,seval];have hW:=kL h0;have hLay:=xo e K (K+576*(K+1)) (by have:=hW.n;omega) (by have:=hW.an;omega) hW.cl.rk hI.s.2.1 hI.k0 (by have:=hI.kb;omega) (lG hW hI.s hI.k0 hI.kb);have hB:=jO hW hI.s hI.k0 hI.hnc hI.nc2 hI.hna hI.b;have hP:=jP m M hm hI.m0 (by have:=hI.mb;omega);have heo:=hW.eOK;have hG:=JB (ay e) (cL m) K (kS nc K) M (kZ nc K M) _ _ _ _ hB hI.m0 hI.mb (kM hm hI.m0) (nu m) hZ4 (fun x hx ho=>(Hs hW hI.s hI.k0 hI.hnc hI.nc2 hI.hna hb hx ho).mono hkU) (fun x hx ho=>A4 heo hx ho) (fun x _ ho=>rp ho);simp only [ai,nxR] at hG hP;refine awD (scq [1,5] (.two 1 8 (.two 3 8 (.two 4 8 (scq [11,13,15,16,18,21] .nil) (scq [8,11,13,15,18,21] .nil)) (scq [6,8,11,13,15,18,21] .nil)) (scq [2,6,8,11,13,15,18,21] .nil))) [0,0,0,0,0,0,0,0,0,0,0] ?_;simp only [gE,seval,ab av,ab aB];refine ⟨?_,?_⟩
  ·refine ⟨_,hLay,(by first|rfl|simp [al,aw,ck,ai,ab az,ab ax]),?_⟩;try simp only [ak,gE,seval,ck,ai]
   refine ⟨?_,?_⟩
   ·refine ⟨_,hP,(by first|rfl|simp [a8,aK,al,aw,A1.cells,ck,ai,ab aq,ab az,ab ax]),?_⟩;try simp only [ak,gE,seval,ab az,ab ax]
    refine ⟨?_,?_⟩
    ·refine ⟨_,hG,(by first|rfl|simp [a8,aK,al,aw,A1.cells,ck,ai,ab aq,ab az,ab ax]),?_⟩;try simp only [ak,gE,seval]
     refine awN ?_;simp only [gE,seval];refine awX ?_;simp only [gE,seval];simp [neR,h0,ai]
    refine ⟨_,hG,(by first|rfl|simp [a8,aK,al,aw,A1.cells,ck,ai,ab aq,ab az,ab ax]),?_⟩;try simp only [ak,gE,seval]
    refine awN ?_;simp only [gE,seval];refine awX ?_;simp only [gE,seval];simp [neR,h0,ai]
   refine ⟨_,hP,(by first|rfl|simp [a8,aK,al,aw,A1.cells,ck,ai,ab aq,ab az,ab ax]),?_⟩;try simp only [ak,gE,seval,ab az,ab ax]
   refine ⟨_,hG,(by first|rfl|simp [a8,aK,al,aw,A1.cells,ck,ai,ab aq,ab az,ab ax]),?_⟩;try simp only [ak,gE,seval]
   refine awN ?_;simp only [gE,seval];refine awX ?_;simp only [gE,seval];simp [neR,h0,ai]
  refine ⟨_,hLay,(by first|rfl|simp [al,aw,ck,ai,ab az,ab ax]),?_⟩;try simp only [ak,gE,seval,ck,ai]
  refine ⟨_,hP,(by first|rfl|simp [a8,aK,al,aw,A1.cells,ck,ai,ab aq,ab az,ab ax]),?_⟩;try simp only [ak,gE,seval,ab az,ab ax]
  refine ⟨_,hG,(by first|rfl|simp [a8,aK,al,aw,A1.cells,ck,ai,ab aq,ab az,ab ax]),?_⟩;try simp only [ak,gE,seval]
  refine awN ?_;simp only [gE,seval];refine awX ?_;simp only [gE,seval];simp [neR,h0,ai]
 refine awN ?_;simp only [gE,seval,h0];refine awT ?_;refine awN ?_;simp only [gE,seval];refine awX ?_;simp only [gE,seval];simp [neR,h0,br]
theorem Cz (r:GRat):ye (qOf r)=cL r:=rfl
theorem nw (r:GRat) (M:Nat) (h:sB M r) (hM:M<=100000000000):aU prog 148 [.agg (ai r)] (.val (.agg (ai (enc (cL r))))):=by
 have h1:=GD r M h hM;rwa [Cz] at h1
def rGr (e:GEst) (M:Nat):Prop:=∀q,qB M q->aU prog 147 [.agg (aI e),.agg (ai (enc q))] (.val (.one (.sp (cRS e.claims.length (rG e q)))))
def rDe (e:GEst) (M:Nat):Prop:=∀q,qB M q->aU prog 149 [.agg (aI e),.agg (ai (enc q))] (.val (.one (.sp (cRS e.claims.length (fd e q)))))
def KI:=And.intro zS (And.intro il (And.intro cG (And.intro iy (d7))))
theorem rH:type_of%KI:=KI
theorem CA (e:GEst) (K:Nat) (hI2:ku e) (hl:e.claims.length<=1000) (ham:∀c∈e.claims,sB K c.amount) (hK0:0<K) (hKb:K<=10000000):aU prog 92 [.agg (aI e)] (ttR e):=by
 refine aT func92 rfl (by decide) (N:=13) rfl (by simp) (R:=[.cell 2 32,.tmp 3]) rfl fun en k0=>?_
 refine awN ?_;simp only [rH,seval,aI];have hC:=jf e hI2;rw [←ta] at hC;refine awN ?_;simp only [rH,seval,ab av,ab aB];refine ⟨_,hC,rfl,?_⟩;try simp only [ak,rH,seval]
 by_cases h0:bS e=0
 ·skip;refine awN ?_;simp only [rH,seval,h0];refine awF ?_;refine awK ?_;simp only [rH,seval];have hT:=EW e K (by omega) ham hK0 hKb;simp only [ai] at hT;refine awN ?_;simp only [rH,seval,ab av,ab aB];refine ⟨_,hT,rfl,?_⟩;try simp only [ak,rH,seval]
  refine awX ?_;simp only [rH,seval];simp [ttR,h0,ai]
 skip;refine awN ?_;simp only [rH,seval,h0];refine awT ?_;refine awN ?_;simp only [rH,seval];refine awX ?_;simp only [rH,seval];simp [ttR,h0,br]
def KJ:=And.intro zS (And.intro As (And.intro jW (And.intro il (cG))))
theorem o7:type_of%KJ:=KJ
theorem CB (e:GEst) (m:GRat) (M:Nat) (hI2:ku e) (hM0:0<M) (hMb:M<=100000000000) (hm:sB M m) (hg:bS e=0->rGr e M):aU prog 94 [.agg (aI e),.agg (ai m)] (grR e (cL m)):=by
 refine aT func94 rfl (by decide) (N:=19) rfl (by simp) (R:=[.tmp 4,.tmp 5]) rfl fun en k0=>?_
 refine awN ?_;simp only [o7,seval,aI,ai];have hC:=jf e hI2;rw [←ta] at hC;refine awN ?_;simp only [o7,seval,ab av,ab aB];refine ⟨_,hC,(by first|rfl|simp [a8,aK,al,aw,A1.cells,cRS,ai,ab aq]),?_⟩;try simp only [ak,o7,seval]
 by_cases h0:bS e=0
 ·refine awN ?_;simp only [o7,seval,h0];refine awF ?_;refine awK ?_;simp only [o7,seval];have hP:=nw m M hm hMb;have hG:=hg h0 (cL m) (kM hm hM0);have hge:=(Ht (kL h0).cl (nu m)).1;simp only [ai] at hG hP;refine awD (scq [1,3,4,6] (scT 4 5 .nil)) [0,0,0,0,0,0,0,0,0] ?_;simp only [o7,seval];refine ⟨_,hP,(by first|rfl|simp [a8,aK,al,aw,A1.cells,cRS,ai,ab aq]),?_⟩;try simp only [ak,o7,seval,ab av,ab aB]
  refine ⟨_,hG,(by first|rfl|simp [al,aw,cRS,ab aq]),?_⟩;try simp only [ak,o7,seval,cRS]
  refine awX ?_;simp only [o7,seval,ab aq];simp [grR,h0,hge]
 refine awN ?_;simp only [o7,seval,h0];refine awT ?_;refine awN ?_;simp only [o7,seval];refine awX ?_;simp only [o7,seval];simp [grR,h0]
def KK:=And.intro zS (And.intro As (And.intro Hh (And.intro jW (And.intro il (And.intro cG (And.intro iy (d7)))))))
theorem ov:type_of%KK:=KK
theorem xN (e:GEst) (m:GRat) (M:Nat) (hI2:ku e) (hM0:0<M) (hMb:M<=100000000000) (hm:sB M m) (hg:bS e=0->rDe e M):aU prog 95 [.agg (aI e),.agg (ai m)] (dlR e (cL m)):=by
 refine aT func95 rfl (by decide) (N:=27) rfl (by simp) (R:=[.tmp 4,.cell 5 32,.tmp 6]) rfl fun en k0=>?_
 refine awN ?_;simp only [ov,seval,aI,ai];have hC:=jf e hI2;rw [←ta] at hC;refine awN ?_;simp only [ov,seval,ab av,ab aB];refine ⟨_,hC,(by first|rfl|simp [a8,aK,al,aw,A1.cells,cRS,ai,ab aq]),?_⟩;try simp only [ak,ov,seval]
 by_cases h0:bS e=0
 ·refine awN ?_;simp only [ov,seval,h0];refine awF ?_;refine awK ?_;simp only [ov,seval];have hP:=nw m M hm hMb;have hG:=hg h0 (cL m) (kM hm hM0);obtain ⟨hge,_,_,_⟩:=pk (kL h0).eOK (nu m);simp only [ai] at hG hP;refine awD (scq [1,3,4,6,9] .nil) [0,0,0,0,0] ?_;simp only [ov,seval];refine ⟨_,hP,(by first|rfl|simp [a8,aK,al,aw,A1.cells,cRS,ai,ab aq]),?_⟩;try simp only [ak,ov,seval,ab av,ab aB]
  refine ⟨_,hG,(by first|rfl|simp [al,aw,cRS,ab aq]),?_⟩;try simp only [ak,ov,seval,cRS]
  refine awD (scT 0 9 (scq [18,21] .nil)) [0,0,0,0,0,0,0,0,0,0,0] ?_;simp only [ov,seval];refine awX ?_;simp only [ov,seval,ab aq];simp [dlR,h0,hge,ai]
 refine awN ?_;simp only [ov,seval,h0];refine awT ?_;refine awN ?_;simp only [ov,seval];refine awX ?_;simp only [ov,seval];simp [dlR,h0,br]
def KL:=And.intro zS (And.intro At (And.intro D4 (And.intro jW (And.intro il (And.intro cG (And.intro iy (d7)))))))
theorem ox:type_of%KL:=KL
theorem zz (e:GEst) (m:GRat) (M:Nat) (hI2:ku e) (hM0:0<M) (hMb:M<=100000000000) (hm:sB M m) (hg:bS e=0->rDe e M):aU prog 96 [.agg (aI e),.agg (ai m)] (slR e (cL m)):=by
 refine aT func96 rfl (by decide) (N:=27) rfl (by simp) (R:=[.tmp 4,.cell 5 32,.tmp 6]) rfl fun en k0=>?_
 refine awN ?_;simp only [ox,seval,aI,ai];have hC:=jf e hI2;rw [←ta] at hC;refine awN ?_;simp only [ox,seval,ab av,ab aB];refine ⟨_,hC,(by first|rfl|simp [a8,aK,al,aw,A1.cells,cRS,ai,ab aq]),?_⟩;try simp only [ak,ox,seval]
 by_cases h0:bS e=0
 ·refine awN ?_;simp only [ox,seval,h0];refine awF ?_;refine awK ?_;simp only [ox,seval];have hP:=nw m M hm hMb;have hG:=hg h0 (cL m) (kM hm hM0);obtain ⟨_,hge,_,_⟩:=pk (kL h0).eOK (nu m);simp only [ai] at hG hP;refine awD (scq [1,3,4,6,9] .nil) [0,0,0,0,0] ?_;simp only [ox,seval];refine ⟨_,hP,(by first|rfl|simp [a8,aK,al,aw,A1.cells,cRS,ai,ab aq]),?_⟩;try simp only [ak,ox,seval,ab av,ab aB]
  refine ⟨_,hG,(by first|rfl|simp [al,aw,cRS,ab aq]),?_⟩;try simp only [ak,ox,seval,cRS]
  refine awD (scT 0 9 (scq [18,21] .nil)) [0,0,0,0,0,0,0,0,0,0,0] ?_;simp only [ox,seval];refine awX ?_;simp only [ox,seval,ab aq];simp [slR,h0,hge,ai]
 refine awN ?_;simp only [ox,seval,h0];refine awT ?_;refine awN ?_;simp only [ox,seval];refine awX ?_;simp only [ox,seval];simp [slR,h0,br]
def okN (e:GEst):Prop:=sB 1 e.cash/\(∀c∈e.claims,sB 1 c.amount/\enc (qOf c.amount)=c.amount)/\∀a∈e.agrs,∀t∈a,∀p∈t,sB 1 p.cap
theorem Fh:okN dr:=⟨te,by simp [dr],by simp [dr]⟩
theorem JC (e:GEst) (p:N3) (h:e.claims.length<=6):∀t∈bgN e p,∀q∈t,sB 1 q.cap:=by
 have h1:tOK (fun q=>sB 1 q.cap) (bgT p (bgL e.agrs p e.claims 0 ⟨[],[],[]⟩)):=by
  have h2:=uH (Q:=fun q=>sB 1 q.cap) e.agrs p e.claims.length (fun i hi hf=>by
   show sB 1 (bgP p i).cap;unfold bgP;split
   ·exact dj (fb _ (by omega))
   exact te) e.claims 0 ⟨[],[],[]⟩ (by omega) ⟨by simp,by simp,by simp⟩
  unfold bgT;split
  ·exact uG _ _ _ h2 (dj (fb _ (by omega)))
  exact h2
 intro t ht q hq;simp only [bgN,List.mem_cons,List.not_mem_nil,or_false] at ht;rcases ht with rfl|rfl|rfl
 ·exact h1.1 q hq
 ·exact h1.2.1 q hq
 exact h1.2.2 q hq
theorem Fi (n:Nat) (cash:List Nat) (list:List N4) (pools:List N3):∀e∈nT n cash list pools,okB e/\okN e:=by
 have hz:okB dr/\okN dr:=⟨El,Fh⟩;refine mY (Pr:=fun e=>okB e/\okN e) _ (fun es p h=>?_) _ _ fun e he=>?_
 ·unfold iH;split
  ·rename_i hlt;obtain ⟨h0,q0⟩:=pf h hz (p.a%(1+n%4));have hx:=mX (1+n%4) es p fun e he=>(h e he).1
   unfold iH at hx;rw [if_pos hlt] at hx;generalize es.getD (p.a%(1+n%4)) dr=e at *
   refine uD h _ ⟨⟨h0.1,by simp only [List.length_append,List.length_cons,List.length_nil];omega,fun a ha=>?_⟩,q0.1,q0.2.1,fun a ha=>?_⟩
   ·rcases List.mem_append.1 ha with h1|h1
    ·exact h0.2.2 a h1
    obtain rfl:a=bgN e p:=by simpa using h1
    exact yS e p h0.1
   rcases List.mem_append.1 ha with h1|h1
   ·exact q0.2.2 a h1
   obtain rfl:a=bgN e p:=by simpa using h1
   exact JC e p h0.1
  exact h
 have hE:∀e∈list.foldl (bc (1+n%4)) ((List.range (1+n%4)).map (d8 cash)),okC e/\okN e:=by
  refine mY (Pr:=fun e=>okC e/\okN e) _ (fun es x h=>?_) _ _ fun e he=>?_
  ·have hC:=cf (1+n%4) es x fun e he=>(h e he).1
   refine fun e he=>⟨hC e he,?_⟩
   revert e
   unfold bc;split
   ·exact fun e he=>(h e he).2
   have h0:=(pf h ⟨⟨by simp [dr],rfl⟩,Fh⟩ (x.a%(1+n%4))).2;generalize es.getD (x.a%(1+n%4)) dr=e at *
   refine uD (fun e he=>(h e he).2) _ ⟨h0.1,fun c hc=>?_,h0.2.2⟩;rcases List.mem_append.1 hc with h1|h1
   ·exact h0.2.1 c h1
   obtain rfl:c=aD (1+n%4) x:=by simpa using h1
   exact ⟨dj (uf _),by show enc (qOf (enc _))=enc _;rw [cc]⟩
  obtain ⟨i,_,rfl⟩:=List.mem_map.1 he;refine ⟨⟨by simp [d8],rfl⟩,?_,by simp [d8],by simp [d8]⟩;unfold d8;simp only;split
  ·exact dj (uf _)
  exact te
 obtain ⟨⟨h1,h2⟩,h3⟩:=hE e he;exact ⟨⟨h1,by rw [h2];simp,by rw [h2];simp⟩,h3⟩
noncomputable def jS (c:Nat) (list:List N4) (pools:List N3):GEst:=(nT 0 [c] list pools).getD 0 dr
theorem Fj (c:Nat) (list:List N4) (pools:List N3):jS c list pools∈nT 0 [c] list pools:=by
 have h:=wS 0 [c] list pools;unfold jS;rw [List.getD_eq_getElem?_getD,List.getElem?_eq_getElem (by omega)];exact List.getElem_mem _
theorem tL (c:Nat) (list:List N4) (pools:List N3):nT 0 [c] list pools=[jS c list pools]:=by
 have h:=wS 0 [c] list pools;unfold jS;match hg:nT 0 [c] list pools,h with
 |[e],_=>rfl
theorem jT (c:Nat) (list:List N4) (pools:List N3):okB (jS c list pools)/\okN (jS c list pools):=Fi _ _ _ _ _ (Fj c list pools)
theorem Bk (c:Nat) (list:List N4) (pools:List N3):bS (jS c list pools)=0:=by
 have h1:=Jh 0 [c] list pools;rw [tL] at h1;have h2:=h1 0 (by simp);obtain ⟨h3,_⟩:=jT c list pools;rw [ta];exact wX (by decide) h2 (by have:=h3.1;omega) (by have:=h3.2.1;omega)
theorem rI {r:GRat} (h:sB 1 r):qu r:=⟨Nat.le_trans h.1 (by decide),Nat.le_trans h.2 (by decide)⟩
theorem u7 (c:Nat) (list:List N4) (pools:List N3) {M:Nat} (h0:0<M) (hM:M<=704000):eIn (jS c list pools) 1 M 6 2:=by
 obtain ⟨b1,b2,b3⟩:=(jT c list pools).1;obtain ⟨q1,q2,q3⟩:=(jT c list pools).2;refine ⟨⟨rI q1,fun c hc=>rI (q2 c hc).1,by omega,fun a ha=>⟨fun t ht=>by have:=(b3 a ha).2 t ht;omega,fun p hp=>?_⟩⟩,⟨q1,fun c hc=>(q2 c hc).1,q3⟩,by decide,h0,b1,by decide,b2,by decide,by omega,?_,?_,?_⟩
 ·obtain ⟨t,ht,hp⟩:=List.mem_flatten.1 hp;exact rI (q3 a ha t ht p hp)
 ·unfold kG kZ kS;omega
 ·unfold kY kT kK kG kZ kS;omega
 unfold kY kT kK kG kZ kS;omega
theorem Hv:∀a:List (List GPart),(∀t∈a,t.length<=7)->pN a<=7*a.length
 |[],_=>Nat.le_refl _
 |t::a,h=>by
  have h1:=Hv a fun x hx=>h x (by simp [hx])
  have h2:=h t (by simp);simp only [pN,List.length_cons];omega
theorem Hw (cs:List GClaim) (n:Nat):∀l:List bP,(∀a∈l,wN (ba cs a).2<=n)->aN cs l<=l.length*n
 |[],_=>by simp [aN]
 |a::l,h=>by
  have h1:=Hw cs n l fun x hx=>h x (by simp [hx])
  have h2:=h a (by simp);rw [aN,List.length_cons,Nat.succ_mul];omega
theorem Bl (c:Nat) (list:List N4) (pools:List N3) {M:Nat} (h0:0<M) (hM:M<=704000):rdB (jS c list pools) 1 1153 13 M 704200 4225207 25351249 1153 27697 51500000 51500000:=by
 obtain ⟨b1,b2,b3⟩:=(jT c list pools).1;obtain ⟨q1,q2,q3⟩:=(jT c list pools).2;have hW:=kL (Bk c list pools);have hI:=u7 c list pools h0 hM;have hB:=jO hW hI.s hI.k0 hI.hnc hI.nc2 hI.hna hI.b;have hla:=lG hW hI.s hI.k0 hI.kb;generalize jS c list pools=e at *
 have hrn:=nq e.claims;have hr8:=fv e.claims;have k1:kK 1=1153:=rfl;have k2:kT 1=27697:=rfl;have k3:kS 6 1=13:=rfl;have hpl:∀a∈e.agrs,wOK 1153 27697 (ba e.claims a).2/\∀t∈(ba e.claims a).2,wIn e.claims.length t:=fun a ha=>by
  have h:=hB.pl _ (List.mem_map.2 ⟨a,ha,rfl⟩);rw [k1,k2] at h;exact ⟨h.1,h.2.1⟩
 have hrk:=hB.rk;rw [k3] at hrk;have hlen:∀a∈e.agrs,(ba e.claims a).2.length<=4:=fun a ha=>by
  have e4:(ba e.claims a).2.length=a.length+1:=by show ((bD a _).2++[_]).length=_;rw [List.length_append,(iw a _).1];rfl
  have:=(b3 a ha).1;omega
 have hwn:∀a∈e.agrs,wN (ba e.claims a).2<=27:=fun a ha=>by
  have h1:=Hv a (b3 a ha).2;have h2:=(hW.mi a ha).2;have h3:=(b3 a ha).1;show wN ((bD a _).2++[_])<=27;rw [nQ,(iw a _).2];have:(fa (mem a) (bD a (e.claims.map fun c=>qOf c.amount)).1).length<=6:=by unfold fa;rw [List.length_map];omega
  simp only [wN];omega
 have han:=Hw e.claims 27 e.agrs hwn;refine ⟨by omega,by omega,hI.s.2.1,by decide,hrk,eR e.claims,by omega,by omega,fun a ha=>hla a ha,hpl,by omega,by decide,fun a ha=>?_,fun a ha=>?_,by decide,by decide,by decide,by decide,by decide,by decide,?_⟩
 ·have:=hlen a ha;omega
 ·have:=hlen a ha;omega
 omega
theorem GN (c:Nat) (list:List N4) (pools:List N3) {M:Nat} (h0:0<M) (hM:M<=704000):rGr (jS c list pools) M:=fun q hq=>by
 have hB:=Bl c list pools h0 hM;have hrn:=nq (jS c list pools).claims;have b1:=(jT c list pools).1.1;exact xA _ q 1 13 M 704200 hB.n hB.am hB.kb hB.rk hB.rin hq hB.z (by omega) (by decide)
theorem GO (c:Nat) (list:List N4) (pools:List N3) {M:Nat} (h0:0<M) (hM:M<=704000):rDe (jS c list pools) M:=fun q hq=>
 Jv _ q _ _ _ _ _ _ _ _ _ _ _ (Bl c list pools h0 hM) hq
theorem Fk (c:Nat) (list:List N4) (pools:List N3):ku (jS c list pools):=by
 refine ⟨(u7 c list pools (M:=1) (by decide) (by decide)).ok,fun a ha=>?_⟩;have:=((jT c list pools).1.2.2 a ha).1;omega
def sEq (e:GEst) (x m:Rat):Prop:=(cn (ay e) x).rv=(cn (ay e) m).rv/\(cn (ay e) x).cl=(cn (ay e) m).cl
def nxI (e:GEst) (m:Rat) (n:Nat) (x:Rat):Prop:=(sEq e x m/\wMu (ay e) x<n/\iV (ay e) (cn (ay e) m) n x=fB (ay e) m)∨(¬sEq e x m/\fB (ay e) m=some x)
theorem CC (e:GEst) (m:Rat):nxI e m (wMu (ay e) m+1) m:= .inl ⟨⟨rfl,rfl⟩,Nat.lt_succ_self _,rfl⟩
theorem Fl {e:GEst} {m x:Rat} {n:Nat} (h:nxI e m n x) (hs:sEq e x m) (ho:bd (aF e.claims) x) (hmu:wMu (ay e) (x+bJ (ay e) x)<wMu (ay e) x):∃k,n=k+1/\nxI e m k (x+bJ (ay e) x):=by
 rcases h with ⟨_,h2,h3⟩|⟨h1,_⟩
 ·obtain ⟨k,rfl⟩:∃k,n=k+1:=⟨n-1,by omega⟩;refine ⟨k,rfl,?_⟩;have ho2:bd (ay e).ranks x:=ho;simp only [iV,ho2,if_true] at h3;by_cases hs2:sEq e (x+bJ (ay e) x) m
  ·have hs3:=hs2;unfold sEq at hs3;rw [if_pos hs3] at h3;exact .inl ⟨hs2,by omega,h3⟩
  have hs3:=hs2;unfold sEq at hs3;rw [if_neg hs3] at h3;exact .inr ⟨hs2,h3.symm⟩
 exact absurd hs h1
theorem xO {e:GEst} {m x:Rat} {n:Nat} (h:nxI e m n x) (hs:¬sEq e x m):fB (ay e) m=some x:=h.elim (fun h=>absurd h.1 hs) fun h=>h.2
theorem GP {e:GEst} {m x:Rat} {n:Nat} (h:nxI e m n x) (ho:¬bd (aF e.claims) x):(sEq e x m/\fB (ay e) m=none)∨(¬sEq e x m/\fB (ay e) m=some x):=by
 rcases h with ⟨h1,h2,h3⟩|h
 ·obtain ⟨k,rfl⟩:∃k,n=k+1:=⟨n-1,by omega⟩;have ho2:¬bd (ay e).ranks x:=ho;simp only [iV,ho2,if_false] at h3;exact .inl ⟨h1,h3.symm⟩
 exact .inr h
theorem xQ:∀l:List Rat,rNN l->0<=jZ l/\(jZ l<=0->∀q∈l,q=0)
 |[],_=>⟨by simp [jZ],fun _ q h=>by cases h⟩
 |x::l,h=>by
  obtain ⟨h1,h2⟩:=xQ l fun q hq=>h q (by simp [hq])
  have hx:=h x (by simp);rw [jZ];refine ⟨by grind,fun hz q hq=>?_⟩;rcases List.mem_cons.1 hq with rfl|hq
  ·grind
  exact h2 (by grind) q hq
theorem zA {e:GEst} {x:Rat} (he:eOK e) (hx:0<=x) (ho:¬bd (aF e.claims) x):(∀q∈(cn (ay e) x).cl,q=0)/\(cn (ay e) x).rv=0:=by
 have h1:=GJ he hx;obtain ⟨h2,h3⟩:=Ju he hx;have h4:¬x<cx e.claims:=fun h=>ho ((tz _ _ hx (fA he.cl.am)).2 (by rw [qZ he.cl.rk];exact h))
 rw [if_neg h4] at h1;obtain ⟨h5,h6⟩:=xQ _ h2;exact ⟨h6 (by grind),by grind⟩
def nzA:List Rat->Bool
 |[]=>false
 |q::l=>if q=0 then nzA l else true
theorem oy:∀{l:List Rat},nzA l=false↔∀q∈l,q=0
 |[]=>by simp [nzA]
 |q::l=>by
  rw [nzA];by_cases h:q=0
  ·rw [if_pos h,oy (l:=l)];simp [h]
  rw [if_neg h];simp [h]
theorem CD {l k:List Rat} (hl:l.length=k.length) (h1:∀q∈l,q=0) (h2:∀q∈k,q=0):l=k:=by
 refine List.ext_getElem hl fun i a b=>?_
 rw [h1 _ (List.getElem_mem a),h2 _ (List.getElem_mem b)]
theorem JD {e:GEst} {m x:Rat} (he:eOK e) (hx:0<=x) {n:Nat} (h:nxI e m n x) (ho:¬bd (aF e.claims) x):(nzA (cn (ay e) m).cl=false/\(cn (ay e) m).rv=0->fB (ay e) m=none)/\(¬(nzA (cn (ay e) m).cl=false/\(cn (ay e) m).rv=0)->fB (ay e) m=some x):=by
 obtain ⟨c1,c2⟩:=zA he hx ho;have hl:(cn (ay e) x).cl.length=(cn (ay e) m).cl.length:=by rw [d9,d9]
 rcases GP h ho with ⟨⟨s1,s2⟩,h2⟩|⟨hs,h2⟩
 ·refine ⟨fun _=>h2,fun hn=>absurd ⟨oy.2 ?_,?_⟩ hn⟩
  ·rw [←s2];exact c1
  rw [←s1];exact c2
 refine ⟨fun ⟨a,b⟩=>absurd ⟨by rw [b];exact c2,CD hl c1 (oy.1 a)⟩ hs,fun _=>h2⟩
theorem eJ (e:GEst) (m:Rat):(cn (ay e) m).cl.length=e.claims.length:=d9 _ _
def KM:=And.intro zS (And.intro qo (And.intro me (cG)))
theorem j6:type_of%KM:=KM
theorem fC (l k:List Rat) (n9:Nat) (hl:l.length=n9) (hk:k.length=n9) (hn:n9<=1000000):aU prog 43 [.one (.sh 3 n9 (ar cQ l)),.one (.sh 3 n9 (ar cQ k))] (one (.bool (eqR l k))):=by
 subst hl;refine aT func43 rfl (by decide) (N:=26) rfl (by simp) (R:=[.tmp 4]) rfl fun en k0=>?_
 refine awN ?_;simp only [j6,seval];refine awN ?_;simp only [j6,seval];refine awF ?_;refine awK ?_;simp only [j6,seval];refine awN ?_;simp only [j6,seval];refine aS [0,1,5] [] ?_;try simp only [ak,j6,seval]
 repeat' first|apply awS|apply awB
 refine aM (fun n st=>∃i0 nx,i0<=l.length/\n=l.length-i0/\eqR (l.drop i0) (k.drop i0)=eqR l (k.drop 0)/\st=⟨mkT [(0,.val (.one (.sh 3 l.length (ar cQ l)))),(1,.val (.one (.sh 3 l.length (ar cQ k)))),(5,one (.int .i64 i0))],mkH [],nx,0⟩) (l.length) ⟨0,_,by omega,by omega,by rfl,rfl⟩ ?_;rintro n0 st ⟨i0,nx0,hk0,rfl,hL0,rfl⟩;by_cases hlt0:i0<l.length
 ·have hI0:(i0:Int)<(l.length:Int):=by omega
  have hat0:=aO bV l i0 hlt0;try rw [Nat.mul_one] at hat0
  rw [List.drop_eq_getElem_cons hlt0] at hL0;have hik:i0<k.length:=by omega
  have hatk:=aO bV k i0 hik;simp only [cQ,ai] at hatk;rw [List.drop_eq_getElem_cons hik] at hL0;generalize l[i0]=x at *
  simp only [xM] at hL0;refine awN ?_;simp only [j6,seval,hI0];refine awT ?_;refine awK ?_;simp only [j6,seval];by_cases heq:x=k[i0]
  ·have q3:decide (x=k[i0])=true:=by simp [heq]
   have q1:=dL (enc x) (enc k[i0]);have q2:=dM x k[i0];refine awD (scT 0 9 .nil) [0,0,0,0,0,0,0,0,0] ?_;simp only [j6,seval,ai,hI0,q3,hat0,hatk,cQ,q1,q2];repeat refine ob ?_
   refine awF ?_;refine awK ?_;simp only [j6,seval];refine awN ?_;simp only [j6,seval];repeat refine ob ?_
   refine ⟨_,aC [0,1,5] [],l.length-(i0+1),by omega,i0+1,?a6_nx,by omega,rfl,?i6_0,?st6⟩;case st6=>(simp only [j6,seval];first|rfl|(simp [hI0,hat0,q3,Nat.add_mul];done))
   case i6_0=>(rw [if_pos heq,List.drop_zero] at hL0;exact hL0)
  have q3:decide (x=k[i0])=false:=by simp [heq]
  have q1:=dL (enc x) (enc k[i0]);have q2:=dM x k[i0];refine awD (scT 0 9 .nil) [0,0,0,0,0,0,0,0,0] ?_;simp only [j6,seval,ai,hI0,q3,hat0,hatk,cQ,q1,q2];repeat refine ob ?_
  refine awT ?_;refine awN ?_;simp only [j6,seval];refine awX ?_;try simp only [j6,seval]
  have h9:eqR l k=false:=by rw [List.drop_zero,if_neg heq] at hL0;exact hL0.symm
  rw [h9]
 obtain rfl:i0=l.length:=by omega
 have hI0:¬(l.length:Int)<(l.length:Int):=by omega
 rw [List.drop_length] at hL0;simp only [Bj] at hL0;refine awN ?_;simp only [j6,seval,hI0];refine awF ?_;refine awQ ?_;simp only [j6,seval];refine awN ?_;simp only [j6,seval];refine awX ?_;try simp only [j6,seval]
 have h9:eqR l k=true:=by rw [List.drop_zero] at hL0;exact hL0.symm
 rw [h9]
def KN:=And.intro zS (And.intro qo (And.intro me (And.intro IQ (And.intro At (And.intro D4 (And.intro DZ (And.intro D3 (And.intro jW (And.intro il (And.intro cG (And.intro rY (And.intro IR (And.intro iy (d7))))))))))))))
theorem cD:type_of%KN:=KN
theorem Fm (e:GEst) (r:GRat) (M:Nat) (hI2:ku e) (hM0:0<M) (hMb:M<=40000000) (hm:sB M r) (hg:bS e=0->rDe e M) (hU:∀x,0<=x->bd (aF e.claims) x->qB M (x+bJ (ay e) x)):aU prog 97 [.agg (aI e),.agg (ai r)] (neR e (cL r)):=by
 refine aT func97 rfl (by decide) (N:=86) rfl (by simp) (R:=[.cell 4 32,.tmp 5,.tmp 6]) rfl fun en k0=>?_
 refine awN ?_;simp only [cD,seval,aI,ai];have hC:=jf e hI2;rw [←ta] at hC;refine awN ?_;simp only [cD,seval,ab av,ab aB];refine ⟨_,hC,(by first|rfl|simp [a8,aK,al,aw,A1.cells,cRS,ai,ab aq]),?_⟩;try simp only [ak,cD,seval]
 by_cases h0:bS e=0
 ·refine awN ?_;simp only [cD,seval,h0];refine awF ?_;refine awK ?_;simp only [cD,seval];have hW:=kL h0;have heo:=hW.eOK;have hP:=nw r M hm (by omega);have hmB:=kM hm hM0;have hm0:=nu r;generalize cL r=m at *
  simp only [ai] at hP;refine awN ?_;simp only [cD,seval];refine ⟨_,hP,(by first|rfl|simp [a8,aK,al,aw,A1.cells,cRS,ai,ab aq]),?_⟩;try simp only [ak,cD,seval]
  have hG:=hg h0 m hmB;obtain ⟨_,d2,d3,d4⟩:=pk heo hm0;obtain ⟨D,hD⟩:∃D,fd e m=D:=⟨_,rfl⟩;simp only [ai] at hG;refine awN ?_;simp only [cD,seval,ab av,ab aB];refine ⟨_,hG,(by first|rfl|simp [al,aw,cRS,ab aq]),?_⟩;try simp only [ak,cD,seval,hD]
  refine awN ?_;simp only [cD,seval,cRS];refine aS [2,4,8,9,10] [2,4,8] ?_;try simp only [ak,cD,seval]
  repeat' first|apply awS|apply awB
  refine aM (fun n st=>∃x nx,qB M x/\0<=x/\nxI e m n x/\st=⟨mkT [(2,.val (.one (.ptr 2 0 0))),(4,.val (.one (.ptr 4 2 0))),(8,.val (.one (.ptr 8 3 0))),(9,.val (.one (.sp (cRS e.claims.length D)))),(10,.val (.one (.sp (cRS e.claims.length (fd e x)))))],mkH [(2,⟨0,36,5,1,aI e⟩),(4,⟨2,32,3,1,[.lit (.bool false),.lit (.string aA),.lit (.string aA)]⟩),(8,⟨3,32,3,1,ai (enc x)⟩)],nx,0⟩) (wMu (ay e) m+1) ⟨m,_,hmB,hm0,CC e m,by rw [hD];rfl⟩ ?_;rintro n0 st ⟨x,nx0,hxB,hx0,hnx,rfl⟩;obtain ⟨_,hx2,hx3,hx4⟩:=pk heo hx0;by_cases hb:(fd e x).bnd=true
  ·refine awN ?_;simp only [cD,seval,aI,hb,cRS];refine awT ?_;refine awK ?_;simp only [cD,seval];by_cases hcl:eqR (fd e x).slo.cl D.slo.cl=true
   ·by_cases hrv:(fd e x).slo.rv=D.slo.rv
    ·have q3:decide ((fd e x).slo.rv=D.slo.rv)=true:=by simp [hrv]
     have hSR:=fC (fd e x).slo.cl D.slo.cl e.claims.length (by rw [hx2,eJ]) (by rw [←hD,d2,eJ]) (by have:=hW.n;omega);have q1:=dL (enc (fd e x).slo.rv) (enc D.slo.rv);have q2:=dM (fd e x).slo.rv D.slo.rv;refine awD (scT 0 8 (scq [16] (scT 9 12 .nil))) [0,0,0,0,0,0,0,0,0,0,0,84,84,84,84,84,84,84,84,84,0] ?_;simp only [cD,seval,ab aq];refine ⟨_,hSR,(by first|rfl|simp [a8,aK,al,aw,A1.cells,cRS,ai,ab aq]),?_⟩;try simp only [ak,cD,seval,hcl,q3,q1,q2]
     refine awF ?_;refine awK ?_;simp only [cD,seval];have hop:=hx3.1 hb;have hrm:=hx4 hop;have hxs:=hU x hx0 hop;have hst:qB (M+M+1) (bJ (ay e) x):=by have:=hxs.sub hxB;rwa [show x+bJ (ay e) x-x=bJ (ay e) x by grind] at this
     have hAd:=mV x (bJ (ay e) x) _ _ hxB hst (by omega) (by omega);rw [←hrm] at hAd;simp only [ai] at hAd;have hpos:=rp (e:=e) hop;refine awD (scT 0 5 (scq [10,12] .nil)) [0,0,0,0,0,0,0] ?_;simp only [cD,seval,ai];refine ⟨_,hAd,(by first|rfl|simp [a8,aK,al,aw,A1.cells,cRS,ai,ab aq]),?_⟩;try simp only [ak,cD,seval]
     have hG2:=hg h0 (x+(fd e x).room) (by rw [hrm];exact hxs);simp only [ai] at hG2;refine awN ?_;simp only [cD,seval,ab av,ab aB];refine ⟨_,hG2,(by first|rfl|simp [al,aw,cRS,ab aq]),?_⟩;try simp only [ak,cD,seval]
     have hsq:sEq e x m:=⟨by have h:=hrv;rw [←hD,hx2,d2] at h;exact h,by have h:=(iK (by rw [hx2,←hD,d2,eJ,eJ])).1 hcl;rw [←hD,hx2,d2] at h;exact h⟩;obtain ⟨k9,rfl,hnx9⟩:=Fl hnx hsq hop (A4 heo hx0 hop);rw [←hrm] at hnx9;refine ⟨_,aC [2,4,8,9,10] [2,4,8],k9,by omega,x+(fd e x).room,?na,by rw [hrm];exact hxs,by rw [hrm];grind,hnx9,?st⟩;case st=>(simp only [cD,seval];rfl)
    have q3:decide ((fd e x).slo.rv=D.slo.rv)=false:=by simp [hrv]
    have hSR:=fC (fd e x).slo.cl D.slo.cl e.claims.length (by rw [hx2,eJ]) (by rw [←hD,d2,eJ]) (by have:=hW.n;omega);have q1:=dL (enc (fd e x).slo.rv) (enc D.slo.rv);have q2:=dM (fd e x).slo.rv D.slo.rv;refine awD (scT 0 8 (scq [16] (scT 9 12 .nil))) [0,0,0,0,0,0,0,0,0,0,0,84,84,84,84,84,84,84,84,84,0] ?_;simp only [cD,seval,ab aq];refine ⟨_,hSR,(by first|rfl|simp [a8,aK,al,aw,A1.cells,cRS,ai,ab aq]),?_⟩;try simp only [ak,cD,seval,hcl,q3,q1,q2]
    refine awT ?_;refine awN ?_;simp only [cD,seval,ai];refine awX ?_;have hno:=xO hnx (fun h=>hrv (by rw [hx2,←hD,d2];exact h.1));simp only [cD,seval];simp [neR,h0,hno,ai]
   have hSR:=fC (fd e x).slo.cl D.slo.cl e.claims.length (by rw [hx2,eJ]) (by rw [←hD,d2,eJ]) (by have:=hW.n;omega);have q1:=dL (enc (fd e x).slo.rv) (enc D.slo.rv);have q2:=dM (fd e x).slo.rv D.slo.rv;refine awD (scT 0 8 (scq [16] (scT 9 12 .nil))) [0,0,0,0,0,0,0,0,0,0,0,84,84,84,84,84,84,84,84,84,0] ?_;simp only [cD,seval,ab aq];refine ⟨_,hSR,(by first|rfl|simp [a8,aK,al,aw,A1.cells,cRS,ai,ab aq]),?_⟩;try simp only [ak,cD,seval,hcl]
   refine awT ?_;refine awN ?_;simp only [cD,seval,ai];refine awX ?_;have hno:=xO hnx (fun h=>hcl ((iK (by rw [hx2,←hD,d2,eJ,eJ])).2 (by rw [hx2,←hD,d2];exact h.2)));simp only [cD,seval];simp [neR,h0,hno,ai]
  refine awN ?_;simp only [cD,seval,aI,hb,cRS];refine awF ?_;refine awQ ?_;simp only [cD,seval];refine awN ?_;simp only [cD,seval];have hno:=mt hx3.2 hb;obtain ⟨e1,e2⟩:=JD heo hx0 hnx hno;rw [←d2,hD] at e1 e2;have hDl:D.slo.cl.length=e.claims.length:=by rw [←hD,d2,eJ]
  have hn24:=hW.n;refine aS [4,8,9,11] [4,8] ?_;try simp only [ak,cD,seval]
  repeat' first|apply awS|apply awB
  refine aM (fun n st=>∃i1 nx,i1<=D.slo.cl.length/\n=D.slo.cl.length-i1/\nzA (D.slo.cl.drop i1)=nzA D.slo.cl/\st=⟨mkT [(4,.val (.one (.ptr 4 2 0))),(8,.val (.one (.ptr 8 3 0))),(9,.val (.one (.sp (cRS e.claims.length D)))),(11,one (.int .i64 i1))],mkH [(4,⟨2,32,3,1,[.lit (.bool false),.lit (.string aA),.lit (.string aA)]⟩),(8,⟨3,32,3,1,ai (enc x)⟩)],nx,0⟩) (D.slo.cl.length) ⟨0,_,by omega,by omega,by rfl,rfl⟩ ?_;rintro n1 st ⟨i1,nx1,hk1,rfl,hL1,rfl⟩;by_cases hlt1:i1<D.slo.cl.length
  ·have hI1:(i1:Int)<(D.slo.cl.length:Int):=by omega
   have hat1:=aO bV D.slo.cl i1 hlt1;try rw [Nat.mul_one] at hat1
   rw [List.drop_eq_getElem_cons hlt1] at hL1;have hI9:(i1:Int)<(e.claims.length:Int):=by omega
   generalize D.slo.cl[i1]=q at *
   simp only [nzA] at hL1;refine awN ?_;simp only [cD,seval,cRS,hI9];refine awT ?_;refine awK ?_;simp only [cD,seval];by_cases hq0:q=0
   ·have hz:(enc q).num={data:= #[]}:=(oS _).2 hq0;refine awN ?_;simp only [cD,seval,hat1,hz,cQ,ai];repeat refine ob ?_
    refine awF ?_;refine awK ?_;simp only [cD,seval];refine awN ?_;simp only [cD,seval];repeat refine ob ?_
    refine ⟨_,aC [4,8,9,11] [4,8],D.slo.cl.length-(i1+1),by omega,i1+1,?a21_nx,by omega,rfl,?i21_0,?st21⟩;case st21=>(simp only [cD,seval];first|rfl|(simp [h0,hb,hI1,hat1,hz,Nat.add_mul];done))
    case i21_0=>(rw [if_pos hq0] at hL1;exact hL1)
   have hz:¬(enc q).num={data:= #[]}:=fun h=>hq0 ((oS _).1 h)
   refine awN ?_;simp only [cD,seval,hat1,hz,cQ,ai];repeat refine ob ?_
   refine awT ?_;refine awN ?_;simp only [cD,seval];refine awX ?_;have hn9:=e2 (fun h=>by rw [if_neg hq0] at hL1;rw [h.1] at hL1;cases hL1);simp only [cD,seval];simp [neR,h0,hn9,ai]
  obtain rfl:i1=D.slo.cl.length:=by omega
  have hI1:¬(D.slo.cl.length:Int)<(D.slo.cl.length:Int):=by omega
  rw [List.drop_length] at hL1;simp only [nzA] at hL1;have hI9:¬(D.slo.cl.length:Int)<(e.claims.length:Int):=by omega
  refine awN ?_;simp only [cD,seval,cRS,hI9];refine awF ?_;refine awQ ?_;simp only [cD,seval];by_cases hr0:D.slo.rv=0
  ·have hz2:(enc D.slo.rv).num={data:= #[]}:=(oS _).2 hr0;refine awN ?_;simp only [cD,seval,hz2];refine awF ?_;refine awK ?_;simp only [cD,seval];refine awN ?_;simp only [cD,seval];refine awX ?_;have hn9:=e1 ⟨hL1.symm,hr0⟩;simp only [cD,seval];simp [neR,h0,hn9,br]
  have hz2:¬(enc D.slo.rv).num={data:= #[]}:=fun h=>hr0 ((oS _).1 h)
  refine awN ?_;simp only [cD,seval,hz2];refine awT ?_;refine awN ?_;simp only [cD,seval,ai];refine awX ?_;have hn9:=e2 (fun h=>hr0 h.2);simp only [cD,seval];simp [neR,h0,hn9,ai]
 refine awN ?_;simp only [cD,seval,h0];refine awT ?_;refine awN ?_;simp only [cD,seval];refine awX ?_;simp only [cD,seval];simp [neR,h0,br]
def xP (i:Int):GPart:=⟨i,false,gZ⟩
def xC (i:Int) (c:Rat):GPart:=⟨i,true,enc c⟩
theorem KO:(jQ.map fun c=>qOf c.amount)=[60,40]:=by simp [jQ,cc]
theorem Fn:aF jQ=[[],[],[(0,60),(1,40)],[],[],[],[],[]]:=by
 simp [aF,List.range,List.range.loop,wRk,jQ,cc]
theorem rJ (ags:List bP):ay (exE ags)=⟨2,[[],[],[(0,60),(1,40)],[],[],[],[],[]],ags.map (ba jQ),100⟩:=by
 have h1:cx jQ=100:=by
  have:cx jQ=60+(40+0):=by simp [cx,jQ,cc]
  rw [this];grind
 unfold ay exE;rw [Fn,h1];rfl
theorem u9 (a:bP) (h:∀t∈a,∀x∈t,inR 2 x.claim):ba jQ a=(rMs a 2 0,(bD a [60,40]).2++[fa (rMs a 2 0) (bD a [60,40]).1]):=by
 unfold ba;rw [KO,zj h]
def xB:bP:=[[xP 1],[xP 0]]
noncomputable def xCC:bP:=[[xC 1 15],[xP 0]]
noncomputable def xD:bP:=[[xC (-1) 12],[xP 0,xP 1]]
theorem GQ:ba jQ xB=([0,1],[[(1,40)],[(0,60)],[(0,0),(1,0)]]):=by
 rw [u9 xB (by simp [xB,xP,inR])];simp [rMs,mbA,mbT,xB,xP,bD,cy,cV,fa,Rat.sub_self]
theorem Bm:ba jQ xCC=([0,1],[[(1,15)],[(0,60)],[(0,0),(1,25)]]):=by
 have h1:bT 40 15=15:=by kernel_rfl
 have h2:(40:Rat)-15=25:=by kernel_rfl
 rw [u9 xCC (by simp [xCC,xC,xP,inR])];simp [rMs,mbA,mbT,xCC,xC,xP,bD,cy,cV,fa,cc,h1,h2,Rat.sub_self]
theorem GR:ba jQ xD=([0,1],[[(-1,12)],[(0,60),(1,40)],[(0,0),(1,0)]]):=by
 rw [u9 xD (by simp [xD,xC,xP,inR])];simp [rMs,mbA,mbT,xD,xC,xP,bD,cy,cV,fa,cc,Rat.sub_self]
theorem GS:(fo (ay (exE [])) ((50:Int):Rat)).cl=[((30:Int):Rat),((20:Int):Rat)]:=by
 rw [rJ];kernel_rfl
theorem GT:(fo (ay (exE [xB])) ((50:Int):Rat)).cl=[((10:Int):Rat),((40:Int):Rat)]:=by
 rw [rJ,List.map_cons,GQ];kernel_rfl
theorem GU:(fo (ay (exE [xCC])) ((50:Int):Rat)).cl=[((35:Int):Rat),((15:Int):Rat)]:=by
 rw [rJ,List.map_cons,Bm];kernel_rfl
theorem Fo:(fo (ay (exE [xCC])) ((95:Int):Rat)).cl=[((60:Int):Rat),((35:Int):Rat)]:=by
 rw [rJ,List.map_cons,Bm];kernel_rfl
theorem GV:(fo (ay (exE [xD])) ((50:Int):Rat)).cl=[mkRat 114 5,mkRat 76 5]:=by
 rw [rJ,List.map_cons,GR];kernel_rfl
theorem vd {q:Rat} (h:0<=q):¬cr q<0:=by
 unfold cr;rw [fF];grind
def xOK (a:bP):Prop:=a.length<=2/\(∀t∈a,t.length<=2)/\∀t∈a,∀p∈t,(p.claim= -1/\p.capped=true∨0<=p.claim/\p.claim<2)/\sB 1 p.cap/\0<=qOf p.cap
theorem xR (i:Int) (h:0<=i/\i<2):((xP i).claim= -1/\(xP i).capped=true∨0<=(xP i).claim/\(xP i).claim<2)/\sB 1 (xP i).cap/\0<=qOf (xP i).cap:=⟨.inr h,te,by show 0<=qOf gZ;rw [ml];grind⟩
theorem Hx (i:Int) (c:Nat) (h:i= -1∨0<=i/\i<2) (hc:c<256):((xC i ((c:Int):Rat)).claim= -1/\(xC i ((c:Int):Rat)).capped=true∨0<=(xC i ((c:Int):Rat)).claim/\(xC i ((c:Int):Rat)).claim<2)/\sB 1 (xC i ((c:Int):Rat)).cap/\0<=qOf (xC i ((c:Int):Rat)).cap:=
 ⟨h.imp (fun h=>⟨h,rfl⟩) id,dj (fb c hc),by show 0<=qOf (enc _);rw [cc];exact_mod_cast Nat.zero_le c⟩
theorem Hy:xOK xB:=⟨by simp [xB],by simp [xB],by
 intro t ht p hp;simp only [xB,List.mem_cons,List.not_mem_nil,or_false] at ht;rcases ht with rfl|rfl<;>simp only [List.mem_cons,List.not_mem_nil,or_false] at hp<;>subst hp
 ·exact xR 1 (by decide)
 exact xR 0 (by decide)⟩
theorem ve:xOK xCC:=⟨by simp [xCC],by simp [xCC],by
 intro t ht p hp;simp only [xCC,List.mem_cons,List.not_mem_nil,or_false] at ht;rcases ht with rfl|rfl<;>simp only [List.mem_cons,List.not_mem_nil,or_false] at hp<;>subst hp
 ·exact Hx 1 15 (by decide) (by decide)
 exact xR 0 (by decide)⟩
theorem Hz:xOK xD:=⟨by simp [xD],by simp [xD],by
 intro t ht p hp;simp only [xD,List.mem_cons,List.not_mem_nil,or_false] at ht;rcases ht with rfl|rfl<;>simp only [List.mem_cons,List.not_mem_nil,or_false] at hp
 ·subst hp;exact Hx (-1) 12 (by decide) (by decide)
 rcases hp with rfl|rfl
 ·exact xR 0 (by decide)
 exact xR 1 (by decide)⟩
theorem Bn:∀l:List GPart,(∀p∈l,(p.claim= -1/\p.capped=true∨0<=p.claim/\p.claim<2)/\0<=qOf p.cap)->dP [false,false] l=0
 |[],_=>rfl
 |p::l,h=>by
  obtain ⟨h1,h2⟩:=h p (by simp);have h3:=vd h2;have h4:¬(p.claim≠ -1/\(p.claim<0∨(([false,false]:List Bool).length:Int)<=p.claim)):=by simp only [List.length_cons,List.length_nil];omega
  have h5:¬(p.claim= -1/\p.capped=false):=by
   rintro ⟨h6,h7⟩;rcases h1 with h1|h1
   ·rw [h1.2] at h7;cases h7
   omega
  have h6:¬(p.claim≠ -1/\([false,false]:List Bool).getD p.claim.toNat false=true):=by
   rintro ⟨h7,h8⟩;rcases h1 with h1|h1
   ·exact h7 h1.1
   have h9:p.claim.toNat=0∨p.claim.toNat=1:=by omega
   rcases h9 with h9|h9<;>rw [h9] at h8<;>cases h8
  rw [dP,if_neg h4,if_neg h5,if_neg (fun h=>h3 h.2),if_neg h6];exact Bn l fun x hx=>h x (by simp [hx])
theorem KP:bu jQ=0:=by
 have h1:¬cr 60<0:=vd (by grind);have h2:¬cr 40<0:=vd (by grind);simp [bu,jQ,cc,h1,h2]
theorem xS (ags:List bP) (h:ags.length<=1) (hx:∀a∈ags,xOK a):bS (exE ags)=0:=by
 have h0:¬cr (qOf gZ)<0:=by rw [ml];exact vd (by grind)
 have h1:¬(24<(exE ags).claims.length∨12<(exE ags).agrs.length):=by
  show ¬(24<2∨12<ags.length);omega
 have h2:¬bu (exE ags).claims≠0:=fun h=>h KP
 unfold bS;rw [if_neg h1,if_neg (show ¬cr (qOf (exE ags).cash)<0 from h0),if_neg h2];show gH [false,false] ags=0;match ags,h,hx with
 |[],_,_=>rfl
 |[a],_,hx=>
  obtain ⟨g1,g2,g3⟩:=hx a (by simp);have hc:fm a [false,false]=0:=by
   unfold fm;have h3:¬(24<a.length∨a.any er=true):=by
    rintro (h|h)
    ·omega
    obtain ⟨t,ht,hl⟩:=List.any_eq_true.1 h;have:=g2 t ht;unfold er at hl;simp only [decide_eq_true_eq] at hl;omega
   rw [if_neg h3];exact Bn _ fun p hp=>by
    obtain ⟨t,ht,hp⟩:=List.mem_flatten.1 hp;have:=g3 t ht p hp;exact ⟨this.1,this.2.2⟩
  simp only [gH,hc,ne_eq,not_true_eq_false,if_false]
theorem oz {r:GRat} (h:sB 1 r):qu r:=⟨Nat.le_trans h.1 (by decide),Nat.le_trans h.2 (by decide)⟩
theorem xT (ags:List bP) (h:ags.length<=1) (hx:∀a∈ags,xOK a):eIn (exE ags) 1 2 24 12:=by
 have hc:∀c∈(exE ags).claims,sB 1 c.amount:=fun c hc=>by
  simp only [exE,jQ,List.mem_cons,List.not_mem_nil,or_false] at hc;rcases hc with rfl|rfl
  ·exact dj (fb 60 (by decide))
  exact dj (fb 40 (by decide))
 have h2:(exE ags).claims.length=2:=rfl;have hl:(exE ags).agrs.length<=1:=h;refine ⟨⟨oz te,fun c h=>oz (hc c h),by omega,fun a ha=>⟨fun t ht=>by have:=(hx a ha).2.1 t ht;omega,fun p hp=>?_⟩⟩,⟨te,hc,fun a ha t ht p hp=>((hx a ha).2.2 t ht p hp).2.1⟩,by decide,by decide,by omega,by decide,by omega,by decide,by decide,by decide⟩;obtain ⟨t,ht,hp⟩:=List.mem_flatten.1 hp;exact oz ((hx a ha).2.2 t ht p hp).2.1
theorem kN (m:Nat):cL (enc ((m:Int):Rat))=((m:Int):Rat):=by
 have h:(0:Rat)<=((m:Int):Rat):=by exact_mod_cast Nat.zero_le m
 unfold cL oX;rw [cc];split<;>grind
end Go.Proofs.YtokmkopihhnggaaGreatDoor
