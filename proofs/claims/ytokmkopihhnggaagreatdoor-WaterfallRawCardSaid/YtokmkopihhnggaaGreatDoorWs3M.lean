/- The waterfall: the next kink; Slopes and Next for an estate; walked by the abstract machine. -/
import Derived.Test.YtokmkopihhnggaaGreatDoorWs2M
import Derived.Test.YtokmkopihhnggaaGreatDoorWl6M
import Derived.Test.YtokmkopihhnggaaGreatDoorFewM
import Derived.Test.YtokmkopihhnggaaGreatDoorJfM
import Derived.Test.YtokmkopihhnggaaGreatDoorDrawM
import Derived.Test.YtokmkopihhnggaaGreatDoorRef10M
import Derived.Test.YtokmkopihhnggaaGreatDoorLGCM
import Derived.Test.YtokmkopihhnggaaGreatDoorRw5M
set_option linter.unusedVariables false
set_option maxHeartbeats 4000000
set_option maxRecDepth 100000
set_option linter.unusedSimpArgs false
set_option linter.defProp false
set_option linter.unusedSectionVars false
namespace Go.Proofs.YtokmkopihhnggaaGreatDoor
open Go Go.RowKit Go.Proofs.Tryz
def eqR:List Rat->List Rat->Bool
 |x::l,y::k=>if x=y then eqR l k else false
 |_,_=>true
theorem ws (x y:Rat) (l k:List Rat):eqR (x::l) (y::k)=if x=y then eqR l k else false:=rfl
theorem z6 (k:List Rat):eqR [] k=true:=by cases k<;>rfl
theorem gh:∀{l k:List Rat},l.length=k.length->(eqR l k=true↔l=k)
 |[],[],_=>by simp [eqR]
 |x::l,y::k,h=>by
  have h1:=gh (l:=l) (k:=k) (by simpa using h);rw [eqR];split
  ·rename_i e;rw [h1,e];simp
  rename_i e;simp [e]
noncomputable def nxR (o:Option Rat):AV:= .tup [.agg (ai (enc (o.getD 0))),.one (.lit (.bool o.isSome))]
noncomputable def slR (e:GEst) (m:Rat):AV:= .tup [.one (if bv e=0 then .sh 3 e.claims.length (aA cQ (b9 (az e) m).cl) else .lit (.slice none 0 0)),.agg (ai (enc (if bv e=0 then (b9 (az e) m).rv else 0))),.one (.lit (.int .i64 (bv e)))]
noncomputable def neR (e:GEst) (m:Rat):AV:= .tup [.agg (ai (enc (if bv e=0 then (eZ (az e) m).getD 0 else 0))),.one (.lit (.bool (decide (bv e=0)&&(eZ (az e) m).isSome))),.one (.lit (.int .i64 (bv e)))]
def F78:=And.intro zS (And.intro pt (And.intro ll (cD)))
theorem F79:type_of%F78:=F78
theorem qt (l k:List Rat) (n9:Nat) (hl:l.length=n9) (hk:k.length=n9) (hn:n9<=1000000):aR prog 140 [.one (.sh 3 n9 (aA cQ l)),.one (.sh 3 n9 (aA cQ k))] (one (.bool (eqR l k))):=by
 subst hl;refine aP func140 rfl (by decide) (N:=26) rfl (by simp) (R:=[.tmp 4]) rfl fun en k0=>?_
 refine awN ?_;simp only [F79,seval];refine awN ?_;simp only [F79,seval];refine awF ?_;refine awK ?_;simp only [F79,seval];refine awN ?_;simp only [F79,seval];refine aQ [0,1,12,13] [] ?_;try simp only [ak,F79,seval]
 repeat' first|apply awS|apply awB
 refine aM (fun n st=>∃i0 nx,i0<=l.length/\n=l.length-i0/\eqR (l.drop i0) (k.drop i0)=eqR l (k.drop 0)/\st=⟨mkT [(0,.val (.one (.sh 3 l.length (aA cQ l)))),(1,.val (.one (.sh 3 l.length (aA cQ k)))),(12,one (.int .i64 l.length)),(13,one (.int .i64 i0))],mkH [],nx,0⟩) (l.length) ⟨0,_,by omega,by omega,by rfl,rfl⟩ ?_;rintro n0 st ⟨i0,nx0,hk0,rfl,hL0,rfl⟩;by_cases hlt0:i0<l.length
 ·have hI0:(i0:Int)<(l.length:Int):=by omega
  have hat0:=aO bH l i0 hlt0;try rw [Nat.mul_one] at hat0
  rw [List.drop_eq_getElem_cons hlt0] at hL0;have hik:i0<k.length:=by omega
  have hatk:=aO bH k i0 hik;simp only [cQ,ai] at hatk;rw [List.drop_eq_getElem_cons hik] at hL0;generalize l[i0]=x at *
  simp only [ws] at hL0;refine awN ?_;simp only [F79,seval,hI0];refine awT ?_;refine awK ?_;simp only [F79,seval];refine awN ?_;simp only [F79,seval];by_cases heq:x=k[i0]
  ·have q3:decide (x=k[i0])=true:=by simp [heq]
   have q1:=cq (enc x) (enc k[i0]);have q2:=cr x k[i0];refine awD (scT 0 9 .nil) [0,0,0,0,0,0,0,0,0] ?_;simp only [F79,seval,ai,hI0,q3,hat0,hatk,cQ,q1,q2];repeat refine ob ?_
   refine awF ?_;refine awK ?_;simp only [F79,seval];refine awN ?_;simp only [F79,seval];repeat refine ob ?_
   refine ⟨_,aI [0,1,12,13] [],l.length-(i0+1),by omega,i0+1,?a7_nx,by omega,rfl,?i7_0,?st7⟩;case st7=>(simp only [F79,seval];first|rfl|(simp [hI0,hat0,q3,Nat.add_mul];done))
   case i7_0=>(rw [if_pos heq,List.drop_zero] at hL0;exact hL0)
  have q3:decide (x=k[i0])=false:=by simp [heq]
  have q1:=cq (enc x) (enc k[i0]);have q2:=cr x k[i0];refine awD (scT 0 9 .nil) [0,0,0,0,0,0,0,0,0] ?_;simp only [F79,seval,ai,hI0,q3,hat0,hatk,cQ,q1,q2];repeat refine ob ?_
  refine awT ?_;refine awN ?_;simp only [F79,seval];refine awX ?_;try simp only [F79,seval]
  have h9:eqR l k=false:=by rw [List.drop_zero,if_neg heq] at hL0;exact hL0.symm
  rw [h9]
 obtain rfl:i0=l.length:=by omega
 have hI0:¬(l.length:Int)<(l.length:Int):=by omega
 rw [List.drop_length] at hL0;simp only [z6] at hL0;refine awN ?_;simp only [F79,seval,hI0];refine awF ?_;refine awQ ?_;simp only [F79,seval];refine awN ?_;simp only [F79,seval];refine awX ?_;try simp only [F79,seval]
 have h9:eqR l k=true:=by rw [List.drop_zero] at hL0;exact hL0.symm
 rw [h9]
def F80:=And.intro zS (And.intro cD (And.intro CP (And.intro gH (dN))))
theorem F81:type_of%F80:=F80
theorem GZ (L:WL) (m:Rat) (K Sm M Z G K2 S2 Z2:Nat) (hB:delB L K Sm M Z G K2 S2 Z2) (hM0:0<M) (hMb:M<=40000000) (hM:qB M m) (hm:0<=m) (hZ4:Z2<=10000000000) (hU:∀x,0<=x->a8 L.ranks x->qB M (x+bx L x)) (hMu:∀x,0<=x->a8 L.ranks x->wMu L (x+bx L x)<wMu L x) (hPos:∀x,0<=x->a8 L.ranks x->0<bx L x):aR prog 87 [.agg (bL L),.agg (ai (enc m))] (nxR (eZ L m)):=by
 obtain ⟨s0,hs0⟩:∃s,b9 L m=s:=⟨_,rfl⟩;have hs0l:s0.cl.length=L.count:=by rw [←hs0];exact dO L m
 refine aP func87 rfl (by decide) (N:=46) rfl (by simp) (R:=[.cell 4 32,.tmp 5]) rfl fun en k0=>?_
 refine awN ?_;simp only [F81,seval,ai,bL];have hS0:=x9 L m K Sm M Z G K2 S2 Z2 hB hM0 hM;simp only [tT,hs0,ai,bL] at hS0;refine awN ?_;simp only [F81,seval,ab aw,ab ar];refine ⟨_,hS0,(by first|rfl|simp [aD,al,ax,A1.cells,ab ap]),?_⟩;try simp only [ak,F81,seval]
 refine aQ [2,3,4,6,7] [2,3,4,7] ?_;try simp only [ak,F81,seval]
 repeat' first|apply awS|apply awB
 refine aM (fun n st=>∃x nx,wMu L x<n/\ii L s0 n x=eZ L m/\qB M x/\0<=x/\st=⟨mkT [(2,.val (.one (.ptr 2 0 0))),(3,.val (.one (.ptr 3 1 0))),(4,.val (.one (.ptr 4 2 0))),(6,.val (.one (.sh 3 L.count (aA cQ s0.cl)))),(7,.val (.one (.ptr 7 3 0)))],mkH [(2,⟨0,141,6,1,bL L⟩),(3,⟨1,32,3,1,ai (enc x)⟩),(4,⟨2,32,3,1,[.lit (.bool false),.lit (.string ay),.lit (.string ay)]⟩),(7,⟨3,32,3,1,ai (enc s0.rv)⟩)],nx,0⟩) (wMu L m+1) ⟨m,_,Nat.lt_succ_self _,by rw [←hs0];rfl,hM,hm,rfl⟩ ?_;rintro n0 st ⟨x,nx0,hmu,hnx,hxB,hx0,rfl⟩;obtain ⟨k0,rfl⟩:∃k,n0=k+1:=⟨n0-1,by omega⟩;have hSt:=GY L x K Sm M Z G K2 S2 Z2 hB hM0 hxB hZ4;simp only [stR,ai,bL] at hSt;refine awN ?_;simp only [F81,seval,ai,bL,ab aw,ab ar];refine ⟨_,hSt,(by first|rfl|simp [aU,aD,al,ax,A1.cells,ab aw,ab ar,ab ap,bL]),?_⟩;try simp only [ak,F81,seval]
 by_cases ho:a8 L.ranks x
 ·refine awN ?_;simp only [F81,seval,ho];refine awF ?_;refine awK ?_;simp only [F81,seval];have hx2:=hU x hx0 ho;have hst:qB (M+M+1) (bx L x):=by have:=hx2.sub hxB;rwa [show x+bx L x-x=bx L x by grind] at this
  have hAd:=sj x (bx L x) _ _ hxB hst (by omega) (by omega);simp only [ai] at hAd;refine awN ?_;simp only [F81,seval];refine ⟨_,hAd,(by first|rfl|simp [aU,aD,al,ax,A1.cells,ab aw,ab ar,ab ap,bL]),?_⟩;try simp only [ak,F81,seval]
  have hS1:=x9 L (x+bx L x) K Sm M Z G K2 S2 Z2 hB hM0 hx2;simp only [tT,ai,bL] at hS1;refine awN ?_;simp only [F81,seval,ab aw,ab ar];refine ⟨_,hS1,(by first|rfl|simp [aD,al,ax,A1.cells,ab ap]),?_⟩;try simp only [ak,F81,seval]
  by_cases hrv:(b9 L (x+bx L x)).rv=s0.rv
  ·have q3:decide ((b9 L (x+bx L x)).rv=s0.rv)=true:=by simp [hrv]
   by_cases hcl:eqR (b9 L (x+bx L x)).cl s0.cl=true
   ·have q1:=cq (enc (b9 L (x+bx L x)).rv) (enc s0.rv);have q2:=cr (b9 L (x+bx L x)).rv s0.rv;have hEq:=qt (b9 L (x+bx L x)).cl s0.cl L.count (dO L _) hs0l (by have:=hB.n;omega);refine awR [] [0,0,0,0,80,80,80,80,0] ?_;simp only [F81,seval,q3,ab ap,q1,q2];refine ⟨_,hEq,(by first|rfl|simp [aU,aD,al,ax,A1.cells,ab aw,ab ar,ab ap,bL]),?_⟩;try simp only [ak,F81,seval,hcl]
    refine awF ?_;refine awK ?_;simp only [F81,seval];have hmu2:=hMu x hx0 ho;refine ⟨_,aI [2,3,4,6,7] [2,3,4,7],k0,by omega,x+bx L x,?na,by omega,?eq,hx2,?pos,?st⟩;case st=>(simp only [F81,seval];rfl)
    case eq=>(rw [←hnx];have h9:=(gh (by rw [dO,hs0l])).1 hcl;simp only [ii,ho,if_true,hrv,h9,and_self])
    case pos=>(have:=hPos x hx0 ho;grind)
   have q1:=cq (enc (b9 L (x+bx L x)).rv) (enc s0.rv);have q2:=cr (b9 L (x+bx L x)).rv s0.rv;have hEq:=qt (b9 L (x+bx L x)).cl s0.cl L.count (dO L _) hs0l (by have:=hB.n;omega);refine awR [] [0,0,0,0,80,80,80,80,0] ?_;simp only [F81,seval,q3,ab ap,q1,q2];refine ⟨_,hEq,(by first|rfl|simp [aU,aD,al,ax,A1.cells,ab aw,ab ar,ab ap,bL]),?_⟩;try simp only [ak,F81,seval,hcl]
   refine awT ?_;refine awN ?_;simp only [F81,seval];refine awX ?_;have hno:eZ L m=some (x+bx L x):=by rw [←hnx];simp only [ii,ho,if_true];rw [if_neg (fun h=>hcl ((gh (by rw [dO,hs0l])).2 h.2))]
   simp only [F81,seval];simp [nxR,hno,ai]
  have q3:decide ((b9 L (x+bx L x)).rv=s0.rv)=false:=by simp [hrv]
  have q1:=cq (enc (b9 L (x+bx L x)).rv) (enc s0.rv);have q2:=cr (b9 L (x+bx L x)).rv s0.rv;have hEq:=qt (b9 L (x+bx L x)).cl s0.cl L.count (dO L _) hs0l (by have:=hB.n;omega);refine awR [] [0,0,0,0,80,80,80,80,0] ?_;simp only [F81,seval,q3,q1,q2];refine awT ?_;refine awN ?_;simp only [F81,seval];refine awX ?_;have hno:eZ L m=some (x+bx L x):=by rw [←hnx];simp only [ii,ho,if_true];rw [if_neg (fun h=>hrv h.1)]
  simp only [F81,seval];simp [nxR,hno,ai]
 refine awN ?_;simp only [F81,seval,ho];refine awT ?_;refine awN ?_;simp only [F81,seval];refine awX ?_;have hno:eZ L m=none:=by rw [←hnx];simp only [ii,ho,if_false]
 simp only [F81,seval];simp [nxR,hno,bf]
theorem oh {r:GRat} (h:jj r=true):sB 24 r:=by
 simp only [jj,Bool.and_eq_true,decide_eq_true_eq] at h;exact ⟨by omega,by omega⟩
theorem wt:∀{l:List GClaim},jD l=true->∀c∈l,sB 24 c.amount
 |[],_,c,hc=>by cases hc
 |a::l,h,c,hc=>by
  simp only [jD] at h;split at h
  ·rcases List.mem_cons.1 hc with rfl|hc
   ·exact oh ‹_›
   exact wt h c hc
  cases h
theorem wu:∀{l:List GPart},kM l=true->∀c∈l,sB 24 c.cap
 |[],_,c,hc=>by cases hc
 |a::l,h,c,hc=>by
  simp only [kM] at h;split at h
  ·rcases List.mem_cons.1 hc with rfl|hc
   ·exact oh ‹_›
   exact wu h c hc
  cases h
theorem wv:∀{l:List (List GPart)},kN l=true->∀t∈l,∀p∈t,sB 24 p.cap
 |[],_,c,hc=>by cases hc
 |a::l,h,c,hc=>by
  simp only [kN] at h;split at h
  ·cases h
  split at h
  ·rcases List.mem_cons.1 hc with rfl|hc
   ·exact wu ‹_›
   exact wv h c hc
  cases h
theorem wy:∀{l:List bR},kO l=true->∀a∈l,∀t∈a,∀p∈t,sB 24 p.cap
 |[],_,c,hc=>by cases hc
 |a::l,h,c,hc=>by
  simp only [kO] at h;split at h
  ·cases h
  split at h
  ·rcases List.mem_cons.1 hc with rfl|hc
   ·exact wv ‹_›
   exact wy h c hc
  cases h
structure rawI (e:GEst):Prop where
 ok:y8 e
 s:x8 24 e
 nc:e.claims.length<=8
 na:e.agrs.length<=4
theorem E3 {e:GEst} (h:eJ e=true):rawI e:=by
 have h9:=(zd h).1;simp only [eJ] at h;split at h
 ·cases h
 split at h
 ·cases h
 split at h
 ·split at h
  ·exact ⟨h9,⟨oh ‹_›,wt ‹_›,wy h⟩,by omega,by omega⟩
  cases h
 cases h
theorem rawI.dB {e:GEst} (hI:rawI e) (h0:bv e=0):delB (az e) 24 201 280000 281841 2536578 14424 14042 20672174:=
 wq (K:=24) (M:=280000) (nc:=8) (na:=4) (iC h0) hI.s (by decide) hI.nc (by decide) hI.na (by decide)
theorem rawI.st {e:GEst} (hI:rawI e) (h0:bv e=0) {x:Rat} (hx:0<=x) (ho:a8 (aC e.claims) x):qB 280000 (x+bx (az e) x):=
 (Iw (K:=24) (nc:=8) (na:=4) (iC h0) hI.s (by decide) hI.nc (by decide) hI.na (by decide) hx ho).mono (by decide)
def F82:=And.intro zS (And.intro ic (And.intro cD (And.intro gH (dN))))
theorem F83:type_of%F82:=F82
theorem sA (e:GEst) (hI:rawI e):aR prog 33 [.agg (aJ e)] (ttR e):=by
 refine aP func33 rfl (by decide) (N:=14) rfl (by simp) (R:=[.cell 2 32,.tmp 3]) rfl fun en k0=>?_
 refine awN ?_;simp only [F83,seval,aJ];repeat refine ob ?_
 have hC:=iv e hI.ok;refine awN ?_;simp only [F83,seval,ab ao,ab au];repeat refine ob ?_
 refine ⟨_,hC,(by first|rfl|simp [aU,aD,al,ax,A1.cells,bL,ai,ab aw,ab ar]),?_⟩;try simp only [ak,F83,seval]
 repeat refine ob ?_
 by_cases h0:bv e=0
 ·skip;refine awN ?_;simp only [F83,seval,h0];repeat refine ob ?_
  refine awF ?_;refine awK ?_;simp only [F83,seval];have hW:=iC h0;have hLay:=so e 24 (24+576*(24+1)) (by have:=hW.n;omega) (by have:=hW.an;omega) hW.cl.rk hI.s.2.1 (by decide) (by decide) (jb hW hI.s (by decide) (by decide));have hB:=hI.dB h0;have hT:=DC (az e);refine awN ?_;simp only [F83,seval,ab ao,ab au];repeat refine ob ?_
  refine ⟨_,hLay,(by first|rfl|simp [al,ax,bL,ai,ab aw,ab ar]),?_⟩;try simp only [ak,F83,seval,ab aw,ab ar,bL,ai]
  repeat refine ob ?_
  refine ⟨_,hT,(by first|rfl|simp [aU,aD,al,ax,A1.cells,bL,ai,ab aw,ab ar]),?_⟩;try simp only [ak,F83,seval,ai]
  repeat refine ob ?_
  refine awX ?_;simp only [F83,seval];simp [ttR,h0,ai,az]
 skip;refine awN ?_;simp only [F83,seval,h0];repeat refine ob ?_
 refine awT ?_;refine awN ?_;simp only [F83,seval];repeat refine ob ?_
 refine awX ?_;simp only [F83,seval];simp [ttR,h0,bf]
def F84:=And.intro zS (And.intro ic (cD))
theorem F85:type_of%F84:=F84
theorem sC (e:GEst) (m:GRat) (hI:rawI e) (hm:sB 280000 m):aR prog 93 [.agg (aJ e),.agg (ai m)] (grR e (cx m)):=by
 refine aP func93 rfl (by decide) (N:=17) rfl (by simp) (R:=[.tmp 4,.tmp 5]) rfl fun en k0=>?_
 refine awN ?_;simp only [F85,seval,aJ,ai];repeat refine ob ?_
 have hC:=iv e hI.ok;refine awN ?_;simp only [F85,seval,ab ao,ab au];repeat refine ob ?_
 refine ⟨_,hC,(by first|rfl|simp [aU,aD,al,ax,A1.cells,bL,ai,ab ap,ab aw,ab ar]),?_⟩;try simp only [ak,F85,seval]
 repeat refine ob ?_
 by_cases h0:bv e=0
 ·refine awN ?_;simp only [F85,seval,h0];repeat refine ob ?_
  refine awF ?_;refine awK ?_;simp only [F85,seval];have hW:=iC h0;have hLay:=so e 24 (24+576*(24+1)) (by have:=hW.n;omega) (by have:=hW.an;omega) hW.cl.rk hI.s.2.1 (by decide) (by decide) (jb hW hI.s (by decide) (by decide));have hB:=hI.dB h0;have hP:=gO m 280000 hm (by decide) (by decide);have hG:=mr (az e) (cx m) 24 201 280000 281841 (by have:=hB.n;omega) hB.rk hB.rin (jc hm (by decide)) hB.z (by have:=hB.g;have:=hB.gb;omega) (by have:=hB.gz;have:=hB.gb;omega);simp only [ai] at hG hP;refine awD (scq [1,5,2,6,8,11,13] .nil) [0,0,0,0,0,0,0] ?_;simp only [F85,seval,ab ao,ab au];repeat refine ob ?_
  refine ⟨_,hLay,(by first|rfl|simp [al,ax,bL,ai,ab aw,ab ar]),?_⟩;try simp only [ak,F85,seval,bL,ai]
  repeat refine ob ?_
  refine ⟨_,hP,(by first|rfl|simp [aU,aD,al,ax,A1.cells,bL,ai,ab ap,ab aw,ab ar]),?_⟩;try simp only [ak,F85,seval,ab aw,ab ar]
  repeat refine ob ?_
  refine ⟨_,hG,(by first|rfl|simp [al,ax,ab ap]),?_⟩;try simp only [ak,F85,seval]
  repeat refine ob ?_
  refine awX ?_;simp only [F85,seval,ab ap];simp [grR,h0,az]
 refine awN ?_;simp only [F85,seval,h0];repeat refine ob ?_
 refine awT ?_;refine awN ?_;simp only [F85,seval];repeat refine ob ?_
 refine awX ?_;simp only [F85,seval];simp [grR,h0]
def F86:=And.intro zS (And.intro ic (And.intro cD (And.intro gH (dN))))
theorem F87:type_of%F86:=F86
theorem nR (e:GEst) (m:GRat) (hI:rawI e) (hm:sB 280000 m):aR prog 32 [.agg (aJ e),.agg (ai m)] (dlR e (cx m)):=by
 refine aP func32 rfl (by decide) (N:=26) rfl (by simp) (R:=[.tmp 4,.cell 5 32,.tmp 6]) rfl fun en k0=>?_
 refine awN ?_;simp only [F87,seval,aJ,ai];repeat refine ob ?_
 have hC:=iv e hI.ok;refine awN ?_;simp only [F87,seval,ab ao,ab au];repeat refine ob ?_
 refine ⟨_,hC,(by first|rfl|simp [aU,aD,al,ax,A1.cells,bL,ai,ab ap,ab aw,ab ar]),?_⟩;try simp only [ak,F87,seval]
 repeat refine ob ?_
 by_cases h0:bv e=0
 ·refine awN ?_;simp only [F87,seval,h0];repeat refine ob ?_
  refine awF ?_;refine awK ?_;simp only [F87,seval];have hW:=iC h0;have hLay:=so e 24 (24+576*(24+1)) (by have:=hW.n;omega) (by have:=hW.an;omega) hW.cl.rk hI.s.2.1 (by decide) (by decide) (jb hW hI.s (by decide) (by decide));have hB:=hI.dB h0;have hP:=gO m 280000 hm (by decide) (by decide);have hG:=Dt (az e) (cx m) 24 201 280000 281841 _ _ _ _ hB (jc hm (by decide));simp only [ai,tT] at hG hP;refine awD (scq [1,5] (.two 1 8 (.two 3 8 (.two 4 8 (scq [11,13,15,16,19,20] .nil) (scq [8,11,13,15,19,20] .nil)) (scq [6,8,11,13,15,19,20] .nil)) (scq [2,6,8,11,13,15,19,20] .nil))) [0,0,0,0,0,0,0,0,0,0,0] ?_;simp only [F87,seval,ab ao,ab au];repeat refine ob ?_
  refine ⟨?_,?_⟩
  ·repeat refine ob ?_
   refine ⟨_,hLay,(by first|rfl|simp [al,ax,bL,ai,ab aw,ab ar]),?_⟩;try simp only [ak,F87,seval,bL,ai]
   repeat refine ob ?_
   refine ⟨?_,?_⟩
   ·repeat refine ob ?_
    refine ⟨_,hP,(by first|rfl|simp [aU,aD,al,ax,A1.cells,bL,ai,ab ap,ab aw,ab ar]),?_⟩;try simp only [ak,F87,seval,ab aw,ab ar]
    repeat refine ob ?_
    refine ⟨?_,?_⟩
    ·repeat refine ob ?_
     refine ⟨_,hG,(by first|rfl|simp [aD,al,ax,A1.cells,ab ap]),?_⟩;try simp only [ak,F87,seval]
     repeat refine ob ?_
     refine awD (scq [1,3,5,6,9] .nil) [0,0,0,0,0] ?_;simp only [F87,seval];repeat refine ob ?_
     refine awX ?_;simp only [F87,seval,ab ap];simp [dlR,h0,az,ai]
    repeat refine ob ?_
    refine ⟨_,hG,(by first|rfl|simp [aD,al,ax,A1.cells,ab ap]),?_⟩;try simp only [ak,F87,seval]
    repeat refine ob ?_
    refine awD (scq [1,3,5,6,9] .nil) [0,0,0,0,0] ?_;simp only [F87,seval];repeat refine ob ?_
    refine awX ?_;simp only [F87,seval,ab ap];simp [dlR,h0,az,ai]
   repeat refine ob ?_
   refine ⟨_,hP,(by first|rfl|simp [aU,aD,al,ax,A1.cells,bL,ai,ab ap,ab aw,ab ar]),?_⟩;try simp only [ak,F87,seval,ab aw,ab ar]
   repeat refine ob ?_
   refine ⟨_,hG,(by first|rfl|simp [aD,al,ax,A1.cells,ab ap]),?_⟩;try simp only [ak,F87,seval]
   repeat refine ob ?_
   refine awD (scq [1,3,5,6,9] .nil) [0,0,0,0,0] ?_;simp only [F87,seval];repeat refine ob ?_
   refine awX ?_;simp only [F87,seval,ab ap];simp [dlR,h0,az,ai]
  repeat refine ob ?_
  refine ⟨_,hLay,(by first|rfl|simp [al,ax,bL,ai,ab aw,ab ar]),?_⟩;try simp only [ak,F87,seval,bL,ai]
  repeat refine ob ?_
  refine ⟨_,hP,(by first|rfl|simp [aU,aD,al,ax,A1.cells,bL,ai,ab ap,ab aw,ab ar]),?_⟩;try simp only [ak,F87,seval,ab aw,ab ar]
  repeat refine ob ?_
  refine ⟨_,hG,(by first|rfl|simp [aD,al,ax,A1.cells,ab ap]),?_⟩;try simp only [ak,F87,seval]
  repeat refine ob ?_
  refine awD (scq [1,3,5,6,9] .nil) [0,0,0,0,0] ?_;simp only [F87,seval];repeat refine ob ?_
  refine awX ?_;simp only [F87,seval,ab ap];simp [dlR,h0,az,ai]
 refine awN ?_;simp only [F87,seval,h0];repeat refine ob ?_
 refine awT ?_;refine awN ?_;simp only [F87,seval];repeat refine ob ?_
 refine awX ?_;simp only [F87,seval];simp [dlR,h0,bf]
def F88:=And.intro zS (And.intro ic (And.intro cD (And.intro gH (dN))))
theorem F89:type_of%F88:=F88
theorem qu (e:GEst) (m:GRat) (hI:rawI e) (hm:sB 280000 m):aR prog 41 [.agg (aJ e),.agg (ai m)] (slR e (cx m)):=by
 refine aP func41 rfl (by decide) (N:=26) rfl (by simp) (R:=[.tmp 4,.cell 5 32,.tmp 6]) rfl fun en k0=>?_
 refine awN ?_;simp only [F89,seval,aJ,ai];repeat refine ob ?_
 have hC:=iv e hI.ok;refine awN ?_;simp only [F89,seval,ab ao,ab au];repeat refine ob ?_
 refine ⟨_,hC,(by first|rfl|simp [aU,aD,al,ax,A1.cells,bL,ai,ab ap,ab aw,ab ar]),?_⟩;try simp only [ak,F89,seval]
 repeat refine ob ?_
 by_cases h0:bv e=0
 ·refine awN ?_;simp only [F89,seval,h0];repeat refine ob ?_
  refine awF ?_;refine awK ?_;simp only [F89,seval];have hW:=iC h0;have hLay:=so e 24 (24+576*(24+1)) (by have:=hW.n;omega) (by have:=hW.an;omega) hW.cl.rk hI.s.2.1 (by decide) (by decide) (jb hW hI.s (by decide) (by decide));have hB:=hI.dB h0;have hP:=gO m 280000 hm (by decide) (by decide);have hG:=x9 (az e) (cx m) 24 201 280000 281841 _ _ _ _ hB (by decide) (jc hm (by decide));simp only [ai,tT] at hG hP;refine awD (scq [1,5] (.two 1 8 (.two 3 8 (.two 4 8 (scq [11,13,15,16,19,20] .nil) (scq [8,11,13,15,19,20] .nil)) (scq [6,8,11,13,15,19,20] .nil)) (scq [2,6,8,11,13,15,19,20] .nil))) [0,0,0,0,0,0,0,0,0,0,0] ?_;simp only [F89,seval,ab ao,ab au];repeat refine ob ?_
  refine ⟨?_,?_⟩
  ·repeat refine ob ?_
   refine ⟨_,hLay,(by first|rfl|simp [al,ax,bL,ai,ab aw,ab ar]),?_⟩;try simp only [ak,F89,seval,bL,ai]
   repeat refine ob ?_
   refine ⟨?_,?_⟩
   ·repeat refine ob ?_
    refine ⟨_,hP,(by first|rfl|simp [aU,aD,al,ax,A1.cells,bL,ai,ab ap,ab aw,ab ar]),?_⟩;try simp only [ak,F89,seval,ab aw,ab ar]
    repeat refine ob ?_
    refine ⟨?_,?_⟩
    ·repeat refine ob ?_
     refine ⟨_,hG,(by first|rfl|simp [aD,al,ax,A1.cells,ab ap]),?_⟩;try simp only [ak,F89,seval]
     repeat refine ob ?_
     refine awD (scq [1,3,5,6,9] .nil) [0,0,0,0,0] ?_;simp only [F89,seval];repeat refine ob ?_
     refine awX ?_;simp only [F89,seval,ab ap];simp [slR,h0,az,ai]
    repeat refine ob ?_
    refine ⟨_,hG,(by first|rfl|simp [aD,al,ax,A1.cells,ab ap]),?_⟩;try simp only [ak,F89,seval]
    repeat refine ob ?_
    refine awD (scq [1,3,5,6,9] .nil) [0,0,0,0,0] ?_;simp only [F89,seval];repeat refine ob ?_
    refine awX ?_;simp only [F89,seval,ab ap];simp [slR,h0,az,ai]
   repeat refine ob ?_
   refine ⟨_,hP,(by first|rfl|simp [aU,aD,al,ax,A1.cells,bL,ai,ab ap,ab aw,ab ar]),?_⟩;try simp only [ak,F89,seval,ab aw,ab ar]
   repeat refine ob ?_
   refine ⟨_,hG,(by first|rfl|simp [aD,al,ax,A1.cells,ab ap]),?_⟩;try simp only [ak,F89,seval]
   repeat refine ob ?_
   refine awD (scq [1,3,5,6,9] .nil) [0,0,0,0,0] ?_;simp only [F89,seval];repeat refine ob ?_
   refine awX ?_;simp only [F89,seval,ab ap];simp [slR,h0,az,ai]
  repeat refine ob ?_
  refine ⟨_,hLay,(by first|rfl|simp [al,ax,bL,ai,ab aw,ab ar]),?_⟩;try simp only [ak,F89,seval,bL,ai]
  repeat refine ob ?_
  refine ⟨_,hP,(by first|rfl|simp [aU,aD,al,ax,A1.cells,bL,ai,ab ap,ab aw,ab ar]),?_⟩;try simp only [ak,F89,seval,ab aw,ab ar]
  repeat refine ob ?_
  refine ⟨_,hG,(by first|rfl|simp [aD,al,ax,A1.cells,ab ap]),?_⟩;try simp only [ak,F89,seval]
  repeat refine ob ?_
  refine awD (scq [1,3,5,6,9] .nil) [0,0,0,0,0] ?_;simp only [F89,seval];repeat refine ob ?_
  refine awX ?_;simp only [F89,seval,ab ap];simp [slR,h0,az,ai]
 refine awN ?_;simp only [F89,seval,h0];repeat refine ob ?_
 refine awT ?_;refine awN ?_;simp only [F89,seval];repeat refine ob ?_
 refine awX ?_;simp only [F89,seval];simp [slR,h0,bf]
def F90:=And.intro zS (And.intro ic (And.intro cD (And.intro gH (dN))))
theorem F91:type_of%F90:=F90
theorem wz (e:GEst) (m:GRat) (hI:rawI e) (hm:sB 280000 m):aR prog 37 [.agg (aJ e),.agg (ai m)] (neR e (cx m)):=by
 refine aP func37 rfl (by decide) (N:=26) rfl (by simp) (R:=[.cell 4 32,.tmp 5,.tmp 6]) rfl fun en k0=>?_
 refine awN ?_;simp only [F91,seval,aJ,ai];repeat refine ob ?_
 have hC:=iv e hI.ok;refine awN ?_;simp only [F91,seval,ab ao,ab au];repeat refine ob ?_
 refine ⟨_,hC,(by first|rfl|simp [aU,aD,al,ax,A1.cells,bL,ai,ab ap,ab aw,ab ar]),?_⟩;try simp only [ak,F91,seval]
 repeat refine ob ?_
 by_cases h0:bv e=0
 ·refine awN ?_;simp only [F91,seval,h0];repeat refine ob ?_
  refine awF ?_;refine awK ?_;simp only [F91,seval];have hW:=iC h0;have hLay:=so e 24 (24+576*(24+1)) (by have:=hW.n;omega) (by have:=hW.an;omega) hW.cl.rk hI.s.2.1 (by decide) (by decide) (jb hW hI.s (by decide) (by decide));have hB:=hI.dB h0;have hP:=gO m 280000 hm (by decide) (by decide);have heo:=hW.eOK;have hG:=GZ (az e) (cx m) 24 201 280000 281841 _ _ _ _ hB (by decide) (by decide) (jc hm (by decide)) (my m) (by decide) (fun x hx ho=>hI.st h0 hx ho) (fun x hx ho=>zu heo hx ho) (fun x _ ho=>p5 ho);simp only [ai,nxR] at hG hP;refine awD (scq [1,5] (.two 1 8 (.two 3 8 (.two 4 8 (scq [11,13,15,16,18,21] .nil) (scq [8,11,13,15,18,21] .nil)) (scq [6,8,11,13,15,18,21] .nil)) (scq [2,6,8,11,13,15,18,21] .nil))) [0,0,0,0,0,0,0,0,0,0,0] ?_;simp only [F91,seval,ab ao,ab au];repeat refine ob ?_
  refine ⟨?_,?_⟩
  ·repeat refine ob ?_
   refine ⟨_,hLay,(by first|rfl|simp [al,ax,bL,ai,ab aw,ab ar]),?_⟩;try simp only [ak,F91,seval,bL,ai]
   repeat refine ob ?_
   refine ⟨?_,?_⟩
   ·repeat refine ob ?_
    refine ⟨_,hP,(by first|rfl|simp [aU,aD,al,ax,A1.cells,bL,ai,ab ap,ab aw,ab ar]),?_⟩;try simp only [ak,F91,seval,ab aw,ab ar]
    repeat refine ob ?_
    refine ⟨?_,?_⟩
    ·repeat refine ob ?_
     refine ⟨_,hG,(by first|rfl|simp [aU,aD,al,ax,A1.cells,bL,ai,ab ap,ab aw,ab ar]),?_⟩;try simp only [ak,F91,seval]
     repeat refine ob ?_
     refine awN ?_;simp only [F91,seval];repeat refine ob ?_
     refine awX ?_;simp only [F91,seval];simp [neR,h0,ai]
    repeat refine ob ?_
    refine ⟨_,hG,(by first|rfl|simp [aU,aD,al,ax,A1.cells,bL,ai,ab ap,ab aw,ab ar]),?_⟩;try simp only [ak,F91,seval]
    repeat refine ob ?_
    refine awN ?_;simp only [F91,seval];repeat refine ob ?_
    refine awX ?_;simp only [F91,seval];simp [neR,h0,ai]
   repeat refine ob ?_
   refine ⟨_,hP,(by first|rfl|simp [aU,aD,al,ax,A1.cells,bL,ai,ab ap,ab aw,ab ar]),?_⟩;try simp only [ak,F91,seval,ab aw,ab ar]
   repeat refine ob ?_
   refine ⟨_,hG,(by first|rfl|simp [aU,aD,al,ax,A1.cells,bL,ai,ab ap,ab aw,ab ar]),?_⟩;try simp only [ak,F91,seval]
   repeat refine ob ?_
   refine awN ?_;simp only [F91,seval];repeat refine ob ?_
   refine awX ?_;simp only [F91,seval];simp [neR,h0,ai]
  repeat refine ob ?_
  refine ⟨_,hLay,(by first|rfl|simp [al,ax,bL,ai,ab aw,ab ar]),?_⟩;try simp only [ak,F91,seval,bL,ai]
  repeat refine ob ?_
  refine ⟨_,hP,(by first|rfl|simp [aU,aD,al,ax,A1.cells,bL,ai,ab ap,ab aw,ab ar]),?_⟩;try simp only [ak,F91,seval,ab aw,ab ar]
  repeat refine ob ?_
  refine ⟨_,hG,(by first|rfl|simp [aU,aD,al,ax,A1.cells,bL,ai,ab ap,ab aw,ab ar]),?_⟩;try simp only [ak,F91,seval]
  repeat refine ob ?_
  refine awN ?_;simp only [F91,seval];repeat refine ob ?_
  refine awX ?_;simp only [F91,seval];simp [neR,h0,ai]
 refine awN ?_;simp only [F91,seval,h0];repeat refine ob ?_
 refine awT ?_;refine awN ?_;simp only [F91,seval];repeat refine ob ?_
 refine awX ?_;simp only [F91,seval];simp [neR,h0,bf]
end Go.Proofs.YtokmkopihhnggaaGreatDoor
namespace Go.Proofs.YtokmkopihhnggaaGreatDoor
open Go.RowKit Go.Proofs.Tryz
def BK (w0 w:World) (L:List (Nat×TypeId×List Value)):Prop:=
 Below w0.heap.size w0 w/\(∀p∈L,w0.heap.size<=p.1/\w.heap[p.1]? =some (.cells p.2.2.toArray p.2.1 (0,0)))/\(L.map Prod.fst).Nodup
section
variable {w0 w : World} {L : List (Nat × TypeId × List Value)}
theorem BK.nil (w:World):BK w w []:=⟨Below.refl _ _,fun _ h=>(by cases h),List.nodup_nil⟩
theorem BK.lt (h:BK w0 w L) {p:Nat×TypeId×List Value} (hp:p∈L):p.1<w.heap.size:=(Array.getElem?_eq_some_iff.1 (h.2.1 p hp).2).1
theorem BK.next {w':World} (h:BK w0 w L) (hb:Below w.heap.size w w'):BK w0 w' L:=
 ⟨h.1.trans (hb.mono h.1.size),fun p hp=>⟨(h.2.1 p hp).1,by rw [hb.block p.1 (h.lt hp)];exact (h.2.1 p hp).2⟩,h.2.2⟩
theorem BK.drew (h:BK w0 w L):BK w0 w.drew L:=⟨Below.drew h.1,h.2.1,h.2.2⟩
theorem BK.alloc (h:BK w0 w L) (o:Obj):BK w0 (w.alloc o) L:=h.next ((Below.refl _ _).alloc (Nat.le_refl _) _)
theorem BK.push (h:BK w0 w L) (T:TypeId) (cs:List Value) {b:Nat} (hb:w.heap.size=b):BK w0 (w.alloc (.cells cs.toArray T)) ((b,T,cs)::L):=by
 subst hb;refine ⟨(h.alloc _).1,fun p hp=>?_,?_⟩
 ·rcases List.mem_cons.1 hp with rfl|hp
  ·exact ⟨h.1.size,heap_alloc_new w _⟩
  exact (h.alloc _).2.1 p hp
 rw [List.map_cons,List.nodup_cons];refine ⟨fun hm=>?_,h.2.2⟩;obtain ⟨p,hp,he⟩:=List.mem_map.1 hm;have h1:=h.lt hp;rw [he] at h1;exact Nat.lt_irrefl _ h1
theorem BK.cell (h:BK w0 w L) (i:Nat) {b:Nat} {T:TypeId} {cs:List Value} (hi:L[i]? =some (b,T,cs)):
  (∀j v,cs[j]? =some v->w.cell? ⟨b,j,none⟩=some v)/\(∀j,w.frozen? ⟨b,j,none⟩=false)/\b<w.heap.size/\w0.heap.size<=b:=by
 have hm:=List.mem_of_getElem? hi;have h1:=(h.2.1 _ hm).2;refine ⟨fun j v hv=>?_,fun j=>?_,h.lt hm,(h.2.1 _ hm).1⟩
 ·simp only [World.cell?,h1];simpa using hv
 simp [World.frozen?,h1]
theorem BK.set (h:BK w0 w L) (i:Nat) {b:Nat} {T:TypeId} {cs:List Value} (hi:L[i]? =some (b,T,cs)) (j:Nat) (v:Value):BK w0 (w.setCell ⟨b,j,none⟩ v) (L.set i (b,T,cs.set j v)):=by
 have hil:i<L.length:=(List.getElem?_eq_some_iff.1 hi).1;have hig:L[i]=(b,T,cs):=(List.getElem?_eq_some_iff.1 hi).2;have hm:=List.mem_of_getElem? hi;have hbb:=(h.2.1 _ hm);refine ⟨h.1.setCell hbb.1 _,fun p hp=>?_,?_⟩
 ·obtain ⟨k,hk,rfl⟩:=List.getElem_of_mem hp;rw [List.length_set] at hk;by_cases e:i=k
  ·subst e;rw [List.getElem_set_self];refine ⟨hbb.1,?_⟩;rw [heap_setCell_same w b j _ T v hbb.2];simp
  rw [List.getElem_set_ne e];have hmk:=List.getElem_mem hk;refine ⟨(h.2.1 _ hmk).1,?_⟩;rw [Below.heap_setCell _ _ _ _ (fun e2=>?_)]
  ·exact (h.2.1 _ hmk).2
  have hn:=List.nodup_iff_pairwise_ne.1 h.2.2;have:=(List.pairwise_iff_getElem.1 hn);rcases Nat.lt_trichotomy i k with h1|h1|h1
  ·have:=this i k (by simpa using hil) (by simpa using hk) h1;simp only [List.getElem_map,hig] at this;exact this e2.symm
  ·exact e h1
  have:=this k i (by simpa using hk) (by simpa using hil) h1;simp only [List.getElem_map,hig] at this;exact this e2
 have:(L.set i (b,T,cs.set j v)).map Prod.fst=L.map Prod.fst:=by
  rw [List.map_set];apply List.ext_getElem (by simp);intro j h1 h2;rw [List.getElem_set];split
  ·rename_i e;subst e;simp [hig]
  rfl
 rw [this];exact h.2.2
theorem BK.put3 (h:BK w0 w L) (i:Nat) {b:Nat} {T:TypeId} {cs:List Value} (hi:L[i]? =some (b,T,cs)) (j:Nat) (x y z:Value):
  BK w0 (((w.setCell ⟨b,j,none⟩ x).setCell ⟨b,j+1,none⟩ y).setCell ⟨b,j+2,none⟩ z) (L.set i (b,T,((cs.set j x).set (j+1) y).set (j+2) z)):=by
 have hil:i<L.length:=(List.getElem?_eq_some_iff.1 hi).1;have h1:=h.set i hi j x;have h2:=h1.set i (cs:=cs.set j x) (by rw [List.getElem?_set_self hil]) (j+1) y;rw [List.set_set] at h2;have h3:=h2.set i (cs:=(cs.set j x).set (j+1) y) (by rw [List.getElem?_set_self hil]) (j+2) z;rw [List.set_set] at h3;exact h3
end
theorem DE {P:Program} {fn:Func} {R:Ending->World->Prop} {a:Act} {w0 W:World} {L:List (Nat×TypeId×List Value)} (V:Value) (h:BK w0 W L) (i:Nat) {b:Nat} {T:TypeId} {cs:List Value} (hi:L[i]? =some (b,T,cs))
  (hres:∀W',(∀j v,cs[j]? =some v->W'.cell? ⟨b,j,none⟩=some v)->(results fn a.tmps).run P W'= .ok V W') (hd:a.defers=[]) (hR:R (.returned V) W):bodyPost P fn R .ret a W:=
 bodyPost_ret (hres W (BK.cell h i hi).1) hd hR
end Go.Proofs.YtokmkopihhnggaaGreatDoor
namespace Go.Proofs.YtokmkopihhnggaaGreatDoor
open Go Go.RowKit Go.Proofs.Tryz
theorem yh:aF (enc 0)= .agg #[.bool false,.string {data:= #[]},.string {data:= #[]}]:=by
 rw [←fZ];rfl
theorem Bj (a b:GRat) (h:a.num.size=0) (w:World):Calls prog 223 #[aF a,aF b] w fun e w'=>e= .returned (aF (enc 0))/\Below w.heap.size w w':=by
 have hz:a.num={data:= #[]}:=ByteArray.ext (Array.eq_empty_of_size_eq_zero h);rw [yh];unfold aF;rw [hz];clear h hz;go_enter func223,ntmps223
 go_wp2
 go_returns
 exact ⟨rfl,(((Below.refl _ _).alloc (Nat.le_refl _) _).alloc (by simp) _).alloc (by simp;omega) _⟩
theorem Bk (a b:GRat) (ha:¬a.num.size=0) (h:b.num.size=0) (w:World):Calls prog 223 #[aF a,aF b] w fun e w'=>e= .returned (aF (enc 0))/\Below w.heap.size w w':=by
 have hz:b.num={data:= #[]}:=ByteArray.ext (Array.eq_empty_of_size_eq_zero h);have hne:=dr ha;rw [yh];unfold aF;rw [hz];clear h hz ha;go_enter func223,ntmps223
 go_wp2
 go_returns
 exact ⟨rfl,(((Below.refl _ _).alloc (Nat.le_refl _) _).alloc (by simp) _).alloc (by simp;omega) _⟩
theorem DF (a b:GRat) (h:a.num.size=0) (w:World):Calls prog 222 #[aF a,aF b] w fun e w'=>e= .returned (aF (enc 0))/\Below w.heap.size w w':=by
 have hz:a.num={data:= #[]}:=ByteArray.ext (Array.eq_empty_of_size_eq_zero h);rw [yh];unfold aF;rw [hz];clear h hz;go_enter func222,ntmps222
 go_wp2
 go_returns
 exact ⟨rfl,(((Below.refl _ _).alloc (Nat.le_refl _) _).alloc (by simp) _).alloc (by simp;omega) _⟩
attribute [local go_sem ↓] Go.wp_at_zero Go.wp_at_succ
theorem RN.below {w w':World} {u:Value} {n:Nat} (h:RNat w u n) (hb:Below w.heap.size w w'):RNat w' u n:=(aX aS).below h hb hb.size
theorem Bl (p q:Rat) (m n:Nat) (w:World) (hp:qB m p) (hq:qB n q) (hm:m<=100000000000) (hn:n<=100000000000) (hp0:p≠0) (hq0:q≠0):
  Calls prog 223 #[aF (enc p),aF (enc q)] w fun e w'=>e= .returned (aF (enc (p*q)))/\Below w.heap.size w w':=by
 have hne1:=dr (fun h=>hp0 ((bY p).1 h));have hne2:=dr (fun h=>hq0 ((bY q).1 h));have es1:=gC hp;have es2:=gC hq;have H1:=hid (fun w=>AI (enc p) w (by omega));have H2:=hid (fun w=>AI (enc q) w (by omega));have H3:=hid (fun w=>ia (enc p).num w (by omega));have H4:=hid (fun w=>ia (enc q).num w (by omega));simp only [j7,j8] at H1 H2 H3 H4;have N1:NB m p.num.natAbs:=hp.1;have N2:NB m p.den:=hp.2;have N3:NB n q.num.natAbs:=hq.1;have N4:NB n q.den:=hq.2;have hd1:=p.den_pos;have hd2:=q.den_pos;have hq1:0<q.num.natAbs:=Nat.pos_of_ne_zero fun h=>hq0 ((GS q).1 h)
 have T1:=hid (fun (w:World) (u v:Value)=>lk (w:=w) (u:=u) (v:=v) N1 N3 (by omega) (by omega));have T2:=hid (fun (w:World) (u v:Value)=>lk (w:=w) (u:=u) (v:=v) N2 N4 (by omega) (by omega));have R:=hid (fun (w:World) (u v:Value)=>ew (bc p !=bc q) u v (p.num.natAbs*q.num.natAbs) (p.den*q.den) (m+n) w (N1.mul N3) (N2.mul N4) (by omega) (Nat.mul_pos hd1 hd2));rw [←yS] at R;rw [show bc p=(enc p).neg from rfl,show bc q=(enc q).neg from rfl] at R;obtain ⟨X,hX⟩:∃X,X=p.num.natAbs*q.num.natAbs:=⟨_,rfl⟩;obtain ⟨D,hD⟩:∃X,X=p.den*q.den:=⟨_,rfl⟩;rw [←hX] at T1 R;rw [←hD] at T2 R;generalize enc (p*q)=c at *
 generalize enc p=a at *
 generalize enc q=b at *
 clear hX hD N1 N2 N3 N4 hp hq hp0 hq0 es1 es2 hd1 hd2 hq1;unfold aF at H1 H2 R;unfold aF;have st0:=(BK.push (BK.push (BK.push (BK.nil w) 32 [.bool a.neg,.string a.num,.string a.den] (b:=w.heap.size) (by simp)) 32 [.bool b.neg,.string b.num,.string b.den] (b:=w.heap.size+1) (by simp)) 32 [.bool false,.string {data:= #[]},.string {data:= #[]}] (b:=w.heap.size+1+1) (by simp));obtain ⟨xc,xf,xl,xg⟩:=BK.cell st0 2 rfl;have x0:=xc 0 _ rfl;have x1:=xc 1 _ rfl;have x2:=xc 2 _ rfl;clear xc;obtain ⟨yc,yf,yl,yg⟩:=BK.cell st0 1 rfl;have y0:=yc 0 _ rfl;have y1:=yc 1 _ rfl;have y2:=yc 2 _ rfl;clear yc;go_enter func223,ntmps223
 go_wp2_with fail
 refine je (by kernel_rfl) [(0,true),(1,true),(2,true),(3,true),(4,true),(5,true),(6,true),(8,true),(9,true),(12,true),(14,true),(7,false),(10,false),(11,false),(13,false),(15,false),(16,false),(17,false),(18,false)] (fun i=>decide (i<18)) (by kernel_rfl) (fun _ _ d _ _ h=>by cases d<;>exact h) ?_;refine bS (o:=?o0_3_1) (v:=?v0_3_1) (a':=?aa0_3_1) ?hi0_3_1 (Or.inl ⟨?hw0_3_1,?hy0_3_1⟩) ?ha0_3_1 ?rest0_3_1;case hi0_3_1=>(simp [go_sem];rfl)
 case hw0_3_1=>rfl
 case hy0_3_1=>(intro w0 hF0;clear hF0;first|(go_simp;done)|(go_simp;with_reducible rfl))
 case ha0_3_1=>(go_simp;rfl)
 refine bS (o:=?o1_3_1) (v:=?v1_3_1) (a':=?aa1_3_1) ?hi1_3_1 (Or.inl ⟨?hw1_3_1,?hy1_3_1⟩) ?ha1_3_1 ?rest1_3_1;case hi1_3_1=>(simp [go_sem];rfl)
 case hw1_3_1=>rfl
 case hy1_3_1=>(intro w0 hF0;have hR0:=fun p h=>FL.cell (p:=p) hF0 h;first|(go_simp;done)|(go_simp;with_reducible rfl))
 case ha1_3_1=>(go_simp;rfl)
 refine bS (o:=?o2_3_1) (v:=?v2_3_1) (a':=?aa2_3_1) ?hi2_3_1 (Or.inl ⟨?hw2_3_1,?hy2_3_1⟩) ?ha2_3_1 ?rest2_3_1;case hi2_3_1=>(simp [go_sem];rfl)
 case hw2_3_1=>rfl
 case hy2_3_1=>(intro w0 hF0;clear hF0;first|(go_simp;done)|(go_simp;with_reducible rfl))
 case ha2_3_1=>(go_simp;rfl)
 refine bS (o:=?o3_3_1) (v:=?v3_3_1) (a':=?aa3_3_1) ?hi3_3_1 (Or.inl ⟨?hw3_3_1,?hy3_3_1⟩) ?ha3_3_1 ?rest3_3_1;case hi3_3_1=>(simp [go_sem];rfl)
 case hw3_3_1=>rfl
 case hy3_3_1=>(intro w0 hF0;have hR0:=fun p h=>FL.cell (p:=p) hF0 h;first|(go_simp;done)|(go_simp;with_reducible rfl))
 case ha3_3_1=>(go_simp;rfl)
 refine bS (o:=?o4_3_1) (v:=?v4_3_1) (a':=?aa4_3_1) ?hi4_3_1 (Or.inl ⟨?hw4_3_1,?hy4_3_1⟩) ?ha4_3_1 ?rest4_3_1;case hi4_3_1=>(simp [go_sem];rfl)
 case hw4_3_1=>rfl
 case hy4_3_1=>(intro w0 hF0;clear hF0;first|(go_simp;done)|(go_simp;with_reducible rfl))
 case ha4_3_1=>(go_simp;rfl)
 refine bS (o:=?o5_3_1) (v:=?v5_3_1) (a':=?aa5_3_1) ?hi5_3_1 (Or.inl ⟨?hw5_3_1,?hy5_3_1⟩) ?ha5_3_1 ?rest5_3_1;case hi5_3_1=>(simp [go_sem];rfl)
 case hw5_3_1=>rfl
 case hy5_3_1=>(intro w0 hF0;clear hF0;first|(go_simp;done)|(go_simp;with_reducible rfl))
 case ha5_3_1=>(go_simp;rfl)
 refine bS (o:=?o6_3_1) (v:=?v6_3_1) (a':=?aa6_3_1) ?hi6_3_1 (Or.inl ⟨?hw6_3_1,?hy6_3_1⟩) ?ha6_3_1 ?rest6_3_1;case hi6_3_1=>(simp [go_sem];rfl)
 case hw6_3_1=>rfl
 case hy6_3_1=>(intro w0 hF0;have hR0:=fun p h=>FL.cell (p:=p) hF0 h;first|(go_simp;done)|(go_simp;with_reducible rfl))
 case ha6_3_1=>(go_simp;rfl)
 refine bS (o:=?o8_3_1) (v:=?v8_3_1) (a':=?aa8_3_1) ?hi8_3_1 (Or.inl ⟨?hw8_3_1,?hy8_3_1⟩) ?ha8_3_1 ?rest8_3_1;case hi8_3_1=>(simp [go_sem];rfl)
 case hw8_3_1=>rfl
 case hy8_3_1=>(intro w0 hF0;clear hF0;first|(go_simp;done)|(go_simp;with_reducible rfl))
 case ha8_3_1=>(go_simp;rfl)
 refine bS (o:=?o9_3_1) (v:=?v9_3_1) (a':=?aa9_3_1) ?hi9_3_1 (Or.inl ⟨?hw9_3_1,?hy9_3_1⟩) ?ha9_3_1 ?rest9_3_1;case hi9_3_1=>(simp [go_sem];rfl)
 case hw9_3_1=>rfl
 case hy9_3_1=>(intro w0 hF0;have hR0:=fun p h=>FL.cell (p:=p) hF0 h;first|(go_simp;done)|(go_simp;with_reducible rfl))
 case ha9_3_1=>(go_simp;rfl)
 refine bS (o:=?o12_3_1) (v:=?v12_3_1) (a':=?aa12_3_1) ?hi12_3_1 (Or.inl ⟨?hw12_3_1,?hy12_3_1⟩) ?ha12_3_1 ?rest12_3_1;case hi12_3_1=>(simp [go_sem];rfl)
 case hw12_3_1=>rfl
 case hy12_3_1=>(intro w0 hF0;have hR0:=fun p h=>FL.cell (p:=p) hF0 h;first|(go_simp;done)|(go_simp;with_reducible rfl))
 case ha12_3_1=>(go_simp;rfl)
 refine bS (o:=?o14_3_1) (v:=?v14_3_1) (a':=?aa14_3_1) ?hi14_3_1 (Or.inl ⟨?hw14_3_1,?hy14_3_1⟩) ?ha14_3_1 ?rest14_3_1;case hi14_3_1=>(simp [go_sem];rfl)
 case hw14_3_1=>rfl
 case hy14_3_1=>(intro w0 hF0;have hR0:=fun p h=>FL.cell (p:=p) hF0 h;first|(go_simp;done)|(go_simp;with_reducible rfl))
 case ha14_3_1=>(go_simp;rfl)
 refine dW (o:=?o7_3_1) ?hi7_3_1 ?hw7_3_1 (by rfl) (fun K hK=>?rest7_3_1);case hi7_3_1=>(simp [go_sem];rfl)
 case hw7_3_1=>rfl
 go_simp
 refine Calls.mono (H3.out _) ?_;rintro e w1_ ⟨ua,rfl,ua1,hb1_⟩;have st1_:=BK.next (BK.drew st0) hb1_;clear x0 x1 x2 xf xl xg y0 y1 y2 yf yl yg;obtain ⟨xc,xf,xl,xg⟩:=BK.cell st1_ 2 rfl;have x0:=xc 0 _ rfl;have x1:=xc 1 _ rfl;have x2:=xc 2 _ rfl;clear xc;obtain ⟨yc,yf,yl,yg⟩:=BK.cell st1_ 1 rfl;have y0:=yc 0 _ rfl;have y1:=yc 1 _ rfl;have y2:=yc 2 _ rfl;clear yc;go_simp
 refine hK _ _ (FL.of_below hb1_) ?_;clear hK K;refine dW (o:=?o10_3_1) ?hi10_3_1 ?hw10_3_1 (by rfl) (fun K hK=>?rest10_3_1);case hi10_3_1=>(simp [go_sem];rfl)
 case hw10_3_1=>rfl
 go_simp
 refine Calls.mono (H4.out _) ?_;rintro e w2_ ⟨ub,rfl,ub1,hb2_⟩;have st2_:=BK.next st1_ hb2_;clear x0 x1 x2 xf xl xg y0 y1 y2 yf yl yg;obtain ⟨xc,xf,xl,xg⟩:=BK.cell st2_ 2 rfl;have x0:=xc 0 _ rfl;have x1:=xc 1 _ rfl;have x2:=xc 2 _ rfl;clear xc;obtain ⟨yc,yf,yl,yg⟩:=BK.cell st2_ 1 rfl;have y0:=yc 0 _ rfl;have y1:=yc 1 _ rfl;have y2:=yc 2 _ rfl;clear yc;replace ua1:=RN.below ua1 hb2_;go_simp
 refine hK _ _ (FL.of_below hb2_) ?_;clear hK K;refine dW (o:=?o11_3_1) ?hi11_3_1 ?hw11_3_1 (by rfl) (fun K hK=>?rest11_3_1);case hi11_3_1=>(simp [go_sem];rfl)
 case hw11_3_1=>rfl
 go_simp
 refine Calls.mono (T1.out _ _ _ ua1 ub1) ?_;rintro e w3_ ⟨tx,rfl,tx1,hb3_⟩;have st3_:=BK.next st2_ hb3_;clear x0 x1 x2 xf xl xg y0 y1 y2 yf yl yg;obtain ⟨xc,xf,xl,xg⟩:=BK.cell st3_ 2 rfl;have x0:=xc 0 _ rfl;have x1:=xc 1 _ rfl;have x2:=xc 2 _ rfl;clear xc;obtain ⟨yc,yf,yl,yg⟩:=BK.cell st3_ 1 rfl;have y0:=yc 0 _ rfl;have y1:=yc 1 _ rfl;have y2:=yc 2 _ rfl;clear yc;replace ua1:=RN.below ua1 hb3_;replace ub1:=RN.below ub1 hb3_;go_simp
 refine hK _ _ (FL.of_below hb3_) ?_;clear hK K;refine dW (o:=?o13_3_1) ?hi13_3_1 ?hw13_3_1 (by rfl) (fun K hK=>?rest13_3_1);case hi13_3_1=>(simp [go_sem];rfl)
 case hw13_3_1=>rfl
 go_simp
 refine Calls.mono (H1.out _) ?_;rintro e w4_ ⟨da,rfl,da1,hb4_⟩;have st4_:=BK.next st3_ hb4_;clear x0 x1 x2 xf xl xg y0 y1 y2 yf yl yg;obtain ⟨xc,xf,xl,xg⟩:=BK.cell st4_ 2 rfl;have x0:=xc 0 _ rfl;have x1:=xc 1 _ rfl;have x2:=xc 2 _ rfl;clear xc;obtain ⟨yc,yf,yl,yg⟩:=BK.cell st4_ 1 rfl;have y0:=yc 0 _ rfl;have y1:=yc 1 _ rfl;have y2:=yc 2 _ rfl;clear yc;replace tx1:=RN.below tx1 hb4_;go_simp
 refine hK _ _ (FL.of_below hb4_) ?_;clear hK K;refine dW (o:=?o15_3_1) ?hi15_3_1 ?hw15_3_1 (by rfl) (fun K hK=>?rest15_3_1);case hi15_3_1=>(simp [go_sem];rfl)
 case hw15_3_1=>rfl
 go_simp
 refine Calls.mono (H2.out _) ?_;rintro e w5_ ⟨db,rfl,db1,hb5_⟩;have st5_:=BK.next st4_ hb5_;clear x0 x1 x2 xf xl xg y0 y1 y2 yf yl yg;obtain ⟨xc,xf,xl,xg⟩:=BK.cell st5_ 2 rfl;have x0:=xc 0 _ rfl;have x1:=xc 1 _ rfl;have x2:=xc 2 _ rfl;clear xc;obtain ⟨yc,yf,yl,yg⟩:=BK.cell st5_ 1 rfl;have y0:=yc 0 _ rfl;have y1:=yc 1 _ rfl;have y2:=yc 2 _ rfl;clear yc;replace tx1:=RN.below tx1 hb5_;replace da1:=RN.below da1 hb5_;go_simp
 refine hK _ _ (FL.of_below hb5_) ?_;clear hK K;refine dW (o:=?o16_3_1) ?hi16_3_1 ?hw16_3_1 (by rfl) (fun K hK=>?rest16_3_1);case hi16_3_1=>(simp [go_sem];rfl)
 case hw16_3_1=>rfl
 go_simp
 refine Calls.mono (T2.out _ _ _ da1 db1) ?_;rintro e w6_ ⟨td,rfl,td1,hb6_⟩;have st6_:=BK.next st5_ hb6_;clear x0 x1 x2 xf xl xg y0 y1 y2 yf yl yg;obtain ⟨xc,xf,xl,xg⟩:=BK.cell st6_ 2 rfl;have x0:=xc 0 _ rfl;have x1:=xc 1 _ rfl;have x2:=xc 2 _ rfl;clear xc;obtain ⟨yc,yf,yl,yg⟩:=BK.cell st6_ 1 rfl;have y0:=yc 0 _ rfl;have y1:=yc 1 _ rfl;have y2:=yc 2 _ rfl;clear yc;replace tx1:=RN.below tx1 hb6_;replace da1:=RN.below da1 hb6_;replace db1:=RN.below db1 hb6_;go_simp
 refine hK _ _ (FL.of_below hb6_) ?_;clear hK K;refine dW (o:=?o17_3_1) ?hi17_3_1 ?hw17_3_1 (by rfl) (fun K hK=>?rest17_3_1);case hi17_3_1=>(simp [go_sem];rfl)
 case hw17_3_1=>rfl
 go_simp
 refine Calls.mono (R.out _ _ _ tx1 td1) ?_;rintro e w7_ ⟨rfl,hb7_⟩;have st7_:=BK.next st6_ hb7_;clear x0 x1 x2 xf xl xg y0 y1 y2 yf yl yg;obtain ⟨zc,zf,zl,zg⟩:=BK.cell st7_ 0 rfl;have z0:=zc 0 _ rfl;have z1:=zc 1 _ rfl;have z2:=zc 2 _ rfl;clear zc;replace tx1:=RN.below tx1 hb7_;replace td1:=RN.below td1 hb7_;go_simp
 refine hK _ _ (FL.of_below hb7_) ?_;clear hK K;refine ue 18 (fun j hj=>by simp;omega) ?_;simp only [List.drop_succ_cons,List.drop_zero];have st8_:=BK.put3 st7_ 0 rfl 0 (.bool c.neg) (.string c.num) (.string c.den);go_wp2
 refine DE (.agg #[.bool c.neg,.string c.num,.string c.den]) st8_ 0 rfl (fun W_ c_=>by have c0_:=c_ 0 _ rfl;have c1_:=c_ 1 _ rfl;have c2_:=c_ 2 _ rfl;simp [results,Tryz.results223,go_sem,c0_,c1_,c2_]) rfl ⟨rfl,st8_.1⟩
theorem DG (p q:Rat) (m n:Nat) (w:World) (hp:qB m p) (hq:qB n q) (hm:m<=100000000000) (hn:n<=100000000000) (hp0:p≠0) (hq0:q≠0):
  Calls prog 222 #[aF (enc p),aF (enc q)] w fun e w'=>e= .returned (aF (enc (p/q)))/\Below w.heap.size w w':=by
 have hne1:=dr (fun h=>hp0 ((bY p).1 h));have hne2:=dr (fun h=>hq0 ((bY q).1 h));have es1:=gC hp;have es2:=gC hq;have H1:=hid (fun w=>AI (enc p) w (by omega));have H2:=hid (fun w=>AI (enc q) w (by omega));have H3:=hid (fun w=>ia (enc p).num w (by omega));have H4:=hid (fun w=>ia (enc q).num w (by omega));simp only [j7,j8] at H1 H2 H3 H4;have N1:NB m p.num.natAbs:=hp.1;have N2:NB m p.den:=hp.2;have N3:NB n q.num.natAbs:=hq.1;have N4:NB n q.den:=hq.2;have hd1:=p.den_pos;have hd2:=q.den_pos;have hq1:0<q.num.natAbs:=Nat.pos_of_ne_zero fun h=>hq0 ((GS q).1 h)
 have T1:=hid (fun (w:World) (u v:Value)=>lk (w:=w) (u:=u) (v:=v) N1 N4 (by omega) (by omega));have T2:=hid (fun (w:World) (u v:Value)=>lk (w:=w) (u:=u) (v:=v) N2 N3 (by omega) (by omega));have R:=hid (fun (w:World) (u v:Value)=>ew (bc p !=bc q) u v (p.num.natAbs*q.den) (p.den*q.num.natAbs) (m+n) w (N1.mul N4) (N2.mul N3) (by omega) (Nat.mul_pos hd1 hq1));rw [Fo] at R;rw [show bc p=(enc p).neg from rfl,show bc q=(enc q).neg from rfl] at R;obtain ⟨X,hX⟩:∃X,X=p.num.natAbs*q.den:=⟨_,rfl⟩;obtain ⟨D,hD⟩:∃X,X=p.den*q.num.natAbs:=⟨_,rfl⟩;rw [←hX] at T1 R;rw [←hD] at T2 R;generalize enc (p/q)=c at *
 generalize enc p=a at *
 generalize enc q=b at *
 clear hX hD N1 N2 N3 N4 hp hq hp0 hq0 es1 es2 hd1 hd2 hq1;unfold aF at H1 H2 R;unfold aF;have st0:=(BK.push (BK.push (BK.push (BK.nil w) 32 [.bool a.neg,.string a.num,.string a.den] (b:=w.heap.size) (by simp)) 32 [.bool b.neg,.string b.num,.string b.den] (b:=w.heap.size+1) (by simp)) 32 [.bool false,.string {data:= #[]},.string {data:= #[]}] (b:=w.heap.size+1+1) (by simp));obtain ⟨xc,xf,xl,xg⟩:=BK.cell st0 2 rfl;have x0:=xc 0 _ rfl;have x1:=xc 1 _ rfl;have x2:=xc 2 _ rfl;clear xc;obtain ⟨yc,yf,yl,yg⟩:=BK.cell st0 1 rfl;have y0:=yc 0 _ rfl;have y1:=yc 1 _ rfl;have y2:=yc 2 _ rfl;clear yc;go_enter func222,ntmps222
 go_wp2_with fail
 refine je (by kernel_rfl) [(0,true),(1,true),(2,true),(3,true),(4,true),(5,true),(6,true),(8,true),(11,true),(13,true),(14,true),(7,false),(9,false),(10,false),(12,false),(15,false),(16,false),(17,false),(18,false)] (fun i=>decide (i<18)) (by kernel_rfl) (fun _ _ d _ _ h=>by cases d<;>exact h) ?_;refine bS (o:=?o0_3_2) (v:=?v0_3_2) (a':=?aa0_3_2) ?hi0_3_2 (Or.inl ⟨?hw0_3_2,?hy0_3_2⟩) ?ha0_3_2 ?rest0_3_2;case hi0_3_2=>(simp [go_sem];rfl)
 case hw0_3_2=>rfl
 case hy0_3_2=>(intro w0 hF0;clear hF0;first|(go_simp;done)|(go_simp;with_reducible rfl))
 case ha0_3_2=>(go_simp;rfl)
 refine bS (o:=?o1_3_2) (v:=?v1_3_2) (a':=?aa1_3_2) ?hi1_3_2 (Or.inl ⟨?hw1_3_2,?hy1_3_2⟩) ?ha1_3_2 ?rest1_3_2;case hi1_3_2=>(simp [go_sem];rfl)
 case hw1_3_2=>rfl
 case hy1_3_2=>(intro w0 hF0;have hR0:=fun p h=>FL.cell (p:=p) hF0 h;first|(go_simp;done)|(go_simp;with_reducible rfl))
 case ha1_3_2=>(go_simp;rfl)
 refine bS (o:=?o2_3_2) (v:=?v2_3_2) (a':=?aa2_3_2) ?hi2_3_2 (Or.inl ⟨?hw2_3_2,?hy2_3_2⟩) ?ha2_3_2 ?rest2_3_2;case hi2_3_2=>(simp [go_sem];rfl)
 case hw2_3_2=>rfl
 case hy2_3_2=>(intro w0 hF0;clear hF0;first|(go_simp;done)|(go_simp;with_reducible rfl))
 case ha2_3_2=>(go_simp;rfl)
 refine bS (o:=?o3_3_2) (v:=?v3_3_2) (a':=?aa3_3_2) ?hi3_3_2 (Or.inl ⟨?hw3_3_2,?hy3_3_2⟩) ?ha3_3_2 ?rest3_3_2;case hi3_3_2=>(simp [go_sem];rfl)
 case hw3_3_2=>rfl
 case hy3_3_2=>(intro w0 hF0;have hR0:=fun p h=>FL.cell (p:=p) hF0 h;first|(go_simp;done)|(go_simp;with_reducible rfl))
 case ha3_3_2=>(go_simp;rfl)
 refine bS (o:=?o4_3_2) (v:=?v4_3_2) (a':=?aa4_3_2) ?hi4_3_2 (Or.inl ⟨?hw4_3_2,?hy4_3_2⟩) ?ha4_3_2 ?rest4_3_2;case hi4_3_2=>(simp [go_sem];rfl)
 case hw4_3_2=>rfl
 case hy4_3_2=>(intro w0 hF0;clear hF0;first|(go_simp;done)|(go_simp;with_reducible rfl))
 case ha4_3_2=>(go_simp;rfl)
 refine bS (o:=?o5_3_2) (v:=?v5_3_2) (a':=?aa5_3_2) ?hi5_3_2 (Or.inl ⟨?hw5_3_2,?hy5_3_2⟩) ?ha5_3_2 ?rest5_3_2;case hi5_3_2=>(simp [go_sem];rfl)
 case hw5_3_2=>rfl
 case hy5_3_2=>(intro w0 hF0;clear hF0;first|(go_simp;done)|(go_simp;with_reducible rfl))
 case ha5_3_2=>(go_simp;rfl)
 refine bS (o:=?o6_3_2) (v:=?v6_3_2) (a':=?aa6_3_2) ?hi6_3_2 (Or.inl ⟨?hw6_3_2,?hy6_3_2⟩) ?ha6_3_2 ?rest6_3_2;case hi6_3_2=>(simp [go_sem];rfl)
 case hw6_3_2=>rfl
 case hy6_3_2=>(intro w0 hF0;have hR0:=fun p h=>FL.cell (p:=p) hF0 h;first|(go_simp;done)|(go_simp;with_reducible rfl))
 case ha6_3_2=>(go_simp;rfl)
 refine bS (o:=?o8_3_2) (v:=?v8_3_2) (a':=?aa8_3_2) ?hi8_3_2 (Or.inl ⟨?hw8_3_2,?hy8_3_2⟩) ?ha8_3_2 ?rest8_3_2;case hi8_3_2=>(simp [go_sem];rfl)
 case hw8_3_2=>rfl
 case hy8_3_2=>(intro w0 hF0;have hR0:=fun p h=>FL.cell (p:=p) hF0 h;first|(go_simp;done)|(go_simp;with_reducible rfl))
 case ha8_3_2=>(go_simp;rfl)
 refine bS (o:=?o11_3_2) (v:=?v11_3_2) (a':=?aa11_3_2) ?hi11_3_2 (Or.inl ⟨?hw11_3_2,?hy11_3_2⟩) ?ha11_3_2 ?rest11_3_2;case hi11_3_2=>(simp [go_sem];rfl)
 case hw11_3_2=>rfl
 case hy11_3_2=>(intro w0 hF0;have hR0:=fun p h=>FL.cell (p:=p) hF0 h;first|(go_simp;done)|(go_simp;with_reducible rfl))
 case ha11_3_2=>(go_simp;rfl)
 refine bS (o:=?o13_3_2) (v:=?v13_3_2) (a':=?aa13_3_2) ?hi13_3_2 (Or.inl ⟨?hw13_3_2,?hy13_3_2⟩) ?ha13_3_2 ?rest13_3_2;case hi13_3_2=>(simp [go_sem];rfl)
 case hw13_3_2=>rfl
 case hy13_3_2=>(intro w0 hF0;clear hF0;first|(go_simp;done)|(go_simp;with_reducible rfl))
 case ha13_3_2=>(go_simp;rfl)
 refine bS (o:=?o14_3_2) (v:=?v14_3_2) (a':=?aa14_3_2) ?hi14_3_2 (Or.inl ⟨?hw14_3_2,?hy14_3_2⟩) ?ha14_3_2 ?rest14_3_2;case hi14_3_2=>(simp [go_sem];rfl)
 case hw14_3_2=>rfl
 case hy14_3_2=>(intro w0 hF0;have hR0:=fun p h=>FL.cell (p:=p) hF0 h;first|(go_simp;done)|(go_simp;with_reducible rfl))
 case ha14_3_2=>(go_simp;rfl)
 refine dW (o:=?o7_3_2) ?hi7_3_2 ?hw7_3_2 (by rfl) (fun K hK=>?rest7_3_2);case hi7_3_2=>(simp [go_sem];rfl)
 case hw7_3_2=>rfl
 go_simp
 refine Calls.mono (H3.out _) ?_;rintro e w1_ ⟨ua,rfl,ua1,hb1_⟩;have st1_:=BK.next (BK.drew st0) hb1_;clear x0 x1 x2 xf xl xg y0 y1 y2 yf yl yg;obtain ⟨xc,xf,xl,xg⟩:=BK.cell st1_ 2 rfl;have x0:=xc 0 _ rfl;have x1:=xc 1 _ rfl;have x2:=xc 2 _ rfl;clear xc;obtain ⟨yc,yf,yl,yg⟩:=BK.cell st1_ 1 rfl;have y0:=yc 0 _ rfl;have y1:=yc 1 _ rfl;have y2:=yc 2 _ rfl;clear yc;go_simp
 refine hK _ _ (FL.of_below hb1_) ?_;clear hK K;refine dW (o:=?o9_3_2) ?hi9_3_2 ?hw9_3_2 (by rfl) (fun K hK=>?rest9_3_2);case hi9_3_2=>(simp [go_sem];rfl)
 case hw9_3_2=>rfl
 go_simp
 refine Calls.mono (H2.out _) ?_;rintro e w2_ ⟨db,rfl,db1,hb2_⟩;have st2_:=BK.next st1_ hb2_;clear x0 x1 x2 xf xl xg y0 y1 y2 yf yl yg;obtain ⟨xc,xf,xl,xg⟩:=BK.cell st2_ 2 rfl;have x0:=xc 0 _ rfl;have x1:=xc 1 _ rfl;have x2:=xc 2 _ rfl;clear xc;obtain ⟨yc,yf,yl,yg⟩:=BK.cell st2_ 1 rfl;have y0:=yc 0 _ rfl;have y1:=yc 1 _ rfl;have y2:=yc 2 _ rfl;clear yc;replace ua1:=RN.below ua1 hb2_;go_simp
 refine hK _ _ (FL.of_below hb2_) ?_;clear hK K;refine dW (o:=?o10_3_2) ?hi10_3_2 ?hw10_3_2 (by rfl) (fun K hK=>?rest10_3_2);case hi10_3_2=>(simp [go_sem];rfl)
 case hw10_3_2=>rfl
 go_simp
 refine Calls.mono (T1.out _ _ _ ua1 db1) ?_;rintro e w3_ ⟨tx,rfl,tx1,hb3_⟩;have st3_:=BK.next st2_ hb3_;clear x0 x1 x2 xf xl xg y0 y1 y2 yf yl yg;obtain ⟨xc,xf,xl,xg⟩:=BK.cell st3_ 2 rfl;have x0:=xc 0 _ rfl;have x1:=xc 1 _ rfl;have x2:=xc 2 _ rfl;clear xc;obtain ⟨yc,yf,yl,yg⟩:=BK.cell st3_ 1 rfl;have y0:=yc 0 _ rfl;have y1:=yc 1 _ rfl;have y2:=yc 2 _ rfl;clear yc;replace ua1:=RN.below ua1 hb3_;replace db1:=RN.below db1 hb3_;go_simp
 refine hK _ _ (FL.of_below hb3_) ?_;clear hK K;refine dW (o:=?o12_3_2) ?hi12_3_2 ?hw12_3_2 (by rfl) (fun K hK=>?rest12_3_2);case hi12_3_2=>(simp [go_sem];rfl)
 case hw12_3_2=>rfl
 go_simp
 refine Calls.mono (H1.out _) ?_;rintro e w4_ ⟨da,rfl,da1,hb4_⟩;have st4_:=BK.next st3_ hb4_;clear x0 x1 x2 xf xl xg y0 y1 y2 yf yl yg;obtain ⟨xc,xf,xl,xg⟩:=BK.cell st4_ 2 rfl;have x0:=xc 0 _ rfl;have x1:=xc 1 _ rfl;have x2:=xc 2 _ rfl;clear xc;obtain ⟨yc,yf,yl,yg⟩:=BK.cell st4_ 1 rfl;have y0:=yc 0 _ rfl;have y1:=yc 1 _ rfl;have y2:=yc 2 _ rfl;clear yc;replace tx1:=RN.below tx1 hb4_;go_simp
 refine hK _ _ (FL.of_below hb4_) ?_;clear hK K;refine dW (o:=?o15_3_2) ?hi15_3_2 ?hw15_3_2 (by rfl) (fun K hK=>?rest15_3_2);case hi15_3_2=>(simp [go_sem];rfl)
 case hw15_3_2=>rfl
 go_simp
 refine Calls.mono (H4.out _) ?_;rintro e w5_ ⟨ub,rfl,ub1,hb5_⟩;have st5_:=BK.next st4_ hb5_;clear x0 x1 x2 xf xl xg y0 y1 y2 yf yl yg;obtain ⟨xc,xf,xl,xg⟩:=BK.cell st5_ 2 rfl;have x0:=xc 0 _ rfl;have x1:=xc 1 _ rfl;have x2:=xc 2 _ rfl;clear xc;obtain ⟨yc,yf,yl,yg⟩:=BK.cell st5_ 1 rfl;have y0:=yc 0 _ rfl;have y1:=yc 1 _ rfl;have y2:=yc 2 _ rfl;clear yc;replace tx1:=RN.below tx1 hb5_;replace da1:=RN.below da1 hb5_;go_simp
 refine hK _ _ (FL.of_below hb5_) ?_;clear hK K;refine dW (o:=?o16_3_2) ?hi16_3_2 ?hw16_3_2 (by rfl) (fun K hK=>?rest16_3_2);case hi16_3_2=>(simp [go_sem];rfl)
 case hw16_3_2=>rfl
 go_simp
 refine Calls.mono (T2.out _ _ _ da1 ub1) ?_;rintro e w6_ ⟨td,rfl,td1,hb6_⟩;have st6_:=BK.next st5_ hb6_;clear x0 x1 x2 xf xl xg y0 y1 y2 yf yl yg;obtain ⟨xc,xf,xl,xg⟩:=BK.cell st6_ 2 rfl;have x0:=xc 0 _ rfl;have x1:=xc 1 _ rfl;have x2:=xc 2 _ rfl;clear xc;obtain ⟨yc,yf,yl,yg⟩:=BK.cell st6_ 1 rfl;have y0:=yc 0 _ rfl;have y1:=yc 1 _ rfl;have y2:=yc 2 _ rfl;clear yc;replace tx1:=RN.below tx1 hb6_;replace da1:=RN.below da1 hb6_;replace ub1:=RN.below ub1 hb6_;go_simp
 refine hK _ _ (FL.of_below hb6_) ?_;clear hK K;refine dW (o:=?o17_3_2) ?hi17_3_2 ?hw17_3_2 (by rfl) (fun K hK=>?rest17_3_2);case hi17_3_2=>(simp [go_sem];rfl)
 case hw17_3_2=>rfl
 go_simp
 refine Calls.mono (R.out _ _ _ tx1 td1) ?_;rintro e w7_ ⟨rfl,hb7_⟩;have st7_:=BK.next st6_ hb7_;clear x0 x1 x2 xf xl xg y0 y1 y2 yf yl yg;obtain ⟨zc,zf,zl,zg⟩:=BK.cell st7_ 0 rfl;have z0:=zc 0 _ rfl;have z1:=zc 1 _ rfl;have z2:=zc 2 _ rfl;clear zc;replace tx1:=RN.below tx1 hb7_;replace td1:=RN.below td1 hb7_;go_simp
 refine hK _ _ (FL.of_below hb7_) ?_;clear hK K;refine ue 18 (fun j hj=>by simp;omega) ?_;simp only [List.drop_succ_cons,List.drop_zero];have st8_:=BK.put3 st7_ 0 rfl 0 (.bool c.neg) (.string c.num) (.string c.den);go_wp2
 refine DE (.agg #[.bool c.neg,.string c.num,.string c.den]) st8_ 0 rfl (fun W_ c_=>by have c0_:=c_ 0 _ rfl;have c1_:=c_ 1 _ rfl;have c2_:=c_ 2 _ rfl;simp [results,Tryz.results222,go_sem,c0_,c1_,c2_]) rfl ⟨rfl,st8_.1⟩
theorem yi (p q:Rat) (m n:Nat) (w:World) (hp:qB m p) (hq:qB n q) (hm:m<=100000000000) (hn:n<=100000000000):
  Calls prog 223 #[aF (enc p),aF (enc q)] w fun e w'=>e= .returned (aF (enc (p*q)))/\Below w.heap.size w w':=by
 by_cases h1:p=0
 ·subst h1;rw [Rat.zero_mul];exact Bj _ _ ((bY 0).2 rfl) w
 by_cases h2:q=0
 ·subst h2;rw [Rat.mul_zero];exact Bk _ _ (fun h=>h1 ((bY p).1 h)) ((bY 0).2 rfl) w
 exact Bl p q m n w hp hq hm hn h1 h2
theorem Bm (p q:Rat) (m n:Nat) (w:World) (hp:qB m p) (hq:qB n q) (hm:m<=100000000000) (hn:n<=100000000000) (h2:q≠0):
  Calls prog 222 #[aF (enc p),aF (enc q)] w fun e w'=>e= .returned (aF (enc (p/q)))/\Below w.heap.size w w':=by
 by_cases h1:p=0
 ·subst h1;rw [Rat.div_def,Rat.zero_mul];exact DF _ _ ((bY 0).2 rfl) w
 exact DG p q m n w hp hq hm hn h1 h2
theorem m9 (p q:Rat) (m n:Nat) (hp:qB m p) (hq:qB n q) (hm:m<=100000000000) (hn:n<=100000000000):aR prog 223 [.agg (ai (enc p)),.agg (ai (enc q))] (.val (.agg (ai (enc (p*q))))):=
 bj (ch func223 (by decide) (by kernel_rfl)) [aF (enc p),aF (enc q)] (aF (enc (p*q))) fun w=>yi p q m n w hp hq hm hn
theorem Ft (p q:Rat) (m n:Nat) (hp:qB m p) (hq:qB n q) (hm:m<=100000000000) (hn:n<=100000000000) (h2:q≠0):aR prog 222 [.agg (ai (enc p)),.agg (ai (enc q))] (.val (.agg (ai (enc (p/q))))):=
 bj (ch func222 (by decide) (by kernel_rfl)) [aF (enc p),aF (enc q)] (aF (enc (p/q))) fun w=>Bm p q m n w hp hq hm hn h2
def rMs (a:bR):Nat->Nat->List Int
 |0,_=>[]
 |n+1,i=>if mbA (i:Int) a=true then (i:Int)::rMs a n (i+1) else rMs a n (i+1)
theorem tV (a:bR):∀(n i:Nat) (c:Int),c∈rMs a n i↔(i:Int)<=c/\c<((i+n:Nat):Int)/\mbA c a=true
 |0,i,c=>by simp [rMs];omega
 |n+1,i,c=>by
  have h1:=tV a n (i+1) c;rw [rMs];by_cases hc:c=(i:Int)
  ·subst hc;split
   ·rename_i h;simp [h];omega
   rename_i h;rw [h1];simp [h]
  split
  ·rw [List.mem_cons,h1];constructor
   ·rintro (h|h)
    ·exact absurd h hc
    exact ⟨by omega,by omega,h.2.2⟩
   exact fun h=> .inr ⟨by omega,by omega,h.2.2⟩
  rw [h1];constructor
  ·exact fun h=>⟨by omega,by omega,h.2.2⟩
  exact fun h=>⟨by omega,by omega,h.2.2⟩
theorem yj (a:bR):∀n i,(rMs a n i).Pairwise (·<·)
 |0,_=> .nil
 |n+1,i=>by
  have h1:=yj a n (i+1);rw [rMs];split
  ·refine List.pairwise_cons.2 ⟨fun x hx=>?_,h1⟩;have:=(tV a n (i+1) x).1 hx;omega
  exact h1
theorem qv {d:Array Int} (hs:∀i j (hi:i<d.size) (hj:j<d.size),i<=j->d[i]<=d[j]):∀m,m<=d.size->(Lib.compactUpTo d m).Pairwise (·<=·)
 |0,_=>by simp [Lib.compactUpTo]
 |m+1,hm=>by
  have h1:=qv hs m (by omega);have hlt:m<d.size:=by omega
  rw [Lib.compactUpTo_succ];split
  ·rw [List.pairwise_append];refine ⟨h1,by simp,fun x hx y hy=>?_⟩;obtain ⟨j,hj,hjm,rfl⟩:=(mT m (by omega) hs).2 x hx;simp only [List.mem_singleton] at hy;subst hy;rw [getElem!_pos d m hlt];exact hs j m hj hlt (by omega)
  rw [List.append_nil];exact h1
theorem z7 (a:bR) (c:Int) (hc:c≠ -1):mbA c a=true↔c∈mem a:=by
 rw [pB,tH c hc,za];simp
theorem ym {a:bR} {n:Nat} (h:∀t∈a,∀x∈t,inR n x.claim):mem a=rMs a n 0:=by
 have hin:∀i∈mem a,0<=i/\i<(n:Int):=fun i hi=>by
  obtain ⟨p,h1,h2,h3⟩:=iS (ka hi);obtain ⟨t,ht,hp⟩:=List.mem_flatten.1 h1;rcases h t ht p hp with h4|h4
  ·exact absurd h4 h3
  rw [←h2];exact h4
 refine List.Perm.eq_of_pairwise (le:=fun x y=>x<=y) (fun x y _ _ h1 h2=>Int.le_antisymm h1 h2) (qv (nL _) _ (by simp)) ((yj a n 0).imp fun h=>Int.le_of_lt h) ?_;refine (List.perm_ext_iff_of_nodup (kf a) ((yj a n 0).imp fun h=>by omega)).2 fun c=>?_
 rw [tV];constructor
 ·intro hc;have h1:=hin c hc;exact ⟨by omega,by omega,(z7 a c (by omega)).2 hc⟩
 intro hc;exact (z7 a c (by omega)).1 hc.2.2
end Go.Proofs.YtokmkopihhnggaaGreatDoor
