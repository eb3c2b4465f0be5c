/- The reference's waterfall: the tiers of an agreement; walked by the abstract machine. -/
import Derived.Test.YtokmkopihhnggaaGreatDoorWp4M
import Derived.Test.YtokmkopihhnggaaGreatDoorRw2M
set_option linter.unusedVariables false
set_option maxHeartbeats 4000000
set_option maxRecDepth 100000
set_option linter.unusedSimpArgs false
set_option linter.defProp false
namespace Go.Proofs.YtokmkopihhnggaaGreatDoor
open Go Go.RowKit Go.Proofs.Tryz
theorem GG {a b:Rat} (h:a<b):bT a b=a:=by unfold bT;rw [if_neg (by grind)]
theorem GH {a b:Rat} (h:¬a<b):bT a b=b:=by
 unfold bT;split
 ·rfl
 grind
def rLs (a:bP) (rest:List Rat):List GClaim->Nat->WT->WT
 |[],_,la=>la
 |_::l,i,la=>if mbA (i:Int) a=true then rLs a rest l (i+1) (la++[((i:Int),rest.getD i 0)]) else rLs a rest l (i+1) la
theorem zm (a:bP) (rest:List Rat):∀(l:List GClaim) (i:Nat) (la:WT),rLs a rest l i la=la++fa (rMs a l.length i) rest
 |[],i,la=>by simp [rLs,rMs,fa]
 |c::l,i,la=>by
  rw [rLs,List.length_cons,rMs,zm a rest l,zm a rest l];split
  ·rw [qP,Int.toNat_natCast,List.append_assoc];rfl
  rfl
def F60:=And.intro zS (And.intro tf1 (And.intro wj (And.intro tf6 (And.intro qo (And.intro tf2 (And.intro DY (And.intro mc (And.intro tf0 (And.intro me (And.intro Ar (And.intro tf8 (And.intro yI (And.intro nJ (And.intro tf9 (And.intro DR (And.intro DS (And.intro yG (And.intro nK (And.intro tf3 (And.intro wk (And.intro yH (And.intro cG (And.intro rY (And.intro jc (And.intro Hc (And.intro Hf (And.intro tf5 (And.intro d7 (Hg)))))))))))))))))))))))))))))
theorem F61:type_of%F60:=F60
theorem EY (e:GEst) (a:bP) (K Km:Nat) (hB:layB e.claims a K Km):aU prog 184 [.agg (aI e),.agg (bz a)] (.val (.one (.sh 1 (ba e.claims a).2.length (ar cRT (ba e.claims a).2)))):=by
 have hK0:=hB.k0;have hKm:=hB.km;have hKb:=hB.kb;have hn:=hB.n;have htn:=hB.tn;have hin:∀t∈a,∀x∈t,inR e.claims.length x.claim:=fun t ht x hx=>((hB.pn t ht).2 x hx).1
 refine aT func184 rfl (by decide) (N:=129) rfl (by simp) (R:=[.tmp 4]) rfl fun en k0=>?_
 refine awN ?_;simp only [F61,seval,aI,bz];refine awN ?_;simp only [F61,seval];refine awN ?_;simp only [F61,seval,jF];repeat refine ob ?_
 refine awN ?_;simp only [F61,seval];refine aS [2,3,5,6,7] [2,3,18] ?_;try simp only [ak,F61,seval]
 repeat' first|apply awS|apply awB
 refine aM (fun n st=>∃i0 out nx,i0<=e.claims.length/\n=e.claims.length-i0/\out++List.map (fun c=>qOf c.amount) (e.claims.drop i0)=[]++List.map (fun c=>qOf c.amount) e.claims/\out.length=i0/\st=⟨mkT [(2,.val (.one (.ptr 2 0 0))),(3,.val (.one (.ptr 3 1 0))),(5,one (.slice none 0 0)),(6,.val (.one (.own 18 2 e.claims.length 3))),(7,one (.int .i64 i0))],mkH [(2,⟨0,36,5,1,aI e⟩),(3,⟨1,50,1,1,bz a⟩),(18,⟨2,32,3,e.claims.length,ar cQ (out++List.replicate (e.claims.length-i0) 0)⟩)],nx,0⟩) (e.claims.length) ⟨0,[],_,by omega,by omega,by rfl,(by first|omega|assumption|rfl|simp|(simp;omega)),rfl⟩ ?_;rintro n0 st ⟨i0,out,nx0,hk0,rfl,hL0,hV0_1,rfl⟩;by_cases hlt0:i0<e.claims.length
 ·have hI0:(i0:Int)<(e.claims.length:Int):=by omega
  have hat0:=aO dk e.claims i0 hlt0;try rw [Nat.mul_one] at hat0
  rw [List.drop_eq_getElem_cons hlt0] at hL0;have hca:=hB.am _ (List.getElem_mem hlt0);generalize e.claims[i0]=c at *
  simp only [List.map_cons] at hL0;refine awN ?_;simp only [F61,seval,hI0,aI];refine awT ?_;refine awK ?_;simp only [F61,seval];have hF:=AZ c.amount K hca (by omega);simp only [ai] at hF;have hXl:(out++List.replicate (e.claims.length-i0) 0).length=e.claims.length:=by simp;omega
  have hset:=dJ bV (out++List.replicate (e.claims.length-i0) 0) i0 (qOf c.amount) (by omega);have hXs:(out++List.replicate (e.claims.length-i0) 0).set i0 (qOf c.amount)=out++[qOf c.amount]++List.replicate (e.claims.length-(i0+1)) 0:=by
   rw [List.set_append_right _ _ (by omega),hV0_1,Nat.sub_self,show e.claims.length-i0=(e.claims.length-(i0+1))+1 by omega,List.replicate_succ,List.set_cons_zero,List.append_assoc];try rfl
  rw [hXs] at hset;have hfl:=be bV (out++List.replicate (e.claims.length-i0) 0);rw [hXl] at hfl;simp only [cQ,ai] at hset;refine awN ?_;simp only [F61,seval,hI0,hat0,bj];repeat refine ob ?_
  refine ⟨_,hF,(by first|rfl|simp [a8,aK,al,aw,A1.cells,ab bp,ab bN]),?_⟩;try simp only [ak,F61,seval,hI0,hset,hfl]
  repeat refine ob ?_
  refine awN ?_;simp only [F61,seval];repeat refine ob ?_
  refine ⟨_,aC [2,3,5,6,7] [2,3,18],e.claims.length-(i0+1),by omega,i0+1,(out++[qOf c.amount]),?a7_nx,by omega,rfl,?i7_0,?i7_1,?st7⟩;case st7=>(simp only [F61,seval,bz];first|rfl|(simp [aI,bz,hI0,hat0,Nat.add_mul];done))
  case i7_0=>(simpa using hL0)
  all_goals (first|omega|assumption|(simp;omega)|(simp_all;done))
 obtain rfl:i0=e.claims.length:=by omega
 have hI0:¬(e.claims.length:Int)<(e.claims.length:Int):=by omega
 rw [List.drop_length] at hL0;simp only [List.map_nil,List.append_nil] at hL0;subst hL0;refine awN ?_;simp only [F61,seval,hI0,aI];refine awF ?_;refine awQ ?_;simp only [F61,seval];refine awN ?_;simp only [F61,seval];refine iB 5 105 280 1 (by decide) (by rfl) ?_;have hV1a:∀y∈(e.claims.map fun c=>qOf c.amount),qB (K+0*(K+1)) y:=fun y hy=>by
  obtain ⟨c,h1,rfl⟩:=List.mem_map.1 hy;exact ((hB.am c h1).qB hK0).mono (by omega)
 have hrl:∀l:List Rat,l++List.replicate (e.claims.length-e.claims.length) 0=l:=fun l=>by simp
 simp only [F61,seval,hrl];refine aS [2,3,5,6,8] [2,3,18,105] ?_;try simp only [ak,F61,seval,bz]
 repeat' first|apply awS|apply awB
 refine aM (fun n st=>∃i1 out rest w s5 nx,i1<=a.length/\n=a.length-i1/\lyS out (a.drop i1) rest=lyS [] a (e.claims.map fun c:GClaim=>qOf c.amount)/\out.length=i1/\rest.length=e.claims.length/\(∀y∈rest,qB (K+w*(K+1)) y)/\w+pN (a.drop i1)=pN a/\st=⟨mkT [(2,.val (.one (.ptr 2 0 0))),(3,.val (.one (.ptr 3 1 0))),(5,.val (.one (.own 105 s5 out.length 1))),(6,.val (.one (.own 18 2 e.claims.length 3))),(8,one (.int .i64 i1))],mkH [(2,⟨0,36,5,1,aI e⟩),(3,⟨1,50,1,1,bz a⟩),(18,⟨2,32,3,e.claims.length,ar cQ rest⟩),(105,⟨s5,280,1,out.length,ar cRT out⟩)],nx,0⟩) (a.length) ⟨0,[],(e.claims.map fun c:GClaim=>qOf c.amount),0,_,_,by omega,by omega,by rfl,(by first|omega|assumption|rfl|simp|(simp;omega)),(by first|omega|assumption|rfl|simp|(simp;omega)),(by first|omega|assumption|rfl|simp|(simp;omega)),(by first|omega|assumption|rfl|simp|(simp;omega)),rfl⟩ ?_;rintro n1 st ⟨i1,out,rest,w,s5,nx1,hk1,rfl,hL1,hV1_1,hV1_2,hV1_3,hV1_4,rfl⟩;by_cases hlt1:i1<a.length
 ·have hI1:(i1:Int)<(a.length:Int):=by omega
  have hat1:=aO eP a i1 hlt1;try rw [Nat.mul_one] at hat1
  rw [List.drop_eq_getElem_cons hlt1] at hL1;have hpt:=hB.pn _ (List.getElem_mem hlt1);have hR1n:=hV1_2;have hR1:=hV1_3;have hw0:=hV1_4;rw [List.drop_eq_getElem_cons hlt1] at hw0;simp only [pN] at hw0;have hmw:(w+(a[i1]).length)*(K+1)=w*(K+1)+(a[i1]).length*(K+1):=Nat.add_mul _ _ _;have hm1:(w+(a[i1]).length)*(K+1)<=pN a*(K+1):=Nat.mul_le_mul_right _ (by omega);generalize a[i1]=t at *
  simp only [xi] at hL1;refine awN ?_;simp only [F61,seval,hI1,bz];refine awT ?_;refine awK ?_;simp only [F61,seval];refine awN ?_;simp only [F61,seval];refine awN ?_;simp only [F61,seval];refine iB 9 101 283 4 (by decide) (by rfl) ?_;simp only [F61,seval];have hV2a:∀y∈rest,qB (K+w*(K+1)+0*(K+1)) y:=fun y hy=>(hR1 y hy).mono (by omega)
  refine aS [2,3,5,6,8,9,10] [2,3,18,105,101] ?_;try simp only [ak,F61,seval,aI]
  repeat' first|apply awS|apply awB
  refine aM (fun n st=>∃i2 tr rest2 s9 nx,i2<=t.length/\n=t.length-i2/\lyT tr (t.drop i2) rest2=lyT [] t rest/\tr.length=i2/\rest2.length=e.claims.length/\(∀y∈rest2,qB (K+w*(K+1)+i2*(K+1)) y)/\(∀p∈tr,qB Km p.2)/\st=⟨mkT [(2,.val (.one (.ptr 2 0 0))),(3,.val (.one (.ptr 3 1 0))),(5,.val (.one (.own 105 s5 out.length 1))),(6,.val (.one (.own 18 2 e.claims.length 3))),(8,one (.int .i64 i1)),(9,.val (.one (.own 101 s9 tr.length 4))),(10,one (.int .i64 i2))],mkH [(2,⟨0,36,5,1,aI e⟩),(3,⟨1,50,1,1,bz a⟩),(18,⟨2,32,3,e.claims.length,ar cQ rest2⟩),(105,⟨s5,280,1,out.length,ar cRT out⟩),(101,⟨s9,283,4,tr.length,ar cWP tr⟩)],nx,0⟩) (t.length) ⟨0,[],rest,_,_,by omega,by omega,by rfl,(by first|omega|assumption|rfl|simp|(simp;omega)),(by first|omega|assumption|rfl|simp|(simp;omega)),(by first|omega|assumption|rfl|simp|(simp;omega)),(by first|omega|assumption|rfl|simp|(simp;omega)),rfl⟩ ?_;rintro n2 st ⟨i2,tr,rest2,s9,nx2,hk2,rfl,hL2,hV2_1,hV2_2,hV2_3,hV2_4,rfl⟩;by_cases hlt2:i2<t.length
  ·have hI2:(i2:Int)<(t.length:Int):=by omega
   have hat2:=aO fZ t i2 hlt2;try rw [Nat.mul_one] at hat2
   rw [List.drop_eq_getElem_cons hlt2] at hL2;have hxx:=hpt.2 _ (List.getElem_mem hlt2);have hxc:=hxx.1;have hxs:=hxx.2;have htl:=hV2_1;have hRn:=hV2_2;have hR2:=hV2_3;have hTq:=hV2_4;have hmul:(i2+1)*(K+1)<=t.length*(K+1):=Nat.mul_le_mul_right _ hlt2;have hmul1:(i2+1)*(K+1)=i2*(K+1)+(K+1):=Nat.succ_mul _ _;have hcm: -1<=(t[i2]).claim/\(t[i2]).claim<=1000000:=by rcases hxc with h|h<;>omega
   generalize t[i2]=x at *
   simp only [xh] at hL2;refine awN ?_;simp only [F61,seval,hI1,hat1,hI2,bz,bF];repeat refine ob ?_
   refine awT ?_;refine awK ?_;simp only [F61,seval];refine awN ?_;simp only [F61,seval,hI1,hat1,hI2,hat2,bF,bA];repeat refine ob ?_
   have hF:=AZ x.cap K hxs (by omega);simp only [ai] at hF;refine awN ?_;simp only [F61,seval];refine ⟨_,hF,(by first|rfl|simp [a8,aK,al,aw,A1.cells,ab bp,ab bN]),?_⟩;try simp only [ak,F61,seval]
   by_cases hc:x.claim= -1
   ·refine awN ?_;simp only [F61,seval,hc];refine awF ?_;refine awK ?_;simp only [F61,seval];have hwp:cV rest2 x=(rest2,qOf x.cap):=by unfold cV;rw [if_pos hc]
    have hnT:∀p∈tr++[(x.claim,qOf x.cap)],qB Km p.2:=fun p hp=>by
     rcases List.mem_append.1 hp with h|h
     ·exact hTq p h
     simp only [List.mem_singleton] at h;subst h;exact (hxs.qB hK0).mono (by omega)
    have hnR:∀y∈rest2,qB (K+w*(K+1)+(i2+1)*(K+1)) y:=fun y hy=>(hR2 y hy).mono (by omega)
    refine awN ?_;simp only [F61,seval];repeat refine ob ?_
    refine awN ?_;simp only [F61,seval];repeat refine ob ?_
    refine ⟨_,aC [2,3,5,6,8,9,10] [2,3,18,105,101],t.length-(i2+1),by omega,i2+1,(tr++[(x.claim,qOf x.cap)]),(rest2),?a19_s9,?a19_nx,by omega,rfl,?i19_0,?i19_1,?i19_2,?i19_3,?i19_4,?st19⟩;case st19=>(simp only [F61,seval,aI,aG,cWP,List.length_append,ai,hc];first|rfl|(simp [aI,bz,aG,cWP,List.length_append,List.length_cons,List.length_nil,hI0,hI1,hat1,hI2,hat2,hc,Nat.add_mul];done))
    case i19_0=>(rw [←hL2,hwp])
    all_goals (first|omega|assumption|(simp;omega)|(simp_all;done))
   refine awN ?_;simp only [F61,seval,hc];obtain ⟨k,hxk⟩:∃k:Nat,x.claim=(k:Int):=⟨x.claim.toNat,by rcases hxc with h|h<;>omega⟩;have hkl:k<rest2.length:=by rcases hxc with h|h<;>omega
   have hkt:x.claim.toNat=k:=by omega
   have hatk:=aO bV rest2 k hkl;have hgk:rest2.getD x.claim.toNat 0=rest2[k]:=by rw [hxk,Int.toNat_natCast,List.getD_eq_getElem?_getD,List.getElem?_eq_getElem hkl];rfl
   have hgB:=hR2 _ (List.getElem_mem hkl);simp only [cQ,ai] at hatk;have hfl:=be bV rest2;rw [hRn] at hfl;have hLs:=Ax rest2[k] (qOf x.cap) _ K hgB (hxs.qB hK0) (by omega) (by omega);simp only [ai] at hLs;refine awT ?_;by_cases hcap:x.capped=true
   ·by_cases hlt:rest2[k]<qOf x.cap
    ·have hLt:decide (rest2[k]<qOf x.cap)=true:=decide_eq_true hlt;refine awD (scT 0 10 (scq [20,23] .nil)) [0,0,0,0,142,142,142,142,142,142,142,0] ?_;simp only [F61,seval,hcap,hatk,hfl,hkt];repeat refine ob ?_
     refine ⟨_,hLs,(by first|rfl|simp [a8,aK,al,aw,A1.cells,ab bp,ab bN]),?_⟩;try simp only [ak,F61,seval,hlt]
     refine awT ?_;refine awN ?_;simp only [F61,seval,hatk,hfl,hkt];repeat refine ob ?_
     obtain ⟨hPB1,hPB2⟩:=lz hR2 (hxs.qB hK0) (by omega) (by omega);have hwp:cV rest2 x=(rest2.set k (rest2[k]-rest2[k]),rest2[k]):=by unfold cV;rw [if_neg hc,hgk,hxk,Int.toNat_natCast];simp only [hcap,if_true,GG hlt]
     rw [hwp] at hPB1 hPB2;simp only at hPB1 hPB2;have hSub:=qA rest2[k] (rest2[k]) _ _ hgB hPB2 (by omega) (by omega);simp only [ai] at hSub;have hset:=dJ bV rest2 k (rest2[k]-rest2[k]) hkl;simp only [cQ,ai] at hset;have hq9:qB Km (rest2[k]):=hPB2.mono (by omega);have hnT:∀p∈tr++[(x.claim,rest2[k])],qB Km p.2:=fun p hp=>by
      rcases List.mem_append.1 hp with h|h
      ·exact hTq p h
      simp only [List.mem_singleton] at h;subst h;exact hq9
     have hnR:∀y∈rest2.set k (rest2[k]-rest2[k]),qB (K+w*(K+1)+(i2+1)*(K+1)) y:=fun y hy=>(hPB1 y hy).mono (by omega)
     have hnl:(rest2.set k (rest2[k]-rest2[k])).length=e.claims.length:=by rw [List.length_set];exact hRn
     refine awD (scT 0 9 (scq [18,21,22] .nil)) [0,0,0,0,0,0,0,0,0,0,0,0] ?_;simp only [F61,seval,hatk,hfl,hkt];repeat refine ob ?_
     refine ⟨_,hSub,(by first|rfl|simp [a8,aK,al,aw,A1.cells,ab bp,ab bN]),?_⟩;try simp only [ak,F61,seval,hfl,hset,hkt]
     repeat refine ob ?_
     refine awN ?_;simp only [F61,seval];repeat refine ob ?_
     refine awN ?_;simp only [F61,seval];repeat refine ob ?_
     refine ⟨_,aC [2,3,5,6,8,9,10] [2,3,18,105,101],t.length-(i2+1),by omega,i2+1,(tr++[(x.claim,rest2[k])]),(rest2.set k (rest2[k]-rest2[k])),?a26_s9,?a26_nx,by omega,rfl,?i26_0,?i26_1,?i26_2,?i26_3,?i26_4,?st26⟩;case st26=>(simp only [F61,seval,aI,aG,cWP,List.length_append,ai];first|rfl|(simp [aI,bz,aG,cWP,List.length_append,List.length_cons,List.length_nil,hI0,hI1,hat1,hI2,hat2,hc,hcap,hlt,hLt,Nat.add_mul];done))
     case i26_0=>(rw [←hL2,hwp])
     all_goals (first|omega|assumption|(simp;omega)|(simp_all;done))
    have hLt:decide (rest2[k]<qOf x.cap)=false:=decide_eq_false hlt;refine awD (scT 0 10 (scq [20,23] .nil)) [0,0,0,0,142,142,142,142,142,142,142,0] ?_;simp only [F61,seval,hcap,hatk,hfl,hkt];repeat refine ob ?_
    refine ⟨_,hLs,(by first|rfl|simp [a8,aK,al,aw,A1.cells,ab bp,ab bN]),?_⟩;try simp only [ak,F61,seval,hlt]
    refine awF ?_;refine awK ?_;simp only [F61,seval];obtain ⟨hPB1,hPB2⟩:=lz hR2 (hxs.qB hK0) (by omega) (by omega);have hwp:cV rest2 x=(rest2.set k (rest2[k]-qOf x.cap),qOf x.cap):=by unfold cV;rw [if_neg hc,hgk,hxk,Int.toNat_natCast];simp only [hcap,if_true,GH hlt]
    rw [hwp] at hPB1 hPB2;simp only at hPB1 hPB2;have hSub:=qA rest2[k] (qOf x.cap) _ _ hgB hPB2 (by omega) (by omega);simp only [ai] at hSub;have hset:=dJ bV rest2 k (rest2[k]-qOf x.cap) hkl;simp only [cQ,ai] at hset;have hq9:qB Km (qOf x.cap):=hPB2.mono (by omega);have hnT:∀p∈tr++[(x.claim,qOf x.cap)],qB Km p.2:=fun p hp=>by
     rcases List.mem_append.1 hp with h|h
     ·exact hTq p h
     simp only [List.mem_singleton] at h;subst h;exact hq9
    have hnR:∀y∈rest2.set k (rest2[k]-qOf x.cap),qB (K+w*(K+1)+(i2+1)*(K+1)) y:=fun y hy=>(hPB1 y hy).mono (by omega)
    have hnl:(rest2.set k (rest2[k]-qOf x.cap)).length=e.claims.length:=by rw [List.length_set];exact hRn
    refine awD (scT 0 9 (scq [18,21,22] .nil)) [0,0,0,0,0,0,0,0,0,0,0,0] ?_;simp only [F61,seval,hatk,hfl,hkt];repeat refine ob ?_
    refine ⟨_,hSub,(by first|rfl|simp [a8,aK,al,aw,A1.cells,ab bp,ab bN]),?_⟩;try simp only [ak,F61,seval,hfl,hset,hkt]
    repeat refine ob ?_
    refine awN ?_;simp only [F61,seval];repeat refine ob ?_
    refine awN ?_;simp only [F61,seval];repeat refine ob ?_
    refine ⟨_,aC [2,3,5,6,8,9,10] [2,3,18,105,101],t.length-(i2+1),by omega,i2+1,(tr++[(x.claim,qOf x.cap)]),(rest2.set k (rest2[k]-qOf x.cap)),?a31_s9,?a31_nx,by omega,rfl,?i31_0,?i31_1,?i31_2,?i31_3,?i31_4,?st31⟩;case st31=>(simp only [F61,seval,aI,aG,cWP,List.length_append,ai];first|rfl|(simp [aI,bz,aG,cWP,List.length_append,List.length_cons,List.length_nil,hI0,hI1,hat1,hI2,hat2,hc,hcap,hlt,hLt,Nat.add_mul];done))
    case i31_0=>(rw [←hL2,hwp])
    all_goals (first|omega|assumption|(simp;omega)|(simp_all;done))
   refine awD (scT 0 10 (scq [20,23] .nil)) [0,0,0,0,142,142,142,142,142,142,142,0] ?_;simp only [F61,seval,hcap];refine awT ?_;refine awN ?_;simp only [F61,seval,hatk,hfl,hkt];repeat refine ob ?_
   obtain ⟨hPB1,hPB2⟩:=lz hR2 (hxs.qB hK0) (by omega) (by omega);have hwp:cV rest2 x=(rest2.set k (rest2[k]-rest2[k]),rest2[k]):=by unfold cV;rw [if_neg hc,hgk,hxk,Int.toNat_natCast];simp only [hcap,if_false,Bool.false_eq_true]
   rw [hwp] at hPB1 hPB2;simp only at hPB1 hPB2;have hSub:=qA rest2[k] (rest2[k]) _ _ hgB hPB2 (by omega) (by omega);simp only [ai] at hSub;have hset:=dJ bV rest2 k (rest2[k]-rest2[k]) hkl;simp only [cQ,ai] at hset;have hq9:qB Km (rest2[k]):=hPB2.mono (by omega);have hnT:∀p∈tr++[(x.claim,rest2[k])],qB Km p.2:=fun p hp=>by
    rcases List.mem_append.1 hp with h|h
    ·exact hTq p h
    simp only [List.mem_singleton] at h;subst h;exact hq9
   have hnR:∀y∈rest2.set k (rest2[k]-rest2[k]),qB (K+w*(K+1)+(i2+1)*(K+1)) y:=fun y hy=>(hPB1 y hy).mono (by omega)
   have hnl:(rest2.set k (rest2[k]-rest2[k])).length=e.claims.length:=by rw [List.length_set];exact hRn
   refine awD (scT 0 9 (scq [18,21,22] .nil)) [0,0,0,0,0,0,0,0,0,0,0,0] ?_;simp only [F61,seval,hatk,hfl,hkt];repeat refine ob ?_
   refine ⟨_,hSub,(by first|rfl|simp [a8,aK,al,aw,A1.cells,ab bp,ab bN]),?_⟩;try simp only [ak,F61,seval,hfl,hset,hkt]
   repeat refine ob ?_
   refine awN ?_;simp only [F61,seval];repeat refine ob ?_
   refine awN ?_;simp only [F61,seval];repeat refine ob ?_
   refine ⟨_,aC [2,3,5,6,8,9,10] [2,3,18,105,101],t.length-(i2+1),by omega,i2+1,(tr++[(x.claim,rest2[k])]),(rest2.set k (rest2[k]-rest2[k])),?a37_s9,?a37_nx,by omega,rfl,?i37_0,?i37_1,?i37_2,?i37_3,?i37_4,?st37⟩;case st37=>(simp only [F61,seval,aI,aG,cWP,List.length_append,ai];first|rfl|(simp [aI,bz,aG,cWP,List.length_append,List.length_cons,List.length_nil,hI0,hI1,hat1,hI2,hat2,hc,hcap,Nat.add_mul];done))
   case i37_0=>(rw [←hL2,hwp])
   all_goals (first|omega|assumption|(simp;omega)|(simp_all;done))
  obtain rfl:i2=t.length:=by omega
  have hI2:¬(t.length:Int)<(t.length:Int):=by omega
  rw [List.drop_length] at hL2;simp only [AR] at hL2;have hwt:cy t rest=(rest2,tr):=by
   have h:=hL2;simp only [lyT,List.nil_append] at h;rw [Prod.ext_iff] at h;exact Prod.ext h.2.symm h.1.symm
  have hV2e:∀y∈rest2,qB (K+(w+t.length)*(K+1)) y:=fun y hy=>(hV2_3 y hy).mono (by omega)
  refine awN ?_;simp only [F61,seval,hI1,hat1,hI2,bz,bF];repeat refine ob ?_
  refine awF ?_;refine awQ ?_;simp only [F61,seval];refine ff (t:=9) (by rfl) (by rfl) (by decide) (by rfl) ?_;simp only [F61,seval];refine awN ?_;simp only [F61,seval];repeat refine ob ?_
  refine awN ?_;simp only [F61,seval];repeat refine ob ?_
  refine ⟨_,aC [2,3,5,6,8] [2,3,18,105],a.length-(i1+1),by omega,i1+1,(out++[tr]),(rest2),(w+t.length),?a41_s5,?a41_nx,by omega,rfl,?i41_0,?i41_1,?i41_2,?i41_3,?i41_4,?st41⟩;case st41=>(simp only [F61,seval,aI,aG,cRT,List.length_append];first|rfl|(simp [aI,bz,aG,cRT,List.length_append,List.length_cons,List.length_nil,hI0,hI1,hat1,hI2,Nat.add_mul];done))
  case i41_0=>(rw [←hL1,hwt])
  all_goals (first|omega|assumption|(simp;omega)|(simp_all;done))
 obtain rfl:i1=a.length:=by omega
 have hI1:¬(a.length:Int)<(a.length:Int):=by omega
 rw [List.drop_length] at hL1;simp only [AS] at hL1;have hwm:w*(K+1)<=pN a*(K+1):=Nat.mul_le_mul_right _ (by omega);have hwts:bD a (e.claims.map fun c=>qOf c.amount)=(rest,out):=by
  have h:=hL1;simp only [lyS,List.nil_append] at h;rw [Prod.ext_iff] at h;exact Prod.ext h.2.symm h.1.symm
 refine awN ?_;simp only [F61,seval,hI1,bz];refine awF ?_;refine awQ ?_;simp only [F61,seval];refine awN ?_;simp only [F61,seval];refine awN ?_;simp only [F61,seval];refine iB 13 124 283 4 (by decide) (by rfl) ?_;simp only [F61,seval];refine aS [2,3,5,6,13,14] [2,3,18,105,124] ?_;try simp only [ak,F61,seval,aI]
 repeat' first|apply awS|apply awB
 refine aM (fun n st=>∃i3 la s13 nx,i3<=e.claims.length/\n=e.claims.length-i3/\rLs a rest (e.claims.drop i3) i3 la=rLs a rest e.claims 0 []/\la.length<=i3/\st=⟨mkT [(2,.val (.one (.ptr 2 0 0))),(3,.val (.one (.ptr 3 1 0))),(5,.val (.one (.own 105 s5 out.length 1))),(6,.val (.one (.own 18 2 e.claims.length 3))),(13,.val (.one (.own 124 s13 la.length 4))),(14,one (.int .i64 i3))],mkH [(2,⟨0,36,5,1,aI e⟩),(3,⟨1,50,1,1,bz a⟩),(18,⟨2,32,3,e.claims.length,ar cQ rest⟩),(105,⟨s5,280,1,out.length,ar cRT out⟩),(124,⟨s13,283,4,la.length,ar cWP la⟩)],nx,0⟩) (e.claims.length) ⟨0,[],_,_,by omega,by omega,by rfl,(by first|omega|assumption|rfl|simp|(simp;omega)),rfl⟩ ?_;rintro n3 st ⟨i3,la,s13,nx3,hk3,rfl,hL3,hV3_1,rfl⟩;by_cases hlt3:i3<e.claims.length
 ·have hI3:(i3:Int)<(e.claims.length:Int):=by omega
  have hat3:=aO dk e.claims i3 hlt3;try rw [Nat.mul_one] at hat3
  rw [List.drop_eq_getElem_cons hlt3] at hL3;have hlal:=hV3_1;generalize e.claims[i3]=c at *
  simp only [rLs] at hL3;refine awN ?_;simp only [F61,seval,hI3,aI];refine awT ?_;refine awK ?_;simp only [F61,seval];by_cases hmb:mbA (i3:Int) a=true
  ·have hMb:=ks a (i3:Int) (by have:=hB.tn;omega) (fun t ht=>by have:=(hB.pn t ht).1;omega);refine awN ?_;simp only [F61,seval,bz,ab bR];refine ⟨_,hMb,(by first|rfl|simp [a8,aK,al,aw,A1.cells,ab bp,ab bN]),?_⟩;try simp only [ak,F61,seval,hmb]
   refine awT ?_;have hkl3:i3<rest.length:=by omega
   have hatk:=aO bV rest i3 hkl3;have hgk:rest.getD i3 0=rest[i3]:=by rw [List.getD_eq_getElem?_getD,List.getElem?_eq_getElem hkl3];rfl
   simp only [cQ,ai] at hatk;have hfl:=be bV rest;rw [hV1_2] at hfl;refine awN ?_;simp only [F61,seval,hI3,hatk,hfl];repeat refine ob ?_
   refine awN ?_;simp only [F61,seval];repeat refine ob ?_
   refine ⟨_,aC [2,3,5,6,13,14] [2,3,18,105,124],e.claims.length-(i3+1),by omega,i3+1,(la++[((i3:Int),rest[i3])]),?a49_s13,?a49_nx,by omega,rfl,?i49_0,?i49_1,?st49⟩;case st49=>(simp only [F61,seval,aG,cWP,List.length_append,ai];first|rfl|(simp [aI,bz,aG,cWP,List.length_append,List.length_cons,List.length_nil,hI0,hI1,hI3,hat3,hmb,Nat.add_mul];done))
   case i49_0=>(have h:=hL3;rw [if_pos hmb,hgk] at h;exact h)
   all_goals (first|omega|assumption|(simp;omega)|(simp_all;done))
  have hMb:=ks a (i3:Int) (by have:=hB.tn;omega) (fun t ht=>by have:=(hB.pn t ht).1;omega);refine awN ?_;simp only [F61,seval,bz,ab bR];refine ⟨_,hMb,(by first|rfl|simp [a8,aK,al,aw,A1.cells,ab bp,ab bN]),?_⟩;try simp only [ak,F61,seval,hmb]
  refine awF ?_;refine awK ?_;simp only [F61,seval];refine awN ?_;simp only [F61,seval];repeat refine ob ?_
  refine ⟨_,aC [2,3,5,6,13,14] [2,3,18,105,124],e.claims.length-(i3+1),by omega,i3+1,?a52_la,?a52_s13,?a52_nx,by omega,rfl,?i52_0,?i52_1,?st52⟩;case st52=>(simp only [F61,seval];first|rfl|(simp [aI,bz,aG,cWP,List.length_append,List.length_cons,List.length_nil,hI0,hI1,hI3,hat3,hmb,Nat.add_mul];done))
  case i52_0=>(have h:=hL3;rw [if_neg hmb] at h;exact h)
  all_goals (first|omega|assumption|(simp;omega)|(simp_all;done))
 obtain rfl:i3=e.claims.length:=by omega
 have hI3:¬(e.claims.length:Int)<(e.claims.length:Int):=by omega
 rw [List.drop_length] at hL3;simp only [rLs] at hL3;refine awN ?_;simp only [F61,seval,hI0,aI];refine awF ?_;refine awQ ?_;simp only [F61,seval];refine ff (t:=13) (by rfl) (by rfl) (by decide) (by rfl) ?_;simp only [F61,seval];refine awN ?_;simp only [F61,seval];repeat refine ob ?_
 refine ff (t:=4) (by rfl) (by rfl) (by decide) (by rfl) ?_;refine awX ?_;simp only [F61,seval];have hwl:(ba e.claims a).2=out++[la]:=by unfold ba;rw [hwts,hL3,zm,zj hin];rfl
 have hpp:=ab bp (out++[la]);simp only [aG,cRT] at hpp;simp [hwl,aG,cRT];exact hpp
theorem n6:∀(M:List Int) (l:List Rat) (i:Nat),(∀j∈M,0<=j)->(fP M l).getD i 0=if (i:Int)∈M then 0 else l.getD i 0
 |[],l,i,_=>by simp [fP]
 |j::M,l,i,h=>by
  have h1:=n6 M (l.set j.toNat 0) i fun x hx=>h x (by simp [hx])
  have h0:=h j (by simp);rw [fP,h1];by_cases h2:(i:Int)∈M
  ·rw [if_pos h2,if_pos (by simp [h2])]
  rw [if_neg h2];by_cases h3:(i:Int)=j
  ·rw [if_pos (by simp [h3])];have h4:j.toNat=i:=by omega
   rw [h4,List.getD_eq_getElem?_getD];by_cases h5:i<l.length
   ·rw [List.getElem?_set_self h5];rfl
   rw [List.getElem?_eq_none (by simpa using Nat.le_of_not_lt h5)];rfl
  rw [if_neg (by simp [h2,h3]),eH (by omega)]
theorem tu:∀(M:List Int) (l:List Rat),M.Nodup->(∀j∈M,0<=j/\j<(l.length:Int))->jZ (fP M l)=jZ l-aQ l M
 |[],l,_,_=>by simp only [fP,aQ];grind
 |j::M,l,hn,h=>by
  have h0:=List.nodup_cons.1 hn;have hj:=h j (by simp);have h1:=tu M (l.set j.toNat 0) h0.2 (by simpa using fun x hx=>h x (by simp [hx]));have h2:∀M':List Int,(∀x∈M',0<=x)->j∉M'->aQ (l.set j.toNat 0) M'=aQ l M':=by
   intro M' hp hm;induction M' with
   |nil=>rfl
   |cons x M' ih=>
    have hx:=hp x (by simp);have hne:j≠x:=fun e=>hm (by simp [e])
    rw [aQ,aQ,ih (fun y hy=>hp y (by simp [hy])) fun hy=>hm (by simp [hy]),eH (by omega)]
  rw [fP,h1,qL _ _ _ (by omega),h2 M (fun x hx=>(h x (by simp [hx])).1) h0.1,aQ];grind
theorem tv {l l':List Rat}:∀M:List Int,(∀i∈M,l.getD i.toNat 0=l'.getD i.toNat 0)->aQ l M=aQ l' M
 |[],_=>rfl
 |i::M,h=>by rw [aQ,aQ,h i (by simp),tv M fun x hx=>h x (by simp [hx])]
def Jq (ps:List ci):Prop:=ps.Pairwise fun p q=>∀i∈p.1,i∉q.1
def wPs (g:List Rat) (i:Int):List ci->Rat
 |[]=>0
 |p::ps=>dw p.2 (aQ g p.1) i+wPs g i ps
def kD (g:List Rat):List ci->Rat
 |[]=>0
 |p::ps=>aQ g p.1+kD g ps
def jK (i:Int) (ps:List ci):Prop:=∃p∈ps,i∈p.1
theorem n7:∀(ps:List ci) (l:List Rat) (i:Nat),(∀p∈ps,∀j∈p.1,0<=j)->(¬jK i ps->(cO ps l).getD i 0=l.getD i 0)/\(jK i ps->(cO ps l).getD i 0=0)
 |[],l,i,_=>⟨fun _=>rfl,fun h=>by obtain ⟨p,h,_⟩:=h;cases h⟩
 |p::ps,l,i,h=>by
  obtain ⟨h1,h2⟩:=n7 ps (fP p.1 l) i fun q hq=>h q (by simp [hq])
  have h3:=n6 p.1 l i (h p (by simp));refine ⟨fun hn=>?_,fun hp=>?_⟩
  ·have h4:¬jK i ps:=fun ⟨q,hq,hi⟩=>hn ⟨q,by simp [hq],hi⟩
   have h5:¬(i:Int)∈p.1:=fun hi=>hn ⟨p,by simp,hi⟩
   rw [cO,h1 h4,h3,if_neg h5]
  by_cases h4:jK i ps
  ·rw [cO,h2 h4]
  obtain ⟨q,hq,hi⟩:=hp;rcases List.mem_cons.1 hq with rfl|hq
  ·rw [cO,h1 h4,h3,if_pos hi]
  exact absurd ⟨q,hq,hi⟩ h4
theorem tw {cs:List GClaim}:∀(ps:List ci) (l:List Rat),(∀p∈ps,pLad cs p)->Jq ps->l.length=cs.length->jZ (cO ps l)=jZ l-kD l ps
 |[],l,_,_,_=>by simp only [cO,kD];grind
 |p::ps,l,h,hd,hl=>by
  have hp:=h p (by simp);have hd':=List.pairwise_cons.1 hd;have h1:=tw ps (fP p.1 l) (fun q hq=>h q (by simp [hq])) hd'.2 (by rw [nR];exact hl);have h2:=tu p.1 l hp.nd fun j hj=>by have:=hp.inn j hj;omega
  have h3:∀qs:List ci,(∀q∈qs,pLad cs q)->(∀q∈qs,∀i∈p.1,i∉q.1)->kD (fP p.1 l) qs=kD l qs:=by
   intro qs hq hx;induction qs with
   |nil=>rfl
   |cons q qs ih=>
    rw [kD,kD,ih (fun y hy=>hq y (by simp [hy])) fun y hy=>hx y (by simp [hy])];rw [tv q.1 fun i hi=>?_];have h4:=(hq q (by simp)).inn i hi;have h5:=n6 p.1 l i.toNat fun j hj=>(hp.inn j hj).1
    rw [h5,if_neg];rw [Int.toNat_of_nonneg h4.1];exact fun hm=>hx q (by simp) i hm hi
  rw [cO,h1,h2,h3 ps (fun q hq=>h q (by simp [hq])) hd'.1,kD];grind
theorem iu (g:List Rat) (i:Int) (hi:i= -1∨0<=i):∀(ps:List ci) (R:WR),(∀p∈ps,∀t∈p.2,wIn R.cl.length t)->(gJ g ps R).get i=R.get i+wPs g i ps
 |[],R,_=>by simp only [gJ,wPs];grind
 |p::ps,R,h=>by
  have h1:=iu g i hi ps (io p.2 (aQ g p.1) R) (by rw [mW];exact fun q hq=>h q (by simp [hq]));rw [gJ,h1,jh i hi _ _ _ (h p (by simp)),wPs];grind
theorem ge {cs:List GClaim} {p:ci} (h:pLad cs p) {n:Nat} (hn:n=cs.length):∀t∈p.2,wIn n t:=fun t ht x hx=>by
 subst hn;rcases h.rin t ht x hx with h1|h1
 ·exact .inl h1
 exact .inr (h.inn _ h1)
theorem m9 (i:Int):∀t:WT,(∀x∈t,x.1≠i)->wAt i t=0
 |[],_=>rfl
 |p::t,h=>by
  rw [wAt,m9 i t fun x hx=>h x (by simp [hx]),if_neg (h p (by simp))];grind
theorem uR {cs:List GClaim} (g:List Rat) (i:Nat):∀ps:List ci,(∀p∈ps,pLad cs p)->¬jK i ps->wPs g i ps=0
 |[],_,_=>rfl
 |p::ps,h,hn=>by
  have hp:=h p (by simp);rw [wPs,uR g i ps (fun q hq=>h q (by simp [hq])) fun ⟨q,hq,hi⟩=>hn ⟨q,by simp [hq],hi⟩,
   mr _ _ _ fun t ht=>m9 _ t fun x hx e=>?_]
  ·grind
  rcases hp.rin t ht x hx with h1|h1
  ·omega
  exact hn ⟨p,by simp,by rw [←e];exact h1⟩
structure eOK (e:GEst):Prop where
 cl:wEst e.claims
 ag:∀a∈e.agrs,aOK e.claims.length a
 ds:Jq (ay e).pools
theorem A0 (cs:List GClaim) (k:Nat) (h:k<cs.length):(cs.map fun c=>qOf c.amount).getD k 0=qOf cs[k].amount:=by
 rw [List.getD_eq_getElem?_getD,List.getElem?_map,List.getElem?_eq_getElem h];rfl
theorem kE {l:List Rat} {i:Nat} (h:l.length<=i):l.getD i 0=0:=by
 rw [List.getD_eq_getElem?_getD,List.getElem?_eq_none h];rfl
theorem nf {e:GEst} {m:Rat} (h:wEst e.claims) (hm:0<=m) (i:Nat):0<=(aX (ay e) m).getD i 0/\(aX (ay e) m).getD i 0<=(e.claims.map fun c=>qOf c.amount).getD i 0:=by
 by_cases hi:i<e.claims.length
 ·rw [EP h i hi,A0 _ i hi];have h1:=h.am _ (List.getElem_mem hi);obtain ⟨h2,h3⟩:=qW (aF e.claims) m e.claims[i].rank.toNat hm;have h4:=Rat.mul_nonneg h1 h2;have h5:qOf e.claims[i].amount*wFr (aF e.claims) m e.claims[i].rank.toNat<=qOf e.claims[i].amount*1:=Rat.mul_le_mul_of_nonneg_left h3 h1;unfold gFr;exact ⟨h4,by grind⟩
 rw [kE (by rw [gV];omega),kE (by simpa using Nat.le_of_not_lt hi)];grind
theorem uS {l:List Rat} (h:∀i:Nat,0<=l.getD i 0):rNN l:=fun x hx=>by
 obtain ⟨i,hi,rfl⟩:=List.getElem_of_mem hx;have:=h i;rw [List.getD_eq_getElem?_getD,List.getElem?_eq_getElem hi] at this;exact this
theorem rg {e:GEst} {m:Rat} (h:wEst e.claims) (hm:0<=m):rNN (aX (ay e) m):=uS fun i=>(nf h hm i).1
theorem zn {e:GEst} {m n:Rat} (h:wEst e.claims) (hm:0<=m) (hmn:m<=n) (i:Nat):(aX (ay e) m).getD i 0<=(aX (ay e) n).getD i 0:=by
 have h1:=jh (i:Int) (.inr (by omega)) (aF e.claims) m ⟨List.replicate e.claims.length 0,0⟩ (by simpa using eR e.claims);have h2:=jh (i:Int) (.inr (by omega)) (aF e.claims) n ⟨List.replicate e.claims.length 0,0⟩ (by simpa using eR e.claims);have h3:=qN (i:Int) (aF e.claims) m n hm hmn (fA h.am);have h4:¬((i:Int)= -1):=by omega
 unfold WR.get at h1 h2;simp only [h4,if_false,Int.toNat_natCast] at h1 h2;unfold aX ay;rw [h1,h2];grind
theorem iU {e:GEst} (h:eOK e):∀p∈(ay e).pools,pLad e.claims p:=fun p hp=>by
 obtain ⟨a,ha,rfl⟩:=List.mem_map.1 hp;exact q8 (h.ag a ha) h.cl.am
theorem Jr {e:GEst} {m:Rat} (h:eOK e) (i:Nat):(¬jK i (ay e).pools->(fo (ay e) m).cl.getD i 0=(aX (ay e) m).getD i 0)/\(jK i (ay e).pools->(fo (ay e) m).cl.getD i 0=wPs (aX (ay e) m) i (ay e).pools):=by
 have hl:=iU h;have h1:=iu (aX (ay e) m) (i:Int) (.inr (by omega)) (ay e).pools ⟨cO (ay e).pools (aX (ay e) m),0⟩ fun p hp=>ge (hl p hp) (by rw [ee,gV])
 have h2:=n7 (ay e).pools (aX (ay e) m) i fun p hp j hj=>((hl p hp).inn j hj).1
 have h4:¬((i:Int)= -1):=by omega
 unfold WR.get at h1;simp only [h4,if_false,Int.toNat_natCast] at h1;unfold fo;refine ⟨fun hn=>?_,fun hn=>?_⟩
 ·rw [h1,h2.1 hn,uR _ i _ hl hn];grind
 rw [h1,h2.2 hn];grind
theorem Js {e:GEst} {m:Rat} (h:eOK e):(fo (ay e) m).rv=wPs (aX (ay e) m) (-1) (ay e).pools:=by
 have hl:=iU h;have h1:=iu (aX (ay e) m) (-1) (.inl rfl) (ay e).pools ⟨cO (ay e).pools (aX (ay e) m),0⟩ fun p hp=>ge (hl p hp) (by rw [ee,gV])
 unfold WR.get at h1;simp only [if_true] at h1;unfold fo;rw [h1];grind
def cZ (l:List WT) (m rate:Rat) (R:WR):WR:=ef l (aJ l m).1 rate R
def fQ:List WT->Rat->Rat->Int->Rat
 |[],_,_,_=>0
 |t::l,m,r,i=>if m<au t then r/au t*wAt i t else fQ l (m-au t) r i
theorem mv (m r:Rat) (R:WR):cZ [] m r R=R:=by simp [cZ,aJ,ef]
theorem kF (t:WT) (l:List WT) (m r:Rat) (R:WR):cZ (t::l) m r R=if m<au t then e7 (r/au t) t R else cZ l (m-au t) r R:=by
 unfold cZ;by_cases h:m<au t
 ·simp only [aJ,h,if_true];unfold ef;rw [if_pos (by simp)];rfl
 simp only [aJ,h,if_false];unfold ef;simp only [List.length_cons,Nat.add_lt_add_iff_right,List.getD_cons_succ]
theorem iv (l:List WT) (m r:Rat) (R:WR):(cZ l m r R).cl.length=R.cl.length:=qE _ _ _ _
theorem jL (i:Int) (hi:i= -1∨0<=i):∀(l:List WT) (m r:Rat) (R:WR),(∀t∈l,wIn R.cl.length t)->(cZ l m r R).get i=R.get i+fQ l m r i
 |[],m,r,R,_=>by rw [mv,fQ];grind
 |t::l,m,r,R,h=>by
  rw [kF,fQ];split
  ·rw [mZ _ i hi t R (h t (by simp))]
  exact jL i hi l (m-au t) r R fun x hx=>h x (by simp [hx])
theorem mw:∀(l:List WT) (m r:Rat) (R:WR),0<=m->wNN l->(∀t∈l,wIn R.cl.length t)->(cZ l m r R).all=R.all+if m<cK l then r else 0
 |[],m,r,R,hm,_,_=>by
  have h1:¬m<cK []:=by rw [cK];grind
  rw [mv,if_neg h1];grind
 |t::l,m,r,R,hm,hn,h=>by
  have hc:=m5 l fun x hx=>hn x (by simp [hx])
  have hs:=jG t (hn t (by simp));rw [kF,cK];split
  ·rename_i h1;rw [xb _ t R (h t (by simp)),dK (by grind),if_pos (by grind)]
  rename_i h1;rw [mw l (m-au t) r R (by grind) (fun x hx=>hn x (by simp [hx])) fun x hx=>h x (by simp [hx])];by_cases h2:m<au t+cK l
  ·rw [if_pos h2,if_pos (by grind)]
  rw [if_neg h2,if_neg (by grind)]
theorem Jt {a b:Rat} (ha:0<=a) (hb:0<b):0<=a/b:=by
 rw [Rat.div_def];have h2:=Rat.inv_pos.2 hb;exact Rat.mul_nonneg ha (by grind)
theorem rh (i:Int):∀(l:List WT) (m r:Rat),0<=m->0<=r->wNN l->0<=fQ l m r i
 |[],_,_,_,_,_=>by simp [fQ]
 |t::l,m,r,hm,hr,hn=>by
  rw [fQ];split
  ·exact Rat.mul_nonneg (Jt hr (by grind)) (mp i t (hn t (by simp)))
  exact rh i l (m-au t) r (by grind) hr fun x hx=>hn x (by simp [hx])
theorem my (i:Int):∀(l:List WT) (m r:Rat),(∀t∈l,wAt i t=0)->fQ l m r i=0
 |[],_,_,_=>rfl
 |t::l,m,r,h=>by
  rw [fQ,h t (by simp),my i l _ r fun x hx=>h x (by simp [hx])];split<;>grind
theorem ri (i:Int):∀(l:List WT) (m r:Rat),0<=m->wNN l->dw l m i=fr i l->fQ l m r i=0
 |[],_,_,_,_,_=>rfl
 |t::l,m,r,hm,hn,h=>by
  have ha:=mp i t (hn t (by simp));have hs:=uO i l fun x hx=>hn x (by simp [hx])
  rw [dw,fr] at h;rw [fQ];split
  ·rename_i h1;rw [if_pos h1] at h;have hp:0<au t:=by grind
   have h2:m/au t*wAt i t*au t=(wAt i t+fr i l)*au t:=by rw [h]
   have h3:m/au t*wAt i t*au t=m*wAt i t:=by
    have:=dK (m:=m) hp;calc m/au t*wAt i t*au t=(m/au t*au t)*wAt i t:=by grind
     _=m*wAt i t:=by rw [this]
   have h4:=Rat.mul_nonneg hs (show 0<=au t by grind);have h5:(au t-m)*wAt i t<=0:=by grind
   have h6:wAt i t=0:=by
    apply Classical.byContradiction;intro hne;have h7:0<wAt i t:=by grind
    have h8:0<(au t-m)*wAt i t:=Rat.mul_pos (by grind) h7;grind
   rw [h6];grind
  rename_i h1;rw [if_neg h1] at h;exact ri i l (m-au t) r (by grind) (fun x hx=>hn x (by simp [hx])) (by grind)
abbrev bd (l:List WT) (m:Rat):Prop:=(aJ l m).1<l.length
def cA (l:List WT) (m:Rat):Rat:=au (l.getD (aJ l m).1 [])-(aJ l m).2
def fR:List WT->Rat->Rat
 |[],_=>0
 |t::l,m=>if m<au t then au t-m else fR l (m-au t)
theorem dn (t:WT) (l:List WT) (m:Rat):bd (t::l) m↔m<au t∨bd l (m-au t):=by
 unfold bd;by_cases h:m<au t
 ·simp [aJ,h]
 simp [aJ,h]
theorem tz:∀(l:List WT) (m:Rat),0<=m->wNN l->(bd l m↔m<cK l)
 |[],m,hm,_=>by
  have h1:¬m<cK []:=by rw [cK];grind
  simp [bd,aJ,h1]
 |t::l,m,hm,hn=>by
  have hc:=m5 l fun x hx=>hn x (by simp [hx])
  rw [dn,cK];by_cases h:m<au t
  ·simp only [h,true_or,true_iff];grind
  rw [tz l (m-au t) (by grind) fun x hx=>hn x (by simp [hx])];constructor
  ·rintro (h1|h1)
   ·exact absurd h1 h
   grind
  intro h1;exact .inr (by grind)
theorem jM:∀(l:List WT) (m:Rat),bd l m->cA l m=fR l m
 |[],m,h=>absurd h (by simp [bd,aJ])
 |t::l,m,h=>by
  by_cases h1:m<au t
  ·simp [cA,fR,aJ,h1]
  have h2:bd l (m-au t):=by
   rcases (dn t l m).1 h with h|h
   ·exact absurd h h1
   exact h
  have h3:=jM l (m-au t) h2;simp only [cA,fR,aJ,h1,if_false,List.getD_cons_succ] at h3 ⊢;exact h3
theorem jj:∀(l:List WT) (m:Rat),bd l m->0<fR l m
 |[],m,h=>absurd h (by simp [bd,aJ])
 |t::l,m,h=>by
  rw [fR];split
  ·grind
  rename_i h1;refine jj l _ ?_;rcases (dn t l m).1 h with h|h
  ·exact absurd h h1
  exact h
theorem A3 (i:Int):∀(t:WT),(∀p∈t,0<=p.2)->wAt i t<=au t
 |[],_=>by simp [wAt,au]
 |p::t,h=>by
  have h1:=A3 i t fun x hx=>h x (by simp [hx])
  have h2:=h p (by simp);rw [wAt,au];split<;>grind
theorem oP (i:Int):∀(l:List WT),wNN l->dw l 0 i=0
 |[],_=>rfl
 |t::l,h=>by
  rw [dw];split
  ·rw [Rat.div_def];grind
  rename_i h1;have h2:=jG t (h t (by simp));have h3:=A3 i t (h t (by simp));have h4:=mp i t (h t (by simp));have h5:=oP i l fun x hx=>h x (by simp [hx])
  have h6:au t=0:=by grind
  rw [h6,show (0:Rat)-0=0 by grind,h5];grind
theorem tA (i:Int):∀(l:List WT) (m h:Rat),0<=m->wNN l->0<=h->(bd l m->h<=fR l m)->dw l (m+h) i=dw l m i+h*fQ l m 1 i
 |[],m,h,_,_,_,_=>by simp only [dw,fQ];grind
 |t::l,m,h,hm,hn,hh,hg=>by
  rw [dw,dw,fQ];by_cases h1:m<au t
  ·have h2:=hg ((dn t l m).2 (.inl h1));rw [fR,if_pos h1] at h2;have hp:0<au t:=by grind
   rw [if_pos h1,if_pos h1];by_cases h3:m+h<au t
   ·rw [if_pos h3,Rat.div_def,Rat.div_def,Rat.div_def];grind
   have h4:m+h=au t:=by grind
   have h5:=oP i l fun x hx=>hn x (by simp [hx])
   have h6:=dK (m:=(1:Rat)) hp;rw [if_neg h3,h4,show au t-au t=0 by grind,h5];rw [Rat.div_def] at h6 ⊢;rw [Rat.div_def];have h7:m*(au t)⁻¹*wAt i t+h*(1*(au t)⁻¹*wAt i t)=(m+h)*(au t)⁻¹*wAt i t:=by grind
   rw [h7,h4];have h8:au t*(au t)⁻¹=1:=by grind
   rw [h8];grind
  have h3:¬m+h<au t:=by grind
  rw [if_neg h1,if_neg h1,if_neg h3];have h4:=tA i l (m-au t) h (by grind) (fun x hx=>hn x (by simp [hx])) hh fun ho=>by
   have h5:=hg ((dn t l m).2 (.inr ho));rw [fR,if_neg h1] at h5;exact h5
  rw [show m+h-au t=m-au t+h by grind,h4];grind
theorem oQ:∀(l:List WT) (m n:Rat),m<=n->(aJ l m).1<=(aJ l n).1
 |[],_,_,_=>Nat.le_refl _
 |t::l,m,n,h=>by
  by_cases h1:m<au t
  ·simp [aJ,h1]
  have h2:¬n<au t:=by grind
  have h3:=oQ l (m-au t) (n-au t) (by grind);simp only [aJ,h1,h2,if_false];omega
theorem rj:∀(l:List WT) (m n:Rat),bd l m->m+fR l m<=n->(aJ l m).1<(aJ l n).1
 |[],m,_,h,_=>absurd h (by simp [bd,aJ])
 |t::l,m,n,h,hn=>by
  rw [fR] at hn;by_cases h1:m<au t
  ·rw [if_pos h1] at hn;have h2:¬n<au t:=by grind
   simp [aJ,h1,h2]
  rw [if_neg h1] at hn;have h3:bd l (m-au t):=by
   rcases (dn t l m).1 h with h|h
   ·exact absurd h h1
   exact h
  have h4:m-au t+fR l (m-au t)<=n-au t:=by grind
  have hp:=jj l _ h3;have h2:¬n<au t:=by grind
  have h5:=rj l (m-au t) (n-au t) h3 h4;simp only [aJ,h1,h2,if_false];omega
theorem ng (i:Int):∀(l:List WT) (m r:Rat),¬bd l m->fQ l m r i=0
 |[],_,_,_=>rfl
 |t::l,m,r,h=>by
  rw [dn] at h;have h1:¬m<au t:=fun x=>h (.inl x)
  rw [fQ,if_neg h1];exact ng i l _ r fun x=>h (.inr x)
def bg (L:WL) (m:Rat):List Rat:=(cZ L.ranks m 1 ⟨List.replicate L.count 0,0⟩).cl
def dX (g k:List Rat):List ci->WR->WR
 |[],R=>R
 |p::ps,R=>dX g k ps (cZ p.2 (aQ g p.1) (aQ k p.1) R)
def cn (L:WL) (m:Rat):WR:=dX (aX L m) (bg L m) L.pools ⟨cO L.pools (bg L m),0⟩
def eW (g k:List Rat):List ci->Rat->Rat
 |[],out=>out
 |p::ps,out=>eW g k ps (if bd p.2 (aQ g p.1)/\0<aQ k p.1 then bT out (cA p.2 (aQ g p.1)/aQ k p.1) else out)
def bJ (L:WL) (m:Rat):Rat:=eW (aX L m) (bg L m) L.pools (cA L.ranks m)
def iV (L:WL) (s:WR):Nat->Rat->Option Rat
 |0,_=>none
 |n+1,m=>if bd L.ranks m then if (cn L (m+bJ L m)).rv=s.rv/\(cn L (m+bJ L m)).cl=s.cl then iV L s n (m+bJ L m) else some (m+bJ L m) else none
def o5 (l:List WT) (m:Rat):Nat:=l.length-(aJ l m).1
def lT (g:List Rat):List ci->Nat
 |[]=>0
 |p::ps=>o5 p.2 (aQ g p.1)+lT g ps
def wMu (L:WL) (m:Rat):Nat:=o5 L.ranks m+lT (aX L m) L.pools
def fB (L:WL) (m:Rat):Option Rat:=iV L (cn L m) (wMu L m+1) m
theorem jN (L:WL) (m:Rat):(bg L m).length=L.count:=by
 unfold bg;rw [iv,List.length_replicate]
theorem kH (g k:List Rat):∀(ps:List ci) (R:WR),(dX g k ps R).cl.length=R.cl.length
 |[],_=>rfl
 |p::ps,R=>by rw [dX,kH g k ps,iv]
theorem d9 (L:WL) (m:Rat):(cn L m).cl.length=L.count:=by
 unfold cn;rw [kH,ee,jN]
theorem n8 {e:GEst} (m:Rat) (i:Nat):(aX (ay e) m).getD i 0=dw (aF e.claims) m i:=by
 have h1:=jh (i:Int) (.inr (by omega)) (aF e.claims) m ⟨List.replicate e.claims.length 0,0⟩ (by simpa using eR e.claims);have h4:¬((i:Int)= -1):=by omega
 unfold WR.get at h1;simp only [h4,if_false,Int.toNat_natCast,lC] at h1;unfold aX ay;rw [h1];grind
theorem lE {e:GEst} (m:Rat) (i:Nat):(bg (ay e) m).getD i 0=fQ (aF e.claims) m 1 i:=by
 have h1:=jL (i:Int) (.inr (by omega)) (aF e.claims) m 1 ⟨List.replicate e.claims.length 0,0⟩ (by simpa using eR e.claims);have h4:¬((i:Int)= -1):=by omega
 unfold WR.get at h1;simp only [h4,if_false,Int.toNat_natCast,lC] at h1;unfold bg ay;rw [h1];grind
theorem jk (e:GEst) (m:Rat):(bg (ay e) m).length=e.claims.length:=jN _ _
theorem rl {e:GEst} {m:Rat} (h:wEst e.claims) (hm:0<=m):rNN (bg (ay e) m):=uS fun i=>by
 rw [lE];exact rh _ _ _ _ hm (by decide) (fA h.am)
theorem Ct {e:GEst} {m:Rat} (h:wEst e.claims) (hm:0<=m):jZ (bg (ay e) m)=if m<cx e.claims then 1 else 0:=by
 have h1:=mw (aF e.claims) m 1 ⟨List.replicate e.claims.length 0,0⟩ hm (fA h.am) (by simpa using eR e.claims);have h2:=jL (-1) (.inl rfl) (aF e.claims) m 1 ⟨List.replicate e.claims.length 0,0⟩ (by simpa using eR e.claims);rw [my (-1) (aF e.claims) m 1 fun t ht=>by obtain ⟨r,_,rfl⟩:=jI ht;exact xk _ _ _] at h2;rw [qZ h.rk] at h1;unfold WR.all at h1;unfold WR.get at h2;simp only [if_true,tl] at h1 h2;unfold bg ay;rw [h2] at h1;grind
theorem tB {e:GEst} {m h:Rat} (he:wEst e.claims) (hm:0<=m) (hh:0<=h) (hg:bd (aF e.claims) m->h<=fR (aF e.claims) m) (i:Nat):(aX (ay e) (m+h)).getD i 0=(aX (ay e) m).getD i 0+h*(bg (ay e) m).getD i 0:=by
 rw [n8,n8,lE];exact tA i _ m h hm (fA he.am) hh hg
theorem rn {g g' k:List Rat} {h:Rat} (hg:∀i:Nat,g'.getD i 0=g.getD i 0+h*k.getD i 0):∀M:List Int,aQ g' M=aQ g M+h*aQ k M
 |[]=>by simp only [aQ];grind
 |i::M=>by
  have h1:=rn hg M;rw [aQ,aQ,aQ,hg i.toNat,h1];grind
def wKs (g k:List Rat) (i:Int):List ci->Rat
 |[]=>0
 |p::ps=>fQ p.2 (aQ g p.1) (aQ k p.1) i+wKs g k i ps
theorem gw (g k:List Rat) (i:Int) (hi:i= -1∨0<=i):∀(ps:List ci) (R:WR),(∀p∈ps,∀t∈p.2,wIn R.cl.length t)->(dX g k ps R).get i=R.get i+wKs g k i ps
 |[],R,_=>by simp only [dX,wKs];grind
 |p::ps,R,h=>by
  have h1:=gw g k i hi ps (cZ p.2 (aQ g p.1) (aQ k p.1) R) (by rw [iv];exact fun q hq=>h q (by simp [hq]));rw [dX,h1,jL i hi _ _ _ _ (h p (by simp)),wKs];grind
theorem zo {cs:List GClaim} {g k:List Rat} (hg:rNN g) (hk:rNN k) (i:Int):∀ps:List ci,(∀p∈ps,pLad cs p)->0<=wKs g k i ps
 |[],_=>by simp [wKs]
 |p::ps,h=>by
  have h1:=zo hg hk i ps fun q hq=>h q (by simp [hq])
  have h2:=rh i p.2 (aQ g p.1) (aQ k p.1) (jJ hg p.1) (jJ hk p.1) (h p (by simp)).nn;rw [wKs];grind
theorem uT {cs:List GClaim} (g k:List Rat) (i:Nat):∀ps:List ci,(∀p∈ps,pLad cs p)->¬jK i ps->wKs g k i ps=0
 |[],_,_=>rfl
 |p::ps,h,hn=>by
  have hp:=h p (by simp);rw [wKs,uT g k i ps (fun q hq=>h q (by simp [hq])) fun ⟨q,hq,hi⟩=>hn ⟨q,by simp [hq],hi⟩,
   my _ _ _ _ fun t ht=>m9 _ t fun x hx e=>?_]
  ·grind
  rcases hp.rin t ht x hx with h1|h1
  ·omega
  exact hn ⟨p,by simp,by rw [←e];exact h1⟩
theorem EZ {e:GEst} {m:Rat} (h:eOK e) (i:Nat):(¬jK i (ay e).pools->(cn (ay e) m).cl.getD i 0=(bg (ay e) m).getD i 0)/\(jK i (ay e).pools->(cn (ay e) m).cl.getD i 0=wKs (aX (ay e) m) (bg (ay e) m) i (ay e).pools):=by
 have hl:=iU h;have h1:=gw (aX (ay e) m) (bg (ay e) m) (i:Int) (.inr (by omega)) (ay e).pools ⟨cO (ay e).pools (bg (ay e) m),0⟩ fun p hp=>ge (hl p hp) (by rw [ee,jk])
 have h2:=n7 (ay e).pools (bg (ay e) m) i fun p hp j hj=>((hl p hp).inn j hj).1
 have h4:¬((i:Int)= -1):=by omega
 unfold WR.get at h1;simp only [h4,if_false,Int.toNat_natCast] at h1;unfold cn;refine ⟨fun hn=>?_,fun hn=>?_⟩
 ·rw [h1,h2.1 hn,uT _ _ i _ hl hn];grind
 rw [h1,h2.2 hn];grind
theorem E3 {e:GEst} {m:Rat} (h:eOK e):(cn (ay e) m).rv=wKs (aX (ay e) m) (bg (ay e) m) (-1) (ay e).pools:=by
 have hl:=iU h;have h1:=gw (aX (ay e) m) (bg (ay e) m) (-1) (.inl rfl) (ay e).pools ⟨cO (ay e).pools (bg (ay e) m),0⟩ fun p hp=>ge (hl p hp) (by rw [ee,jk])
 unfold WR.get at h1;simp only [if_true] at h1;unfold cn;rw [h1];grind
theorem Ju {e:GEst} {m:Rat} (h:eOK e) (hm:0<=m):rNN (cn (ay e) m).cl/\0<=(cn (ay e) m).rv:=by
 have hg:=rg h.cl hm;have hk:=rl h.cl hm;refine ⟨uS fun i=>?_,by rw [E3 h];exact zo hg hk _ _ (iU h)⟩;obtain ⟨h1,h2⟩:=EZ (m:=m) h i;by_cases hp:jK i (ay e).pools
 ·rw [h2 hp];exact zo hg hk _ _ (iU h)
 rw [h1 hp];exact ph hk i
theorem tC {g a k:List Rat} (h:∀i:Nat,g.getD i 0<=a.getD i 0) (hk:∀i:Nat,g.getD i 0=a.getD i 0->k.getD i 0=0):∀M:List Int,aQ a M<=aQ g M->aQ k M=0
 |[],_=>rfl
 |i::M,hM=>by
  have h1:=h i.toNat;have h2:=uN h M;rw [aQ,aQ] at hM;rw [aQ,hk i.toNat (by grind),tC h hk M (by grind)];grind
theorem GI {cs:List GClaim} (h:∀c∈cs,0<=c.rank/\c.rank<=7) (i:Nat):fr (i:Int) (aF cs)=(cs.map fun c=>qOf c.amount).getD i 0:=by
 have hR:∀(n s:Nat),fr (i:Int) ((List.range' s n).map fun r:Nat=>wRk (r:Int) cs 0)=if i<cs.length/\(s:Int)<=(cs.getD i (⟨0,0,gZ⟩:GClaim)).rank/\(cs.getD i (⟨0,0,gZ⟩:GClaim)).rank<((s+n:Nat):Int) then (cs.map fun c=>qOf c.amount).getD i 0 else 0:=by
  intro n;induction n with
  |zero=>
   intro s;rw [if_neg (by omega)];rfl
  |succ n ih=>
   intro s;rw [List.range'_succ,List.map_cons,fr,ih (s+1)];by_cases hi:i<cs.length
   ·have h1:=y9 (s:Int) cs 0 i hi;rw [Nat.zero_add] at h1;have h2:cs.getD i (⟨0,0,gZ⟩:GClaim)=cs[i]:=by rw [List.getD_eq_getElem?_getD,List.getElem?_eq_getElem hi];rfl
    rw [h1,h2,A0 cs i hi];by_cases h3:cs[i].rank=(s:Int)
    ·rw [if_pos h3,if_neg (by omega),if_pos (by omega)];grind
    rw [if_neg h3];by_cases h4:((s+1:Nat):Int)<=cs[i].rank/\cs[i].rank<((s+1+n:Nat):Int)
    ·rw [if_pos ⟨hi,h4⟩,if_pos (by omega)];grind
    rw [if_neg (fun h=>h4 h.2),if_neg (by omega)];grind
   rw [if_neg (fun h=>hi h.1),if_neg (fun h=>hi h.1)];have h1:∀p∈wRk (s:Int) cs 0,p.1≠(i:Int):=fun p hp=>by
    have:=nW (s:Int) cs 0 p hp;omega
   rw [m9 _ _ h1];grind
 unfold aF;rw [List.range_eq_range',hR 8 0];by_cases hi:i<cs.length
 ·have h2:cs.getD i (⟨0,0,gZ⟩:GClaim)=cs[i]:=by rw [List.getD_eq_getElem?_getD,List.getElem?_eq_getElem hi];rfl
  have:=h _ (List.getElem_mem hi);rw [h2,if_pos ⟨hi,by omega⟩]
 rw [if_neg (fun h=>hi h.1),kE (by simpa using Nat.le_of_not_lt hi)]
theorem Cu {e:GEst} {m:Rat} (h:eOK e) (hm:0<=m) {p:ci} (hp:p∈(ay e).pools) (hc:¬aQ (aX (ay e) m) p.1<cK p.2):aQ (bg (ay e) m) p.1=0:=by
 have hlad:=iU h p hp;refine tC (fun i=>(nf h.cl hm i).2) (fun i hi=>?_) p.1 ?_
 ·rw [n8,←GI h.cl.rk i] at hi;rw [lE];exact ri _ _ _ _ hm (fA h.cl.am) hi
 have hM:(-1:Int)∉p.1:=fun hm=>by have:=hlad.inn _ hm;omega
 rw [re hlad.nd hM p.2 hlad.rin,tt hlad p.1 fun _ h=>h] at hc;have h2:=uO (-1) p.2 hlad.nn;grind
theorem oR {e:GEst} {m:Rat} (h:eOK e) (hm:0<=m):∀(ps:List ci) (R:WR),(∀p∈ps,p∈(ay e).pools)->R.cl.length=e.claims.length->(dX (aX (ay e) m) (bg (ay e) m) ps R).all=R.all+kD (bg (ay e) m) ps
 |[],R,_,_=>by simp only [dX,kD];grind
 |p::ps,R,hps,hl=>by
  have hp:=iU h p (hps p (by simp));have h1:=oR h hm ps (cZ p.2 (aQ (aX (ay e) m) p.1) (aQ (bg (ay e) m) p.1) R) (fun q hq=>hps q (by simp [hq])) (by rw [iv];exact hl);have h2:=mw p.2 (aQ (aX (ay e) m) p.1) (aQ (bg (ay e) m) p.1) R (jJ (rg h.cl hm) p.1) hp.nn (ge hp hl);have h3:=Cu h hm (hps p (by simp));rw [dX,h1,h2,kD];split
  ·grind
  rw [h3 ‹_›];grind
theorem GJ {e:GEst} {m:Rat} (h:eOK e) (hm:0<=m):jZ (cn (ay e) m).cl+(cn (ay e) m).rv=if m<cx e.claims then 1 else 0:=by
 have hl:=iU h;have h1:=oR h hm (ay e).pools ⟨cO (ay e).pools (bg (ay e) m),0⟩ (fun _ h=>h) (by rw [ee,jk]);have h2:=tw (ay e).pools (bg (ay e) m) hl h.ds (jk _ _);unfold WR.all at h1;simp only [h2,Ct h.cl hm] at h1;unfold cn;rw [h1];grind
theorem zp {a b:Rat} (hb:0<b) {s:Rat} (h:s<=a/b):s*b<=a:=by
 have h1:=Rat.mul_le_mul_of_nonneg_right h (show 0<=b by grind);rw [dK hb] at h1;exact h1
theorem tD (g k:List Rat):∀(ps:List ci) (out:Rat),eW g k ps out<=out/\∀p∈ps,bd p.2 (aQ g p.1)->0<aQ k p.1->eW g k ps out*aQ k p.1<=cA p.2 (aQ g p.1)
 |[],out=>⟨by rw [eW];grind,by simp⟩
 |p::ps,out=>by
  obtain ⟨h1,h2⟩:=tD g k ps (if bd p.2 (aQ g p.1)/\0<aQ k p.1 then bT out (cA p.2 (aQ g p.1)/aQ k p.1) else out);rw [eW];refine ⟨?_,fun q hq ho hr=>?_⟩
  ·refine Rat.le_trans h1 ?_;split
   ·unfold bT;split<;>grind
   grind
  rcases List.mem_cons.1 hq with rfl|hq
  ·refine zp hr (Rat.le_trans h1 ?_);rw [if_pos ⟨ho,hr⟩];unfold bT;split<;>grind
  exact h2 q hq ho hr
theorem div_pos {a b:Rat} (ha:0<a) (hb:0<b):0<a/b:=by
 rw [Rat.div_def];exact Rat.mul_pos ha (Rat.inv_pos.2 hb)
theorem ro (g k:List Rat):∀(ps:List ci) (out:Rat),0<out->0<eW g k ps out
 |[],out,h=>h
 |p::ps,out,h=>by
  rw [eW];refine ro g k ps _ ?_;split
  ·rename_i h1;have h0:0<cA p.2 (aQ g p.1):=by rw [jM _ _ h1.1];exact jj _ _ h1.1
   have h2:=div_pos h0 h1.2;unfold bT;split<;>grind
  exact h
theorem oa (g k:List Rat):∀(ps:List ci) (out:Rat),eW g k ps out=out∨∃p∈ps,bd p.2 (aQ g p.1)/\0<aQ k p.1/\eW g k ps out=cA p.2 (aQ g p.1)/aQ k p.1
 |[],out=> .inl rfl
 |p::ps,out=>by
  rw [eW];rcases oa g k ps (if bd p.2 (aQ g p.1)/\0<aQ k p.1 then bT out (cA p.2 (aQ g p.1)/aQ k p.1) else out) with h|⟨q,h1,h2⟩
  ·rw [h];by_cases h1:bd p.2 (aQ g p.1)/\0<aQ k p.1
   ·rw [if_pos h1];unfold bT;split
    ·exact .inr ⟨p,by simp,h1.1,h1.2,rfl⟩
    exact .inl rfl
   rw [if_neg h1];exact .inl rfl
  exact .inr ⟨q,by simp [h1],h2⟩
def Kt (e:GEst) (m h:Rat):Prop:=(bd (aF e.claims) m->h<=fR (aF e.claims) m)/\∀p∈(ay e).pools,bd p.2 (aQ (aX (ay e) m) p.1)->h*aQ (bg (ay e) m) p.1<=fR p.2 (aQ (aX (ay e) m) p.1)
theorem zq {e:GEst} {m h:Rat} (he:eOK e) (hm:0<=m) (ho:bd (aF e.claims) m) (hh:0<=h) (hs:h<=bJ (ay e) m):Kt e m h:=by
 obtain ⟨h1,h2⟩:=tD (aX (ay e) m) (bg (ay e) m) (ay e).pools (cA (aF e.claims) m);have hk:=rl he.cl hm;refine ⟨fun _=>?_,fun p hp hpo=>?_⟩
 ·rw [jM _ _ ho] at h1;exact Rat.le_trans hs (by rw [←jM _ _ ho] at *;exact h1)
 have h3:=jJ hk p.1;by_cases h4:0<aQ (bg (ay e) m) p.1
 ·have h5:=h2 p hp hpo h4;rw [jM _ _ hpo] at h5;have h6:=Rat.mul_le_mul_of_nonneg_right hs h3;exact Rat.le_trans h6 h5
 have h5:aQ (bg (ay e) m) p.1=0:=by grind
 have h6:=jj _ _ hpo;rw [h5];grind
theorem nh {e:GEst} {m:Rat} (ho:¬bd (aF e.claims) m):∀M:List Int,aQ (bg (ay e) m) M=0
 |[]=>rfl
 |i::M=>by
  rw [aQ,nh ho M,lE,ng _ _ _ _ ho];grind
theorem rp {e:GEst} {m:Rat} (ho:bd (aF e.claims) m):0<bJ (ay e) m:=by
 refine ro _ _ _ _ ?_;show 0<cA (aF e.claims) m;rw [jM _ _ ho];exact jj _ _ ho
theorem tE (l:List WT) {m n:Rat} (h:m<=n):o5 l n<=o5 l m:=by
 have:=oQ l m n h;unfold o5;omega
theorem xw (l:List WT) {m n:Rat} (ho:bd l m) (h:m+fR l m<=n):o5 l n<o5 l m:=by
 have:=rj l m n ho h;unfold o5 bd at *
 omega
theorem rq {g g':List Rat}:∀ps:List ci,(∀p∈ps,aQ g p.1<=aQ g' p.1)->lT g' ps<=lT g ps/\∀p∈ps,o5 p.2 (aQ g' p.1)<o5 p.2 (aQ g p.1)->lT g' ps<lT g ps
 |[],_=>⟨Nat.le_refl _,by simp⟩
 |p::ps,h=>by
  obtain ⟨h1,h2⟩:=rq ps fun q hq=>h q (by simp [hq])
  have h3:=tE p.2 (h p (by simp));refine ⟨by rw [lT,lT];omega,fun q hq hlt=>?_⟩;rw [lT,lT];rcases List.mem_cons.1 hq with rfl|hq
  ·omega
  have:=h2 q hq hlt;omega
theorem A4 {e : GEst} {m : Rat} (h : eOK e) (hm : 0 ≤ m) (ho : bd (aF e.claims) m) : wMu (ay e) (m + bJ (ay e) m) < wMu (ay e) m := by
  have hp := rp (m := m) ho
  have hmn : m ≤ m + bJ (ay e) m := by grind
  have hl := zq h hm ho (show 0 ≤ bJ (ay e) m by grind) (by grind)
  have hg := tB h.cl hm (show 0 ≤ bJ (ay e) m by grind) hl.1
  have hT := rn hg
  have h1 := tE (ay e).ranks hmn
  obtain ⟨h2, h3⟩ := rq (g := aX (ay e) m) (g' := aX (ay e) (m + bJ (ay e) m)) (ay e).pools fun p _ => uN (fun i => zn h.cl hm hmn i) p.1
  unfold wMu
  rcases oa (aX (ay e) m) (bg (ay e) m) (ay e).pools (cA (aF e.claims) m) with h4 | ⟨p, k1, k2, k3, k4⟩
  · have h5 : o5 (ay e).ranks (m + bJ (ay e) m) < o5 (ay e).ranks m := xw (aF e.claims) ho (by
      have : bJ (ay e) m = fR (aF e.claims) m := by rw [← jM _ _ ho]; exact h4
      rw [this]; grind)
    omega
  have h5 := h3 p k1 (xw p.2 k2 (by
    have h6 : bJ (ay e) m * aQ (bg (ay e) m) p.1 = fR p.2 (aQ (aX (ay e) m) p.1) := by
      rw [← jM _ _ k2]
      have : bJ (ay e) m = cA p.2 (aQ (aX (ay e) m) p.1) / aQ (bg (ay e) m) p.1 := k4
      rw [this, dK k3]
    rw [hT p.1, h6]; grind))
  omega
def Ku (e:GEst) (m d:Rat):Prop:=∀h,0<=h->h<=d->(∀i:Nat,(fo (ay e) (m+h)).cl.getD i 0=(fo (ay e) m).cl.getD i 0+h*(cn (ay e) m).cl.getD i 0)/\(fo (ay e) (m+h)).rv=(fo (ay e) m).rv+h*(cn (ay e) m).rv
structure kinkOf (e:GEst) (m y:Rat):Prop where
 gt:m<y
 le:y<=cx e.claims
 ne:¬((cn (ay e) y).rv=(cn (ay e) m).rv/\(cn (ay e) y).cl=(cn (ay e) m).cl)
 mu:wMu (ay e) y<wMu (ay e) m
 lin:Ku e m (y-m)
structure RS where
 got:WR
 slo:WR
 room:Rat
 bnd:Bool
def RS.put (s:RS) (c:Int) (g k:Rat):RS:=⟨s.got.add c g,s.slo.add c k,s.room,s.bnd⟩
def RS.kink (s:RS) (d:Rat):RS:=if s.bnd=false then ⟨s.got,s.slo,d,true⟩ else if d<s.room then ⟨s.got,s.slo,d,true⟩ else s
def eh (tot take rate:Rat) (here:Bool):WT->RS->RS
 |[],s=>s
 |p::t,s=>eh tot take rate here t (s.put p.1 (p.2/tot*take) (if here=true then p.2/tot*rate else 0))
def b6 (rate:Rat):List WT->Rat->Bool->RS->RS
  |[],_,_,s=>s
  |t::l,m,mg,s=>
    if au t=0 then b6 rate l m mg s
    else b6 rate l (m-bT m (au t)) (if mg=true/\m<au t then false else mg)
      (if (mg=true/\m<au t)/\rate≠0 then (eh (au t) (bT m (au t)) rate (decide (mg=true/\m<au t)) t s).kink ((au t-bT m (au t))/rate)
       else eh (au t) (bT m (au t)) rate (decide (mg=true/\m<au t)) t s)
theorem E4 {l:List Rat} (i:Nat):l.set i (l.getD i 0)=l:=by
 by_cases h:i<l.length
 ·rw [List.getD_eq_getElem?_getD,List.getElem?_eq_getElem h];exact List.set_getElem_self h
 exact List.set_eq_of_length_le (by omega)
theorem oc (R:WR) (c:Int):R.add c 0=R:=by
 unfold WR.add;split
 ·rw [show R.rv+0=R.rv by grind]
 rw [show R.cl.getD c.toNat 0+0=R.cl.getD c.toNat 0 by grind,E4]
theorem tF:∀(t:WT) (R:WR),(∀p∈t,p.2=0)->e7 1 t R=R
 |[],_,_=>rfl
 |p::t,R,h=>by
  rw [e7,h p (by simp),show (0:Rat)*1=0 by grind,oc];exact tF t R fun x hx=>h x (by simp [hx])
theorem lF (tot take rate:Rat) (here:Bool):∀(t:WT) (s:RS),eh tot take rate here t s=⟨e7 (take/tot) t s.got,if here=true then e7 (rate/tot) t s.slo else s.slo,s.room,s.bnd⟩
 |[],s=>by cases here<;>rfl
 |p::t,s=>by
  rw [eh,lF tot take rate here t];have h1:p.2/tot*take=p.2*(take/tot):=by rw [Rat.div_def,Rat.div_def];grind
  have h2:p.2/tot*rate=p.2*(rate/tot):=by rw [Rat.div_def,Rat.div_def];grind
  cases here
  ·simp only [RS.put,Bool.false_eq_true,if_false,e7,oc,h1]
  simp only [RS.put,if_true,e7,h1,h2]
theorem tG (q:Rat) (hq:q=0):∀(t:WT) (R:WR),e7 q t R=R
 |[],_=>rfl
 |p::t,R=>by
  rw [e7,hq,show p.2*0=0 by grind,oc];exact tG 0 rfl t R
theorem xx:∀(t:WT),(∀p∈t,0<=p.2)->au t=0->∀p∈t,p.2=0
 |q::t,h,h0,p,hp=>by
  have h1:=jG t fun x hx=>h x (by simp [hx])
  have h2:=h q (by simp);rw [au] at h0;rcases List.mem_cons.1 hp with rfl|hp
  ·grind
  exact xx t (fun x hx=>h x (by simp [hx])) (by grind) p hp
theorem tH (rate:Rat):∀(l:List WT) (s:RS),wNN l->b6 rate l 0 false s=s
 |[],_,_=>rfl
 |t::l,s,hn=>by
  have hl:=tH rate l s fun x hx=>hn x (by simp [hx])
  have hs:=jG t (hn t (by simp));rw [b6];by_cases h0:au t=0
  ·rw [if_pos h0];exact hl
  have hq:bT 0 (au t)=0:=by unfold bT;rw [if_neg (by grind)]
  rw [if_neg h0,hq];simp only [Bool.false_eq_true,false_and,if_false,decide_false];rw [lF];simp only [Bool.false_eq_true,if_false];rw [tG _ (by rw [Rat.div_def];grind),show (0:Rat)-0=0 by grind];exact hl
theorem ni (rate:Rat):∀(l:List WT) (m:Rat) (s:RS),0<=m->wNN l->
  b6 rate l m true s=if bd l m/\rate≠0 then (⟨io l m s.got,cZ l m rate s.slo,s.room,s.bnd⟩:RS).kink (cA l m/rate) else ⟨io l m s.got,cZ l m rate s.slo,s.room,s.bnd⟩
 |[],m,s,_,_=>by
  rw [b6,xd,mv,if_neg (by simp [bd,aJ])]
 |t::l,m,s,hm,hn=>by
  have hs:=jG t (hn t (by simp));have hnl:wNN l:=fun x hx=>hn x (by simp [hx])
  rw [b6,th,kF];by_cases h0:au t=0
  ·have hlt:¬m<au t:=by grind
   have h1:=ni rate l m s hm hnl;have hz:=xx t (hn t (by simp)) h0;have hsub:m-au t=m:=by grind
   have ho:bd (t::l) m↔bd l m:=by
    rw [dn,hsub];exact ⟨fun h=>h.resolve_left hlt,.inr⟩
   have hg:cA (t::l) m=cA l m:=by simp [cA,aJ,hlt,hsub]
   rw [if_pos h0,if_neg hlt,if_neg hlt,h1,hsub,lw,tF t s.got hz,hg];simp only [ho]
  rw [if_neg h0];by_cases hlt:m<au t
  ·have hq:bT m (au t)=m:=by unfold bT;rw [if_neg (by grind)]
   have ho:bd (t::l) m:=(dn t l m).2 (.inl hlt);have hg:cA (t::l) m=au t-m:=by simp [cA,aJ,hlt]
   rw [hq,show m-m=0 by grind];simp only [hlt,and_self,if_true,true_and,decide_true,ho,hg];rw [tH _ _ _ hnl,lF];simp only [if_true]
  have hq:bT m (au t)=au t:=by unfold bT;split<;>grind
  have h1:=ni rate l (m-au t) (eh (au t) (au t) rate (decide (true=true/\m<au t)) t s) (by grind) hnl;have ho:bd (t::l) m↔bd l (m-au t):=by
   rw [dn];exact ⟨fun h=>h.resolve_left hlt,.inr⟩
  have hg:cA (t::l) m=cA l (m-au t):=by simp [cA,aJ,hlt]
  have h2:au t/au t=1:=by rw [Rat.div_def];exact Rat.mul_inv_cancel _ h0
  rw [hq];rw [lF] at h1 ⊢;simp only [hlt,and_false,if_false,false_and,decide_false,Bool.false_eq_true,h2,ho,hg,lw] at h1 ⊢;exact h1
def F62:=And.intro zS (And.intro DZ (And.intro D3 (And.intro cG (rY))))
theorem F63:type_of%F62:=F62
theorem A5 (H:Hp) (ny s sg sk nn:Nat) (S:RS) (d:Rat) (h50:H 50=some ⟨s,214,12,1,[.own 46 sg nn 3,.own 48 sk nn 3,.lit (.bool (enc S.got.rv).neg),.lit (.string (enc S.got.rv).num),.lit (.string (enc S.got.rv).den),.lit (.bool (enc S.slo.rv).neg),.lit (.string (enc S.slo.rv).num),.lit (.string (enc S.slo.rv).den),.lit (.bool (enc S.room).neg),.lit (.string (enc S.room).num),.lit (.string (enc S.room).den),.lit (.bool S.bnd)]⟩) (h48:H 48=some ⟨sk,32,3,nn,ar cQ S.slo.cl⟩) (h46:H 46=some ⟨sg,32,3,nn,ar cQ S.got.cl⟩) (hbH:∀y B,H y=some B->y<9000) (h1:qB 50000000000 S.room) (h2:qB 50000000000 d):cX prog 182 [.one (.ptr 50 s 0),.agg (ai (enc d))] H ny
  (fun res H' _=>res= .tup []/\∀y B',bC H [(50,⟨s,214,12,1,[.own 46 sg nn 3,.own 48 sk nn 3,.lit (.bool (enc (S.kink d).got.rv).neg),.lit (.string (enc (S.kink d).got.rv).num),.lit (.string (enc (S.kink d).got.rv).den),.lit (.bool (enc (S.kink d).slo.rv).neg),.lit (.string (enc (S.kink d).slo.rv).num),.lit (.string (enc (S.kink d).slo.rv).den),.lit (.bool (enc (S.kink d).room).neg),.lit (.string (enc (S.kink d).room).num),.lit (.string (enc (S.kink d).room).den),.lit (.bool (S.kink d).bnd)]⟩),(48,⟨sk,32,3,nn,ar cQ (S.kink d).slo.cl⟩),(46,⟨sg,32,3,nn,ar cQ (S.kink d).got.cl⟩)] y=some B'->H' y=some B'):=by
 have hLs:=Ax d S.room _ _ h2 h1 (by omega) (by omega);simp only [ai] at hLs;refine cN 9000 func182 rfl (by decide) (N:=24) rfl (by simp) (Rl:=[]) rfl fun en k0=>?_
 refine awN ?_;simp only [F63,seval,ai];by_cases hb:S.bnd=true
 ·by_cases hlt:d<S.room
  ·have hLt:decide (d<S.room)=true:=decide_eq_true hlt;refine awD (scT 0 11 (scq [22,25] .nil)) [0,0,0,0,0,0,20,20,20,20,20,20,0] ?_;simp only [F63,seval,h50,hb];refine ⟨_,hLs,rfl,?_⟩;try simp only [ak,F63,seval,hlt]
   have hkk:S.kink d=⟨S.got,S.slo,d,true⟩:=by unfold RS.kink;rw [if_neg (by simp [hb]),if_pos hlt]
   refine awT ?_;refine awN ?_;simp only [F63,seval,h50,hb];refine awN ?_;simp only [F63,seval];try refine ⟨rfl,?_⟩
   intro y B h;rw [hkk] at h;try simp only [bC] at h ⊢
   by_cases hy:y=50
   ·subst hy;first|exact h|(simpa [h50,ai] using h)
   simp only [hy,if_false] at h ⊢;by_cases hy2:y=48
   ·subst hy2;first|exact h|(simpa [h48] using h)
   simp only [hy2,if_false] at h ⊢;by_cases hy3:y=46
   ·subst hy3;first|exact h|(simpa [h46] using h)
   simp only [hy3,if_false] at h ⊢;have h9:=hbH y B h;repeat rw [if_neg (by omega)]
   exact h
  have hLt:decide (d<S.room)=false:=decide_eq_false hlt;refine awD (scT 0 11 (scq [22,25] .nil)) [0,0,0,0,0,0,20,20,20,20,20,20,0] ?_;simp only [F63,seval,h50,hb];refine ⟨_,hLs,rfl,?_⟩;try simp only [ak,F63,seval,hlt]
  have hkk:S.kink d=S:=by unfold RS.kink;rw [if_neg (by simp [hb]),if_neg hlt]
  refine awF ?_;refine awK ?_;simp only [F63,seval];try refine ⟨rfl,?_⟩
  intro y B h;rw [hkk] at h;try simp only [bC,ap] at h ⊢
  by_cases hy:y=50
  ·subst hy;first|exact h|(simpa [h50,ai] using h)
  simp only [hy,if_false] at h ⊢;by_cases hy2:y=48
  ·subst hy2;first|exact h|(simpa [h48] using h)
  simp only [hy2,if_false] at h ⊢;by_cases hy3:y=46
  ·subst hy3;first|exact h|(simpa [h46] using h)
  simp only [hy3,if_false] at h ⊢;have h9:=hbH y B h;repeat rw [if_neg (by omega)]
  exact h
 refine awD (scT 0 11 (scq [22,25] .nil)) [0,0,0,0,0,0,20,20,20,20,20,20,0] ?_;simp only [F63,seval,h50,hb];have hkk:S.kink d=⟨S.got,S.slo,d,true⟩:=by unfold RS.kink;rw [if_pos (by simpa using hb)]
 refine awT ?_;refine awN ?_;simp only [F63,seval,h50,hb];refine awN ?_;simp only [F63,seval];try refine ⟨rfl,?_⟩
 intro y B h;rw [hkk] at h;try simp only [bC] at h ⊢
 by_cases hy:y=50
 ·subst hy;first|exact h|(simpa [h50,ai] using h)
 simp only [hy,if_false] at h ⊢;by_cases hy2:y=48
 ·subst hy2;first|exact h|(simpa [h48] using h)
 simp only [hy2,if_false] at h ⊢;by_cases hy3:y=46
 ·subst hy3;first|exact h|(simpa [h46] using h)
 simp only [hy3,if_false] at h ⊢;have h9:=hbH y B h;repeat rw [if_neg (by omega)]
 exact h
def F64:=And.intro zS (And.intro qo (And.intro me (And.intro As (And.intro At (And.intro Hh (And.intro D4 (And.intro jW (cG))))))))
theorem F65:type_of%F64:=F64
theorem rt (H:Hp) (ny s sg sk nn:Nat) (S:RS) (c:Int) (g q:Rat) (h50:H 50=some ⟨s,214,12,1,[.own 46 sg nn 3,.own 48 sk nn 3,.lit (.bool (enc S.got.rv).neg),.lit (.string (enc S.got.rv).num),.lit (.string (enc S.got.rv).den),.lit (.bool (enc S.slo.rv).neg),.lit (.string (enc S.slo.rv).num),.lit (.string (enc S.slo.rv).den),.lit (.bool (enc S.room).neg),.lit (.string (enc S.room).num),.lit (.string (enc S.room).den),.lit (.bool S.bnd)]⟩) (h48:H 48=some ⟨sk,32,3,nn,ar cQ S.slo.cl⟩) (h46:H 46=some ⟨sg,32,3,nn,ar cQ S.got.cl⟩) (hgn:S.got.cl.length=nn) (hsn:S.slo.cl.length=nn) (hbH:∀y B,H y=some B->y<9000) (hl:nn<=1000000) (hc:inR nn c) (hG:S.got.B 50000000000) (hS:S.slo.B 50000000000) (hg:qB 50000000000 g) (hq:qB 50000000000 q):cX prog 185 [.one (.ptr 50 s 0),.one (.lit (.int .i64 c)),.agg (ai (enc g)),.agg (ai (enc q))] H ny
  (fun res H' _=>res= .tup []/\∀y B',bC H [(50,⟨s,214,12,1,[.own 46 sg nn 3,.own 48 sk nn 3,.lit (.bool (enc (S.put c g q).got.rv).neg),.lit (.string (enc (S.put c g q).got.rv).num),.lit (.string (enc (S.put c g q).got.rv).den),.lit (.bool (enc (S.put c g q).slo.rv).neg),.lit (.string (enc (S.put c g q).slo.rv).num),.lit (.string (enc (S.put c g q).slo.rv).den),.lit (.bool (enc (S.put c g q).room).neg),.lit (.string (enc (S.put c g q).room).num),.lit (.string (enc (S.put c g q).room).den),.lit (.bool (S.put c g q).bnd)]⟩),(48,⟨sk,32,3,nn,ar cQ (S.put c g q).slo.cl⟩),(46,⟨sg,32,3,nn,ar cQ (S.put c g q).got.cl⟩)] y=some B'->H' y=some B'):=by
 have hci:c= -1∨0<=c/\c<nn:=hc;refine cN 9000 func185 rfl (by decide) (N:=58) rfl (by simp) (Rl:=[]) rfl fun en k0=>?_
 refine awN ?_;simp only [F65,seval,ai];by_cases hc0:c= -1
 ·refine awN ?_;simp only [F65,seval,hc0];refine awT ?_;have hA1:=mV S.got.rv g 50000000000 50000000000 hG.2 hg (by decide) (by decide);simp only [ai] at hA1;refine awD (scT 0 6 (scq [12,15,17,18] .nil)) [0,0,0,0,0,0,0,0,0,0] ?_;simp only [F65,seval,h50];refine ⟨_,hA1,rfl,?_⟩;try simp only [ak,F65,seval,h50]
  have hA2:=mV S.slo.rv q 50000000000 50000000000 hS.2 hq (by decide) (by decide);simp only [ai] at hA2;refine awD (scT 0 6 (scq [12,15,17,18] .nil)) [0,0,0,0,0,0,0,0,0,0] ?_;simp only [F65,seval];refine ⟨_,hA2,rfl,?_⟩;try simp only [ak,F65,seval]
  refine awX ?_;simp only [F65,seval];have hkk:S.put (-1) g q=⟨⟨S.got.cl,S.got.rv+g⟩,⟨S.slo.cl,S.slo.rv+q⟩,S.room,S.bnd⟩:=by unfold RS.put WR.add;rw [if_pos rfl,if_pos rfl]
  try refine ⟨rfl,?_⟩
  intro y B h;rw [hkk] at h;try simp only [bC] at h ⊢
  by_cases hy:y=50
  ·subst hy;first|exact h|(simpa [h50,ai] using h)
  simp only [hy,if_false] at h ⊢;by_cases hy2:y=48
  ·subst hy2;first|exact h|(simpa [h48] using h)
  simp only [hy2,if_false] at h ⊢;by_cases hy3:y=46
  ·subst hy3;first|exact h|(simpa [h46] using h)
  simp only [hy3,if_false] at h ⊢;have h9:=hbH y B h;repeat rw [if_neg (by omega)]
  exact h
 refine awN ?_;simp only [F65,seval,hc0];refine awF ?_;refine awK ?_;simp only [F65,seval];obtain ⟨k,hk⟩:∃k:Nat,c=(k:Int):=⟨c.toNat,by omega⟩;subst hk;have hct:((k:Int)).toNat=k:=Int.toNat_natCast k;have hkn:k<S.got.cl.length:=by omega
 have hat:=aO bV S.got.cl k hkn;have hgd:S.got.cl.getD k 0=S.got.cl[k]:=by rw [List.getD_eq_getElem?_getD,List.getElem?_eq_getElem hkn];rfl
 have hA3:=mV S.got.cl[k] g 50000000000 50000000000 (hG.1 _ (List.getElem_mem hkn)) hg (by decide) (by decide);have hset:=dJ bV S.got.cl k (S.got.cl[k]+g) hkn;have hfl:=be bV S.got.cl;simp only [cQ,ai] at hA3 hset hat;refine awD (scT 0 13 (scq [26,29,30] .nil)) [0,0,0,0,0,0,0,0,0,0,0,0,0,0,0,0] ?_;simp only [F65,seval,h50,h46,hat,hfl];repeat refine ob ?_
 refine ⟨_,hA3,rfl,?_⟩;try simp only [ak,F65,seval,h46,hset,hfl]
 repeat refine ob ?_
 have hkn2:k<S.slo.cl.length:=by omega
 have hat2:=aO bV S.slo.cl k hkn2;have hgd2:S.slo.cl.getD k 0=S.slo.cl[k]:=by rw [List.getD_eq_getElem?_getD,List.getElem?_eq_getElem hkn2];rfl
 have hA4:=mV S.slo.cl[k] q 50000000000 50000000000 (hS.1 _ (List.getElem_mem hkn2)) hq (by decide) (by decide);have hset2:=dJ bV S.slo.cl k (S.slo.cl[k]+q) hkn2;have hfl2:=be bV S.slo.cl;simp only [cQ,ai] at hA4 hset2 hat2;refine awD (scT 0 13 (scq [26,29,30] .nil)) [0,0,0,0,0,0,0,0,0,0,0,0,0,0,0,0] ?_;simp only [F65,seval,h50,h48,hat2,hfl2];repeat refine ob ?_
 refine ⟨_,hA4,rfl,?_⟩;try simp only [ak,F65,seval,h48,hset2,hfl2]
 repeat refine ob ?_
 have hkk:S.put (k:Int) g q=⟨⟨S.got.cl.set k (S.got.cl[k]+g),S.got.rv⟩,⟨S.slo.cl.set k (S.slo.cl[k]+q),S.slo.rv⟩,S.room,S.bnd⟩:=by unfold RS.put WR.add;rw [if_neg hc0,if_neg hc0,hct,hgd,hgd2]
 try refine ⟨rfl,?_⟩
 intro y B h;rw [hkk] at h;try simp only [bC] at h ⊢
 by_cases hy:y=50
 ·subst hy;first|exact h|(simpa [h50,ai] using h)
 simp only [hy,if_false] at h ⊢;by_cases hy2:y=48
 ·subst hy2;first|exact h|(simpa [h48] using h)
 simp only [hy2,if_false] at h ⊢;by_cases hy3:y=46
 ·subst hy3;first|exact h|(simpa [h46] using h)
 simp only [hy3,if_false] at h ⊢;have h9:=hbH y B h;repeat rw [if_neg (by omega)]
 exact h
end Go.Proofs.YtokmkopihhnggaaGreatDoor
