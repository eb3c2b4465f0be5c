/- The reference's Revive; walked by the abstract machine. -/
import Derived.Test.YtcgpghifhehlhaaGreatDoorRv1M
import Derived.Test.YtcgpghifhehlhaaGreatDoorRw5M
set_option linter.unusedVariables false
set_option maxHeartbeats 4000000
set_option maxRecDepth 100000
set_option linter.unusedSimpArgs false
set_option linter.defProp false
namespace Go.Proofs.YtcgpghifhehlhaaGreatDoor
open Go Go.RowKit Go.Proofs.Tryz
theorem Lt (p q:Rat):fV p q<0↔p<q:=by unfold fV;grind
def rvC (e:GEst):Prop:=enc (qOf e.cash)=e.cash
theorem Lu {es:List GEst} (f:GEst->GEst) (hf:∀e,rvC e->rvC (f e)) (j:Nat) (h:∀e∈es,rvC e):∀e∈upE es j f,rvC e:=fun e he=>by
 unfold upE at he;obtain ⟨i,hi,rfl⟩:=List.getElem_of_mem he;rw [List.getElem_set];split
 ·rename_i hji;subst hji;have hj:j<es.length:=by simpa using hi
  rw [sD _ _ hj];exact hf _ (h _ (List.getElem_mem hj))
 exact h _ (List.getElem_mem (by simpa using hi))
theorem Kk {es:List GEst} {est hold rank:Int} {amt:GRat} (h:∀e∈es,rvC e):∀e∈zz es est hold rank amt,rvC e:=by
 have h1:=Lu (adE (qOf amt)) (fun e _=>by unfold rvC adE;rw [Aw]) est.toNat h;have h2:∀e∈(if hold= -1 then upE es est.toNat (adE (qOf amt)) else upE (upE es est.toNat (adE (qOf amt))) hold.toNat (sbE (qOf amt))),rvC e:=by
  split
  ·exact h1
  exact Lu (sbE (qOf amt)) (fun e _=>by unfold rvC sbE;rw [Aw]) hold.toNat h1
 unfold zz;dsimp only;split
 ·exact h2
 exact Lu (apE _) (fun e he=>he) est.toNat h2
theorem Mu (es:List GEst):∀e∈es.map clE,rvC e:=fun e he=>by
 obtain ⟨e0,h0,rfl⟩:=List.mem_map.1 he;show enc (qOf (clR e0.cash))=clR e0.cash;unfold clR;rw [Aw]
theorem psC {ps:List (GEst×Nat)} {es:List GEst} (hm:ps.map (·.1)=es) (h:∀e∈es,rvC e):∀q∈ps,rvC q.1:=fun q hq=>h _ (hm▸List.mem_map.2 ⟨q,hq,rfl⟩)
def F58:=And.intro zS (And.intro KF (And.intro zE (And.intro pj (And.intro u6 (And.intro zF (And.intro yG (And.intro pk (And.intro tv (And.intro Ai (And.intro Aj (And.intro zD (And.intro Ak (And.intro tx (And.intro tz (And.intro xh (And.intro jS (And.intro zG (And.intro xd (And.intro Al (And.intro Am (And.intro po (And.intro xj (And.intro Aa (yH))))))))))))))))))))))))
theorem F59:type_of%F58:=F58
theorem K4 (g:GGrp) (l:List GRet) (hg:cqG g) (hgo:b5 g) (hgs:∀e∈g.ests,rvB 1000000 900000 e) (hl:∀r∈l,sB 1000000 r.amount) (hl9:l.length<=9223372036854775807):ch prog 18 [.agg (au g),.one (.sh 6 l.length (ar di l))] (.tup [.agg (au (rvS (nX g) g l).1),.one (.lit (.int .i64 (rvS (nX g) g l).2))]):=by
 obtain ⟨X,hX⟩:∃X,X=rvS (nX g) g l:=⟨_,rfl⟩;rw [←hX];refine bF func18 rfl (by decide) (N:=167) rfl (by simp) (R:=[.cell 4 28,.tmp 5]) rfl fun en k0=>?_
 refine awN ?_;simp only [F59,seval,au];repeat refine ob ?_
 have hK:=b6 g hgo;refine awN ?_;simp only [F59,seval,au,ab ak,ab ai];repeat refine ob ?_
 refine ⟨_,hK,(by first|rfl|simp [bu,aI,av,az,A1.cells,au,ab ak,ab ai]),?_⟩;try simp only [aq,F59,seval,au,ab ak,ab ai]
 repeat refine ob ?_
 by_cases h0:nX g=0
 ·refine awN ?_;simp only [F59,seval,au,h0];repeat refine ob ?_
  refine awF ?_;refine awK ?_;simp only [F59,seval];by_cases h64:(64:Int)<(l.length:Int)
  ·refine awN ?_;simp only [F59,seval,au,h0,h64];repeat refine ob ?_
   refine awT ?_;refine awN ?_;simp only [F59,seval,au,h0,h64];repeat refine ob ?_
   refine be (vt 4 [.sh 5 0 [],.sh 4 0 []] (by rfl) (by show (2:Nat)≠0;decide) (by rfl) (fun κ vs h=>j9 h)) ?_;simp only [F59,seval];have hR:X=(⟨[],[]⟩,2):=by
    rw [hX];unfold rvS;rw [if_pos h0,if_pos h64]
   refine awX ?_;rw [hR];try simp only [F59,seval]
   simp [au,ej]
  refine awN ?_;simp only [F59,seval,au,h0,h64];repeat refine ob ?_
  refine awF ?_;refine awK ?_;simp only [F59,seval];have hn1:=hg.1;have hk64:l.length<=64:=by omega
  refine awR [24] [0,0,0,0] ?_;simp only [F59,seval,au,h0,h64];repeat refine ob ?_
  refine ⟨_,Lo g hg _ _ (fun y B hB=>?_),?_⟩
  ·simp only [aj] at hB;repeat (split at hB;· omega)
   cases hB
  rintro res H' nxA ⟨ps0,s0,t0,hps0,rfl,rfl⟩;simp only [F59,seval,(id SD)];repeat refine ob ?_
  refine awN ?_;simp only [F59,seval,au,h0,h64];repeat refine ob ?_
  refine awN ?_;simp only [F59,seval,au,h0,h64];repeat refine ob ?_
  refine aE (tbl 103 38 ps0) [1,4,5,6,7,8,9] [4,7,272] (by intro y B h;obtain ⟨a,r,rfl,h2,h3⟩:=bD h;right;simp only [aj];(repeat rw [if_neg (by omega)]);unfold orT;rw [h]) ?_;try simp only [aq,F59,seval,au,h0,h64]
  repeat' first|apply awS|apply awB
  refine aB (fun n st=>∃k ps nx,k<=l.length/\n=l.length-k/\m9 (l.drop k) (ps.map (·.1))=m9 l (g.ests.map clE)/\ps.length=g.ests.length/\(∀q∈ps,rvB (1000000+k*2000002) (900000+k) q.1)/\(∀q∈ps,rvC q.1)/\st=⟨mkT [(1,.val (.one (.sh 6 l.length (ar di l)))),(4,.val (.one (.ptr 4 1 0))),(5,one (.int .i64 0)),(6,one (.int .i64 0)),(7,.val (.one (.ptr 7 nxA 0))),(8,one (.int .i64 g.ests.length)),(9,one (.int .i64 k))],bW (tbl 103 38 ps) [(4,zB9 1),(7,⟨nxA,28,2,1,[.own 272 s0 g.ests.length 5,.sh 4 (g.debts.map clD).length (ar cn (g.debts.map clD))]⟩),(272,⟨s0,36,5,g.ests.length,eRw (aR 103) ps 0⟩)],nx,0⟩) (l.length) ⟨0,ps0,_,by omega,by omega,by rw [hps0];rfl,by have:=congrArg List.length hps0;simpa using this,psB hps0 (LR (by decide) hgs),psC hps0 (Mu _),rfl⟩ ?_;rintro n0 st ⟨k,ps,nx0,hk,rfl,hap,hpl,hB9,hC9,rfl⟩;by_cases hlt0:(k:Int)<(l.length:Int)
  ·refine awN ?_;simp only [F59,seval,au,h0,h64,hlt0];repeat refine ob ?_
   refine awT ?_;refine awK ?_;simp only [F59,seval];have hkl:k<l.length:=by omega
   have hat:=aO CX l k hkl;obtain ⟨r,hXr⟩:∃r,l[k]=r:=⟨_,rfl⟩;have hra:sB 1000000 r.amount:=hl r (hXr▸List.getElem_mem hkl);rw [hXr] at hat;obtain ⟨est,hold,rank,amt⟩:=r;dsimp only at hra;simp only [di] at hat;have hrl:(eRw (aR 103) ps 0).length=g.ests.length*5:=by rw [kz,hpl]
   have hn1:=hg.1;have hk64:l.length<=64:=by omega
   refine awN ?_;simp only [F59,seval,au,h0,h64,hlt0,hat];repeat refine ob ?_
   have hFx:=Mo amt (by have:=hra.1;omega) (by have:=hra.2;omega);simp only [cS] at hFx;refine awN ?_;simp only [F59,seval,au,h0,h64,hlt0,cS];repeat refine ob ?_
   refine ⟨_,hFx,(by first|rfl|simp [bu,aI,av,az,A1.cells,au,ab ak,ab ai]),?_⟩;try simp only [aq,F59,seval,au,h0,h64,hlt0,cS]
   repeat refine ob ?_
   by_cases h1:est<0
   ·refine awR [] [0,0,0,0,90,90,90,90,0] ?_;simp only [F59,seval,au,h0,h64,hlt0,h1];repeat refine ob ?_
    refine awT ?_;refine awN ?_;simp only [F59,seval,au,h0,h64,hlt0,h1,zB9];repeat refine ob ?_
    have hpy:pyC (ps.map (·.1)) est hold rank amt=1:=by
     unfold pyC;rw [List.length_map,hpl];rw [if_pos (by omega)]
    have hE:m9 l (g.ests.map clE)=([],1):=by
     rw [List.drop_eq_getElem_cons hkl,hXr] at hap;simp only [m9] at hap;rw [if_neg (by rw [hpy];decide),hpy] at hap;exact hap.symm
    refine be (vt 4 [.sh 5 0 [],.sh 4 0 []] (by rfl) (by show (2:Nat)≠0;decide) (by rfl) (fun κ vs h=>j9 h)) ?_;simp only [F59,seval];have hR:X=(⟨[],[]⟩,1):=by
     rw [hX];unfold rvS;rw [if_pos h0,if_neg h64,hE];try rfl
    refine awX ?_;rw [hR];try simp only [F59,seval]
    simp [au,ej]
   by_cases h2:(g.ests.length:Int)<=est
   ·refine awR [] [0,0,0,0,90,90,90,90,0] ?_;simp only [F59,seval,au,h0,h64,hlt0,h1,h2];repeat refine ob ?_
    refine awT ?_;refine awN ?_;simp only [F59,seval,au,h0,h64,hlt0,h1,h2,zB9];repeat refine ob ?_
    have hpy:pyC (ps.map (·.1)) est hold rank amt=1:=by
     unfold pyC;rw [List.length_map,hpl];rw [if_pos (by omega)]
    have hE:m9 l (g.ests.map clE)=([],1):=by
     rw [List.drop_eq_getElem_cons hkl,hXr] at hap;simp only [m9] at hap;rw [if_neg (by rw [hpy];decide),hpy] at hap;exact hap.symm
    refine be (vt 4 [.sh 5 0 [],.sh 4 0 []] (by rfl) (by show (2:Nat)≠0;decide) (by rfl) (fun κ vs h=>j9 h)) ?_;simp only [F59,seval];have hR:X=(⟨[],[]⟩,1):=by
     rw [hX];unfold rvS;rw [if_pos h0,if_neg h64,hE];try rfl
    refine awX ?_;rw [hR];try simp only [F59,seval]
    simp [au,ej]
   obtain ⟨j,rfl⟩:∃j:Nat,est=(j:Int):=⟨est.toNat,by omega⟩;have hjl:j<ps.length:=by omega
   obtain ⟨q,hq⟩:∃q,ps[j]? =some q:=⟨_,List.getElem?_eq_getElem hjl⟩;have hqm:=List.mem_of_getElem? hq;have hcq:=mj ps j q hq;have hqs:=(hB9 q hqm).1;have hqc9:=hC9 q hqm;unfold rvC at hqc9;have hget:=pz (aR 103) ps j q hq;have hfo:aR 103 j q= .own (1000*(j+1)+103) q.2 q.1.claims.length 5:=rfl;rw [hfo] at hget;have htb:tbl 103 38 ps (1000*(j+1)+103)=_:=bk (by decide) hq;obtain ⟨b9,hb9⟩:∃b,b=1000*(j+1)+103:=⟨_,rfl⟩;rw [←hb9] at hget htb;have F9:∀c,c%1000≠103->((b9=c)=False/\(c=b9)=False):=fun c hc=>⟨by simp;omega,by simp;omega⟩
   simp only [cS] at hcq;refine awR [] [0,0,0,0,90,90,90,90,0] ?_;simp only [F59,seval,au,h0,h64,hlt0,h1,h2];repeat refine ob ?_
   refine awF ?_;refine awK ?_;simp only [F59,seval];by_cases g4:hold< -1
   ·refine awR [] [0,0,0,0,110,110,110,110,0,0,122,122,122,122,122,0] ?_;simp only [F59,seval,au,h0,h64,hlt0,h1,h2,g4];repeat refine ob ?_
    refine awT ?_;refine awN ?_;simp only [F59,seval,au,h0,h64,hlt0,h1,h2,g4,zB9];repeat refine ob ?_
    have hpy:pyC (ps.map (·.1)) (j:Int) hold rank amt=19:=by
     unfold pyC;rw [List.length_map,hpl];try rw [Int.toNat_natCast (n:=j)]
     try rw [fd hq]
     rw [if_neg (by omega),if_pos (by omega)]
    have hE:m9 l (g.ests.map clE)=([],19):=by
     rw [List.drop_eq_getElem_cons hkl,hXr] at hap;simp only [m9] at hap;rw [if_neg (by rw [hpy];decide),hpy] at hap;exact hap.symm
    refine be (vt 4 [.sh 5 0 [],.sh 4 0 []] (by rfl) (by show (2:Nat)≠0;decide) (by rfl) (fun κ vs h=>j9 h)) ?_;simp only [F59,seval];have hR:X=(⟨[],[]⟩,19):=by
     rw [hX];unfold rvS;rw [if_pos h0,if_neg h64,hE];try rfl
    refine awX ?_;rw [hR];try simp only [F59,seval]
    simp [au,ej]
   by_cases h5:(g.ests.length:Int)<=hold
   ·refine awR [] [0,0,0,0,110,110,110,110,0,0,122,122,122,122,122,0] ?_;simp only [F59,seval,au,h0,h64,hlt0,h1,h2,g4,h5];repeat refine ob ?_
    refine awT ?_;refine awN ?_;simp only [F59,seval,au,h0,h64,hlt0,h1,h2,g4,h5,zB9];repeat refine ob ?_
    have hpy:pyC (ps.map (·.1)) (j:Int) hold rank amt=19:=by
     unfold pyC;rw [List.length_map,hpl];try rw [Int.toNat_natCast (n:=j)]
     try rw [fd hq]
     rw [if_neg (by omega),if_pos (by omega)]
    have hE:m9 l (g.ests.map clE)=([],19):=by
     rw [List.drop_eq_getElem_cons hkl,hXr] at hap;simp only [m9] at hap;rw [if_neg (by rw [hpy];decide),hpy] at hap;exact hap.symm
    refine be (vt 4 [.sh 5 0 [],.sh 4 0 []] (by rfl) (by show (2:Nat)≠0;decide) (by rfl) (fun κ vs h=>j9 h)) ?_;simp only [F59,seval];have hR:X=(⟨[],[]⟩,19):=by
     rw [hX];unfold rvS;rw [if_pos h0,if_neg h64,hE];try rfl
    refine awX ?_;rw [hR];try simp only [F59,seval]
    simp [au,ej]
   by_cases h6:hold=(j:Int)
   ·subst h6;refine awR [] [0,0,0,0,110,110,110,110,0,0,122,122,122,122,122,0] ?_;simp only [F59,seval,au,h0,h64,hlt0,h1,h2,g4,h5];repeat refine ob ?_
    refine awT ?_;refine awN ?_;simp only [F59,seval,au,h0,h64,hlt0,h1,h2,g4,h5,zB9];repeat refine ob ?_
    have hpy:pyC (ps.map (·.1)) (j:Int) (j:Int) rank amt=19:=by
     unfold pyC;rw [List.length_map,hpl];try rw [Int.toNat_natCast (n:=j)]
     try rw [fd hq]
     rw [if_neg (by omega),if_pos (by omega)]
    have hE:m9 l (g.ests.map clE)=([],19):=by
     rw [List.drop_eq_getElem_cons hkl,hXr] at hap;simp only [m9] at hap;rw [if_neg (by rw [hpy];decide),hpy] at hap;exact hap.symm
    refine be (vt 4 [.sh 5 0 [],.sh 4 0 []] (by rfl) (by show (2:Nat)≠0;decide) (by rfl) (fun κ vs h=>j9 h)) ?_;simp only [F59,seval];have hR:X=(⟨[],[]⟩,19):=by
     rw [hX];unfold rvS;rw [if_pos h0,if_neg h64,hE];try rfl
    refine awX ?_;rw [hR];try simp only [F59,seval]
    simp [au,ej]
   have h6n:(hold=(j:Int))=False:=eq_false h6;refine awR [] [0,0,0,0,110,110,110,110,0,0,122,122,122,122,122,0] ?_;simp only [F59,seval,au,h0,h64,hlt0,h1,h2,g4,h5,h6n];repeat refine ob ?_
   refine awF ?_;refine awK ?_;simp only [F59,seval];by_cases h7:rank= -1
   ·subst h7;refine awR [] [0,0,0,0,145,145,145,145,152,152,152,145,0] ?_;simp only [F59,seval,au,h0,h64,hlt0,h1,h2,g4,h5,h6n];repeat refine ob ?_
    refine awF ?_;refine awK ?_;simp only [F59,seval];by_cases h10:aL (qOf amt)<0
    ·have hSg:=JU (enc (qOf amt));rw [lp] at hSg;simp only [cS] at hSg;refine awN ?_;simp only [F59,seval,au,h0,h64,hlt0,h1,h2,g4,h5,h6n,h10,cS];repeat refine ob ?_
     refine ⟨_,hSg,(by first|rfl|simp [bu,aI,av,az,A1.cells,au,ab ak,ab ai]),?_⟩;try simp only [aq,F59,seval,au,h0,h64,hlt0,h1,h2,g4,h5,h6n,h10,cS]
     repeat refine ob ?_
     refine awT ?_;refine awN ?_;simp only [F59,seval,au,h0,h64,hlt0,h1,h2,g4,h5,h6n,h10,zB9];repeat refine ob ?_
     have hpy:pyC (ps.map (·.1)) (j:Int) hold (-1) amt=7:=by
      unfold pyC;rw [List.length_map,hpl];try rw [Int.toNat_natCast (n:=j)]
      try rw [fd hq]
      rw [if_neg (by omega),if_neg (by omega),if_neg (by omega),if_pos (by omega)]
     have hE:m9 l (g.ests.map clE)=([],7):=by
      rw [List.drop_eq_getElem_cons hkl,hXr] at hap;simp only [m9] at hap;rw [if_neg (by rw [hpy];decide),hpy] at hap;exact hap.symm
     refine be (vt 4 [.sh 5 0 [],.sh 4 0 []] (by rfl) (by show (2:Nat)≠0;decide) (by rfl) (fun κ vs h=>j9 h)) ?_;simp only [F59,seval];have hR:X=(⟨[],[]⟩,7):=by
      rw [hX];unfold rvS;rw [if_pos h0,if_neg h64,hE];try rfl
     refine awX ?_;rw [hR];try simp only [F59,seval]
     simp [au,ej]
    have hSg:=JU (enc (qOf amt));rw [lp] at hSg;simp only [cS] at hSg;refine awN ?_;simp only [F59,seval,au,h0,h64,hlt0,h1,h2,g4,h5,h6n,h10,cS];repeat refine ob ?_
    refine ⟨_,hSg,(by first|rfl|simp [bu,aI,av,az,A1.cells,au,ab ak,ab ai]),?_⟩;try simp only [aq,F59,seval,au,h0,h64,hlt0,h1,h2,g4,h5,h6n,h10,cS]
    repeat refine ob ?_
    refine awF ?_;refine awK ?_;simp only [F59,seval];by_cases g0:0<=hold
    ·obtain ⟨h,rfl⟩:∃h:Nat,hold=(h:Int):=⟨hold.toNat,by omega⟩;have hhl:h<ps.length:=by omega
     have hne:h≠j:=by omega
     obtain ⟨qh,hqh⟩:∃q,ps[h]? =some q:=⟨_,List.getElem?_eq_getElem hhl⟩;have hch:=mj ps h qh hqh;have hqhm:=List.mem_of_getElem? hqh;have hqhs:=(hB9 qh hqhm).1;have hqhc:=hC9 qh hqhm;unfold rvC at hqhc;have hKc:=LQ (qOf qh.1.cash) (qOf amt) (1000000+k*2000002) 1000000 (zq hqhs (by omega)) (zq hra (by decide)) (by omega) (by decide);rw [hqhc] at hKc;simp only [cS] at hch hKc;have hcl9:=Lt (qOf qh.1.cash) (qOf amt);have h3n:((h:Int)= -1)=False:=eq_false (by omega);by_cases h11:qOf qh.1.cash<qOf amt
     ·refine awD (scT 0 12 (scq [24,27] .nil)) [0,0,0,0,181,181,181,181,181,181,181,181,181,0] ?_;simp only [F59,seval,au,h0,h64,hlt0,h1,h2,g4,h5,h6n,h10,g0,h11,hch,hrl,cS];repeat refine ob ?_
      refine ⟨_,hKc,(by first|rfl|simp [bu,aI,av,az,A1.cells,au,ab ak,ab ai]),?_⟩;try simp only [aq,F59,seval,au,h0,h64,hlt0,h1,h2,g4,h5,h6n,h10,g0,h11,hch,hrl,cS]
      repeat refine ob ?_
      refine awT ?_;refine awN ?_;simp only [F59,seval,au,h0,h64,hlt0,h1,h2,g4,h5,h6n,h10,g0,h11,zB9];repeat refine ob ?_
      have hpy:pyC (ps.map (·.1)) (j:Int) (h:Int) (-1) amt=50:=by
       unfold pyC;rw [List.length_map,hpl];try rw [Int.toNat_natCast (n:=j)]
       try rw [fd hq]
       try rw [Int.toNat_natCast (n:=h)]
       try rw [fd hqh]
       have h11c:fV (qOf qh.1.cash) (qOf amt)<0:=hcl9.2 h11;rw [if_neg (by omega),if_neg (by omega),if_neg (by omega),if_neg (by omega),if_pos (by omega)]
      have hE:m9 l (g.ests.map clE)=([],50):=by
       rw [List.drop_eq_getElem_cons hkl,hXr] at hap;simp only [m9] at hap;rw [if_neg (by rw [hpy];decide),hpy] at hap;exact hap.symm
      refine be (vt 4 [.sh 5 0 [],.sh 4 0 []] (by rfl) (by show (2:Nat)≠0;decide) (by rfl) (fun κ vs h=>j9 h)) ?_;simp only [F59,seval];have hR:X=(⟨[],[]⟩,50):=by
       rw [hX];unfold rvS;rw [if_pos h0,if_neg h64,hE];try rfl
      refine awX ?_;rw [hR];try simp only [F59,seval]
      simp [au,ej]
     refine awD (scT 0 12 (scq [24,27] .nil)) [0,0,0,0,181,181,181,181,181,181,181,181,181,0] ?_;simp only [F59,seval,au,h0,h64,hlt0,h1,h2,g4,h5,h6n,h10,g0,h11,hch,hrl,cS];repeat refine ob ?_
     refine ⟨_,hKc,(by first|rfl|simp [bu,aI,av,az,A1.cells,au,ab ak,ab ai]),?_⟩;try simp only [aq,F59,seval,au,h0,h64,hlt0,h1,h2,g4,h5,h6n,h10,g0,h11,hch,hrl,cS]
     repeat refine ob ?_
     refine awF ?_;refine awK ?_;simp only [F59,seval];refine awR [] [0,0,0,0,211,211,211,211,211,211,211,211,211,0] ?_;simp only [F59,seval,au,h0,h64,hlt0,h1,h2,g4,h5,h6n,h10,g0,h11];repeat refine ob ?_
     refine awF ?_;refine awK ?_;simp only [F59,seval];refine awN ?_;simp only [F59,seval,au,h0,h64,hlt0,h1,h2,g4,h5,h6n,h10,g0,h11,hrl];repeat refine ob ?_
     have hAd:=KR (qOf q.1.cash) (qOf amt) (1000000+k*2000002) 1000000 (zq hqs (by omega)) (zq hra (by decide)) (by omega) (by decide);rw [hqc9] at hAd;have hw1:=v8 (aR 103) ps j q (enc (qOf q.1.cash+qOf amt)) hq rfl;simp only [cS] at hAd hw1;refine awD (scT 0 6 (scq [12,15,17,18] .nil)) [0,0,0,0,0,0,0,0,0,0] ?_;simp only [F59,seval,au,h0,h64,hlt0,h1,h2,g4,h5,h6n,h10,g0,h11,hcq,hrl,hw1,cS];repeat refine ob ?_
     refine ⟨_,hAd,(by first|rfl|simp [bu,aI,av,az,A1.cells,au,ab ak,ab ai]),?_⟩;try simp only [aq,F59,seval,au,h0,h64,hlt0,h1,h2,g4,h5,h6n,h10,g0,h11,hcq,hrl,hw1,cS]
     repeat refine ob ?_
     obtain ⟨p1,hp1⟩:∃p,p=ps.set j (⟨enc (qOf q.1.cash+qOf amt),q.1.claims,q.1.agrs⟩,q.2):=⟨_,rfl⟩;rw [←hp1];have hl1:p1.length=g.ests.length:=by rw [hp1,List.length_set];exact hpl
     have hr1:(eRw (aR 103) p1 0).length=g.ests.length*5:=by rw [kz,hl1]
     have hmz1:upE (ps.map (·.1)) j (adE (qOf amt))=p1.map (·.1):=by rw [hp1];exact (zp (adE _) q.2 hq).symm
     have h1j:p1[j]? =some (⟨enc (qOf q.1.cash+qOf amt),q.1.claims,q.1.agrs⟩,q.2):=by rw [hp1,List.getElem?_set_self hjl]
     have ht1:∀i r,p1[i]? =some r->tbl 103 38 ps (1000*(i+1)+103)=some ⟨r.2,38,5,r.1.claims.length,ar aA r.1.claims⟩:=by rw [hp1];exact zj _ hq (fun i r hr=>bk (by decide) hr)
     refine awN ?_;simp only [F59,seval,au,h0,h64,hlt0,h1,h2,g4,h5,h6n,h10,g0,h11];repeat refine ob ?_
     refine awT ?_;have hSb:=Ln (qOf qh.1.cash) (qOf amt) (1000000+k*2000002) 1000000 (zq hqhs (by omega)) (zq hra (by decide)) (by omega) (by decide);rw [hqhc] at hSb;have hqh1:p1[h]? =some qh:=by rw [hp1,List.getElem?_set_ne (fun e=>hne e.symm)];exact hqh
     have hch1:=mj p1 h qh hqh1;have hw2:=v8 (aR 103) p1 h qh (enc (qOf qh.1.cash-qOf amt)) hqh1 rfl;simp only [cS] at hSb hw2 hch1;refine awD (scT 0 12 (scq [24,27,29,30] .nil)) [0,0,0,0,0,0,0,0,0,0,0,0,0,0,0,0] ?_;simp only [F59,seval,au,h0,h64,hlt0,h1,h2,g4,h5,h6n,h10,g0,h11,hch1,hr1,hw2,cS];repeat refine ob ?_
     refine ⟨_,hSb,(by first|rfl|simp [bu,aI,av,az,A1.cells,au,ab ak,ab ai]),?_⟩;try simp only [aq,F59,seval,au,h0,h64,hlt0,h1,h2,g4,h5,h6n,h10,g0,h11,hch1,hr1,hw2,cS]
     repeat refine ob ?_
     obtain ⟨p2,hp2⟩:∃p,p=p1.set h (⟨enc (qOf qh.1.cash-qOf amt),qh.1.claims,qh.1.agrs⟩,qh.2):=⟨_,rfl⟩;rw [←hp2];have hl2:p2.length=g.ests.length:=by rw [hp2,List.length_set];exact hl1
     have hmz2:upE (p1.map (·.1)) h (sbE (qOf amt))=p2.map (·.1):=by rw [hp2];exact (zp (sbE _) qh.2 hqh1).symm
     have h2j:p2[j]? =some (⟨enc (qOf q.1.cash+qOf amt),q.1.claims,q.1.agrs⟩,q.2):=by rw [hp2,List.getElem?_set_ne hne];exact h1j
     have ht2:∀i r,p2[i]? =some r->tbl 103 38 ps (1000*(i+1)+103)=some ⟨r.2,38,5,r.1.claims.length,ar aA r.1.claims⟩:=by rw [hp2];exact zj _ hqh1 ht1
     refine awN ?_;simp only [F59,seval,au,h0,h64,hlt0,h1,h2,g4,h5,h6n,h10,g0,h11];repeat refine ob ?_
     refine awF ?_;refine awK ?_;simp only [F59,seval];refine awN ?_;simp only [F59,seval,au,h0,h64,hlt0,h1,h2,g4,h5,h6n,h10,g0,h11];repeat refine ob ?_
     have hpy:pyC (ps.map (·.1)) (j:Int) (h:Int) (-1) amt=0:=by
      unfold pyC;rw [List.length_map,hpl];try rw [Int.toNat_natCast (n:=j)]
      try rw [fd hq]
      try rw [Int.toNat_natCast (n:=h)]
      try rw [fd hqh]
      have h11c:¬fV (qOf qh.1.cash) (qOf amt)<0:=fun e=>h11 (hcl9.1 e)
      rw [if_neg (by omega),if_neg (by omega),if_neg (by omega),if_neg (by omega),if_neg (by omega),if_neg (by omega)]
     have hpe:zz (ps.map (·.1)) (j:Int) (h:Int) (-1) amt=p2.map (·.1):=by
      unfold zz;simp only [Int.toNat_natCast,h3n,hmz1,if_true,if_false,reduceIte,hmz2]
     have hm9:p2.map (·.1)=zz (ps.map (·.1)) (j:Int) (h:Int) (-1) amt:=by rw [hpe]
     refine ⟨_,bE (tbl 103 38 p2) [1,4,5,6,7,8,9] [4,7,272] (bR (fun i r hr=>?tt47) _),l.length-(k+1),by omega,k+1,p2,?nn47,by omega,rfl,?ap47,?ln47,?bd47,?cc47,?st47⟩;case tt47=>
      have h9:=ht2 i r hr;simp only [aj];repeat rw [if_neg (by omega)]
      exact h9
     case st47=>(simp only [F59,seval,F9,zB9];try rfl)
     case ap47=>
      rw [hm9];rw [List.drop_eq_getElem_cons hkl,hXr] at hap;simp only [m9] at hap;rw [if_pos hpy] at hap;exact hap
     case ln47=>(have h1:=congrArg List.length hm9;rw [Jz,List.length_map,List.length_map] at h1;omega)
     case cc47=>exact psC hm9 (Kk (fun e he=>by obtain ⟨q,hq,rfl⟩:=List.mem_map.1 he;exact hC9 q hq))
     case bd47=>
      have h1:=psB hm9 (J4 (K:=1000000+k*2000002) (C:=900000+k) (by omega) (by decide) hra (fun e he=>by obtain ⟨q,hq,rfl⟩:=List.mem_map.1 he;exact hB9 q hq));intro q hq;have h2:=h1 q hq;rw [show 1000000+(k+1)*2000002=1000000+k*2000002+2*(1000000+1) by omega,show 900000+(k+1)=900000+k+1 by omega];exact h2
    obtain rfl:hold= -1:=by omega
    refine awD (scT 0 12 (scq [24,27] .nil)) [0,0,0,0,181,181,181,181,181,181,181,181,181,0] ?_;simp only [F59,seval,au,h0,h64,hlt0,h1,h2,g4,h5,h6n,h10,g0];repeat refine ob ?_
    refine awF ?_;refine awK ?_;simp only [F59,seval];refine awR [] [0,0,0,0,211,211,211,211,211,211,211,211,211,0] ?_;simp only [F59,seval,au,h0,h64,hlt0,h1,h2,g4,h5,h6n,h10,g0];repeat refine ob ?_
    refine awF ?_;refine awK ?_;simp only [F59,seval];refine awN ?_;simp only [F59,seval,au,h0,h64,hlt0,h1,h2,g4,h5,h6n,h10,g0,hrl];repeat refine ob ?_
    have hAd:=KR (qOf q.1.cash) (qOf amt) (1000000+k*2000002) 1000000 (zq hqs (by omega)) (zq hra (by decide)) (by omega) (by decide);rw [hqc9] at hAd;have hw1:=v8 (aR 103) ps j q (enc (qOf q.1.cash+qOf amt)) hq rfl;simp only [cS] at hAd hw1;refine awD (scT 0 6 (scq [12,15,17,18] .nil)) [0,0,0,0,0,0,0,0,0,0] ?_;simp only [F59,seval,au,h0,h64,hlt0,h1,h2,g4,h5,h6n,h10,g0,hcq,hrl,hw1,cS];repeat refine ob ?_
    refine ⟨_,hAd,(by first|rfl|simp [bu,aI,av,az,A1.cells,au,ab ak,ab ai]),?_⟩;try simp only [aq,F59,seval,au,h0,h64,hlt0,h1,h2,g4,h5,h6n,h10,g0,hcq,hrl,hw1,cS]
    repeat refine ob ?_
    obtain ⟨p1,hp1⟩:∃p,p=ps.set j (⟨enc (qOf q.1.cash+qOf amt),q.1.claims,q.1.agrs⟩,q.2):=⟨_,rfl⟩;rw [←hp1];have hl1:p1.length=g.ests.length:=by rw [hp1,List.length_set];exact hpl
    have hr1:(eRw (aR 103) p1 0).length=g.ests.length*5:=by rw [kz,hl1]
    have hmz1:upE (ps.map (·.1)) j (adE (qOf amt))=p1.map (·.1):=by rw [hp1];exact (zp (adE _) q.2 hq).symm
    have h1j:p1[j]? =some (⟨enc (qOf q.1.cash+qOf amt),q.1.claims,q.1.agrs⟩,q.2):=by rw [hp1,List.getElem?_set_self hjl]
    have ht1:∀i r,p1[i]? =some r->tbl 103 38 ps (1000*(i+1)+103)=some ⟨r.2,38,5,r.1.claims.length,ar aA r.1.claims⟩:=by rw [hp1];exact zj _ hq (fun i r hr=>bk (by decide) hr)
    refine awN ?_;simp only [F59,seval,au,h0,h64,hlt0,h1,h2,g4,h5,h6n,h10,g0];repeat refine ob ?_
    refine awF ?_;refine awK ?_;simp only [F59,seval];refine awN ?_;simp only [F59,seval,au,h0,h64,hlt0,h1,h2,g4,h5,h6n,h10,g0];repeat refine ob ?_
    refine awF ?_;refine awK ?_;simp only [F59,seval];refine awN ?_;simp only [F59,seval,au,h0,h64,hlt0,h1,h2,g4,h5,h6n,h10,g0];repeat refine ob ?_
    have hpy:pyC (ps.map (·.1)) (j:Int) (-1) (-1) amt=0:=by
     unfold pyC;rw [List.length_map,hpl];try rw [Int.toNat_natCast (n:=j)]
     try rw [fd hq]
     rw [if_neg (by omega),if_neg (by omega),if_neg (by omega),if_neg (by omega),if_neg (by omega),if_neg (by omega)]
    have hpe:zz (ps.map (·.1)) (j:Int) (-1) (-1) amt=p1.map (·.1):=by
     unfold zz;simp only [Int.toNat_natCast,hmz1,if_true,if_false,reduceIte]
    have hm9:p1.map (·.1)=zz (ps.map (·.1)) (j:Int) (-1) (-1) amt:=by rw [hpe]
    refine ⟨_,bE (tbl 103 38 p1) [1,4,5,6,7,8,9] [4,7,272] (bR (fun i r hr=>?tt55) _),l.length-(k+1),by omega,k+1,p1,?nn55,by omega,rfl,?ap55,?ln55,?bd55,?cc55,?st55⟩;case tt55=>
     have h9:=ht1 i r hr;simp only [aj];repeat rw [if_neg (by omega)]
     exact h9
    case st55=>(simp only [F59,seval,F9,zB9];try rfl)
    case ap55=>
     rw [hm9];rw [List.drop_eq_getElem_cons hkl,hXr] at hap;simp only [m9] at hap;rw [if_pos hpy] at hap;exact hap
    case ln55=>(have h1:=congrArg List.length hm9;rw [Jz,List.length_map,List.length_map] at h1;omega)
    case cc55=>exact psC hm9 (Kk (fun e he=>by obtain ⟨q,hq,rfl⟩:=List.mem_map.1 he;exact hC9 q hq))
    case bd55=>
     have h1:=psB hm9 (J4 (K:=1000000+k*2000002) (C:=900000+k) (by omega) (by decide) hra (fun e he=>by obtain ⟨q,hq,rfl⟩:=List.mem_map.1 he;exact hB9 q hq));intro q hq;have h2:=h1 q hq;rw [show 1000000+(k+1)*2000002=1000000+k*2000002+2*(1000000+1) by omega,show 900000+(k+1)=900000+k+1 by omega];exact h2
   have h7n:(rank= -1)=False:=eq_false h7;by_cases h8:rank<2
   ·refine awR [] [0,0,0,0,145,145,145,145,152,152,152,145,0] ?_;simp only [F59,seval,au,h0,h64,hlt0,h1,h2,g4,h5,h6n,h7n,h8];repeat refine ob ?_
    refine awT ?_;refine awN ?_;simp only [F59,seval,au,h0,h64,hlt0,h1,h2,g4,h5,h6n,h7n,h8,zB9];repeat refine ob ?_
    have hpy:pyC (ps.map (·.1)) (j:Int) hold rank amt=1:=by
     unfold pyC;rw [List.length_map,hpl];try rw [Int.toNat_natCast (n:=j)]
     try rw [fd hq]
     rw [if_neg (by omega),if_neg (by omega),if_pos (by omega)]
    have hE:m9 l (g.ests.map clE)=([],1):=by
     rw [List.drop_eq_getElem_cons hkl,hXr] at hap;simp only [m9] at hap;rw [if_neg (by rw [hpy];decide),hpy] at hap;exact hap.symm
    refine be (vt 4 [.sh 5 0 [],.sh 4 0 []] (by rfl) (by show (2:Nat)≠0;decide) (by rfl) (fun κ vs h=>j9 h)) ?_;simp only [F59,seval];have hR:X=(⟨[],[]⟩,1):=by
     rw [hX];unfold rvS;rw [if_pos h0,if_neg h64,hE];try rfl
    refine awX ?_;rw [hR];try simp only [F59,seval]
    simp [au,ej]
   by_cases h9:7<rank
   ·refine awR [] [0,0,0,0,145,145,145,145,152,152,152,145,0] ?_;simp only [F59,seval,au,h0,h64,hlt0,h1,h2,g4,h5,h6n,h7n,h8,h9];repeat refine ob ?_
    refine awT ?_;refine awN ?_;simp only [F59,seval,au,h0,h64,hlt0,h1,h2,g4,h5,h6n,h7n,h8,h9,zB9];repeat refine ob ?_
    have hpy:pyC (ps.map (·.1)) (j:Int) hold rank amt=1:=by
     unfold pyC;rw [List.length_map,hpl];try rw [Int.toNat_natCast (n:=j)]
     try rw [fd hq]
     rw [if_neg (by omega),if_neg (by omega),if_pos (by omega)]
    have hE:m9 l (g.ests.map clE)=([],1):=by
     rw [List.drop_eq_getElem_cons hkl,hXr] at hap;simp only [m9] at hap;rw [if_neg (by rw [hpy];decide),hpy] at hap;exact hap.symm
    refine be (vt 4 [.sh 5 0 [],.sh 4 0 []] (by rfl) (by show (2:Nat)≠0;decide) (by rfl) (fun κ vs h=>j9 h)) ?_;simp only [F59,seval];have hR:X=(⟨[],[]⟩,1):=by
     rw [hX];unfold rvS;rw [if_pos h0,if_neg h64,hE];try rfl
    refine awX ?_;rw [hR];try simp only [F59,seval]
    simp [au,ej]
   refine awR [] [0,0,0,0,145,145,145,145,152,152,152,145,0] ?_;simp only [F59,seval,au,h0,h64,hlt0,h1,h2,g4,h5,h6n,h7n,h8,h9];repeat refine ob ?_
   refine awF ?_;refine awK ?_;simp only [F59,seval];by_cases h10:aL (qOf amt)<0
   ·have hSg:=JU (enc (qOf amt));rw [lp] at hSg;simp only [cS] at hSg;refine awN ?_;simp only [F59,seval,au,h0,h64,hlt0,h1,h2,g4,h5,h6n,h7n,h8,h9,h10,cS];repeat refine ob ?_
    refine ⟨_,hSg,(by first|rfl|simp [bu,aI,av,az,A1.cells,au,ab ak,ab ai]),?_⟩;try simp only [aq,F59,seval,au,h0,h64,hlt0,h1,h2,g4,h5,h6n,h7n,h8,h9,h10,cS]
    repeat refine ob ?_
    refine awT ?_;refine awN ?_;simp only [F59,seval,au,h0,h64,hlt0,h1,h2,g4,h5,h6n,h7n,h8,h9,h10,zB9];repeat refine ob ?_
    have hpy:pyC (ps.map (·.1)) (j:Int) hold rank amt=7:=by
     unfold pyC;rw [List.length_map,hpl];try rw [Int.toNat_natCast (n:=j)]
     try rw [fd hq]
     rw [if_neg (by omega),if_neg (by omega),if_neg (by omega),if_pos (by omega)]
    have hE:m9 l (g.ests.map clE)=([],7):=by
     rw [List.drop_eq_getElem_cons hkl,hXr] at hap;simp only [m9] at hap;rw [if_neg (by rw [hpy];decide),hpy] at hap;exact hap.symm
    refine be (vt 4 [.sh 5 0 [],.sh 4 0 []] (by rfl) (by show (2:Nat)≠0;decide) (by rfl) (fun κ vs h=>j9 h)) ?_;simp only [F59,seval];have hR:X=(⟨[],[]⟩,7):=by
     rw [hX];unfold rvS;rw [if_pos h0,if_neg h64,hE];try rfl
    refine awX ?_;rw [hR];try simp only [F59,seval]
    simp [au,ej]
   have hSg:=JU (enc (qOf amt));rw [lp] at hSg;simp only [cS] at hSg;refine awN ?_;simp only [F59,seval,au,h0,h64,hlt0,h1,h2,g4,h5,h6n,h7n,h8,h9,h10,cS];repeat refine ob ?_
   refine ⟨_,hSg,(by first|rfl|simp [bu,aI,av,az,A1.cells,au,ab ak,ab ai]),?_⟩;try simp only [aq,F59,seval,au,h0,h64,hlt0,h1,h2,g4,h5,h6n,h7n,h8,h9,h10,cS]
   repeat refine ob ?_
   refine awF ?_;refine awK ?_;simp only [F59,seval];by_cases g0:0<=hold
   ·obtain ⟨h,rfl⟩:∃h:Nat,hold=(h:Int):=⟨hold.toNat,by omega⟩;have hhl:h<ps.length:=by omega
    have hne:h≠j:=by omega
    obtain ⟨qh,hqh⟩:∃q,ps[h]? =some q:=⟨_,List.getElem?_eq_getElem hhl⟩;have hch:=mj ps h qh hqh;have hqhm:=List.mem_of_getElem? hqh;have hqhs:=(hB9 qh hqhm).1;have hqhc:=hC9 qh hqhm;unfold rvC at hqhc;have hKc:=LQ (qOf qh.1.cash) (qOf amt) (1000000+k*2000002) 1000000 (zq hqhs (by omega)) (zq hra (by decide)) (by omega) (by decide);rw [hqhc] at hKc;simp only [cS] at hch hKc;have hcl9:=Lt (qOf qh.1.cash) (qOf amt);have h3n:((h:Int)= -1)=False:=eq_false (by omega);by_cases h11:qOf qh.1.cash<qOf amt
    ·refine awD (scT 0 12 (scq [24,27] .nil)) [0,0,0,0,181,181,181,181,181,181,181,181,181,0] ?_;simp only [F59,seval,au,h0,h64,hlt0,h1,h2,g4,h5,h6n,h7n,h8,h9,h10,g0,h11,hch,hrl,cS];repeat refine ob ?_
     refine ⟨_,hKc,(by first|rfl|simp [bu,aI,av,az,A1.cells,au,ab ak,ab ai]),?_⟩;try simp only [aq,F59,seval,au,h0,h64,hlt0,h1,h2,g4,h5,h6n,h7n,h8,h9,h10,g0,h11,hch,hrl,cS]
     repeat refine ob ?_
     refine awT ?_;refine awN ?_;simp only [F59,seval,au,h0,h64,hlt0,h1,h2,g4,h5,h6n,h7n,h8,h9,h10,g0,h11,zB9];repeat refine ob ?_
     have hpy:pyC (ps.map (·.1)) (j:Int) (h:Int) rank amt=50:=by
      unfold pyC;rw [List.length_map,hpl];try rw [Int.toNat_natCast (n:=j)]
      try rw [fd hq]
      try rw [Int.toNat_natCast (n:=h)]
      try rw [fd hqh]
      have h11c:fV (qOf qh.1.cash) (qOf amt)<0:=hcl9.2 h11;rw [if_neg (by omega),if_neg (by omega),if_neg (by omega),if_neg (by omega),if_pos (by omega)]
     have hE:m9 l (g.ests.map clE)=([],50):=by
      rw [List.drop_eq_getElem_cons hkl,hXr] at hap;simp only [m9] at hap;rw [if_neg (by rw [hpy];decide),hpy] at hap;exact hap.symm
     refine be (vt 4 [.sh 5 0 [],.sh 4 0 []] (by rfl) (by show (2:Nat)≠0;decide) (by rfl) (fun κ vs h=>j9 h)) ?_;simp only [F59,seval];have hR:X=(⟨[],[]⟩,50):=by
      rw [hX];unfold rvS;rw [if_pos h0,if_neg h64,hE];try rfl
     refine awX ?_;rw [hR];try simp only [F59,seval]
     simp [au,ej]
    refine awD (scT 0 12 (scq [24,27] .nil)) [0,0,0,0,181,181,181,181,181,181,181,181,181,0] ?_;simp only [F59,seval,au,h0,h64,hlt0,h1,h2,g4,h5,h6n,h7n,h8,h9,h10,g0,h11,hch,hrl,cS];repeat refine ob ?_
    refine ⟨_,hKc,(by first|rfl|simp [bu,aI,av,az,A1.cells,au,ab ak,ab ai]),?_⟩;try simp only [aq,F59,seval,au,h0,h64,hlt0,h1,h2,g4,h5,h6n,h7n,h8,h9,h10,g0,h11,hch,hrl,cS]
    repeat refine ob ?_
    refine awF ?_;refine awK ?_;simp only [F59,seval];by_cases h12:(24:Int)<=(q.1.claims.length:Int)
    ·refine awR [] [0,0,0,0,211,211,211,211,211,211,211,211,211,0] ?_;simp only [F59,seval,au,h0,h64,hlt0,h1,h2,g4,h5,h6n,h7n,h8,h9,h10,g0,h11,h12,hget,F9,htb,hrl];repeat refine ob ?_
     refine awT ?_;refine awN ?_;simp only [F59,seval,au,h0,h64,hlt0,h1,h2,g4,h5,h6n,h7n,h8,h9,h10,g0,h11,h12,zB9];repeat refine ob ?_
     have hpy:pyC (ps.map (·.1)) (j:Int) (h:Int) rank amt=2:=by
      unfold pyC;rw [List.length_map,hpl];try rw [Int.toNat_natCast (n:=j)]
      try rw [fd hq]
      try rw [Int.toNat_natCast (n:=h)]
      try rw [fd hqh]
      have h11c:¬fV (qOf qh.1.cash) (qOf amt)<0:=fun e=>h11 (hcl9.1 e)
      rw [if_neg (by omega),if_neg (by omega),if_neg (by omega),if_neg (by omega),if_neg (by omega),if_pos (by omega)]
     have hE:m9 l (g.ests.map clE)=([],2):=by
      rw [List.drop_eq_getElem_cons hkl,hXr] at hap;simp only [m9] at hap;rw [if_neg (by rw [hpy];decide),hpy] at hap;exact hap.symm
     refine be (vt 4 [.sh 5 0 [],.sh 4 0 []] (by rfl) (by show (2:Nat)≠0;decide) (by rfl) (fun κ vs h=>j9 h)) ?_;simp only [F59,seval];have hR:X=(⟨[],[]⟩,2):=by
      rw [hX];unfold rvS;rw [if_pos h0,if_neg h64,hE];try rfl
     refine awX ?_;rw [hR];try simp only [F59,seval]
     simp [au,ej]
    refine awR [] [0,0,0,0,211,211,211,211,211,211,211,211,211,0] ?_;simp only [F59,seval,au,h0,h64,hlt0,h1,h2,g4,h5,h6n,h7n,h8,h9,h10,g0,h11,h12,hget,F9,htb,hrl];repeat refine ob ?_
    refine awF ?_;refine awK ?_;simp only [F59,seval];refine awN ?_;simp only [F59,seval,au,h0,h64,hlt0,h1,h2,g4,h5,h6n,h7n,h8,h9,h10,g0,h11,h12,hrl];repeat refine ob ?_
    have hAd:=KR (qOf q.1.cash) (qOf amt) (1000000+k*2000002) 1000000 (zq hqs (by omega)) (zq hra (by decide)) (by omega) (by decide);rw [hqc9] at hAd;have hw1:=v8 (aR 103) ps j q (enc (qOf q.1.cash+qOf amt)) hq rfl;simp only [cS] at hAd hw1;refine awD (scT 0 6 (scq [12,15,17,18] .nil)) [0,0,0,0,0,0,0,0,0,0] ?_;simp only [F59,seval,au,h0,h64,hlt0,h1,h2,g4,h5,h6n,h7n,h8,h9,h10,g0,h11,h12,hcq,hrl,hw1,cS];repeat refine ob ?_
    refine ⟨_,hAd,(by first|rfl|simp [bu,aI,av,az,A1.cells,au,ab ak,ab ai]),?_⟩;try simp only [aq,F59,seval,au,h0,h64,hlt0,h1,h2,g4,h5,h6n,h7n,h8,h9,h10,g0,h11,h12,hcq,hrl,hw1,cS]
    repeat refine ob ?_
    obtain ⟨p1,hp1⟩:∃p,p=ps.set j (⟨enc (qOf q.1.cash+qOf amt),q.1.claims,q.1.agrs⟩,q.2):=⟨_,rfl⟩;rw [←hp1];have hl1:p1.length=g.ests.length:=by rw [hp1,List.length_set];exact hpl
    have hr1:(eRw (aR 103) p1 0).length=g.ests.length*5:=by rw [kz,hl1]
    have hmz1:upE (ps.map (·.1)) j (adE (qOf amt))=p1.map (·.1):=by rw [hp1];exact (zp (adE _) q.2 hq).symm
    have h1j:p1[j]? =some (⟨enc (qOf q.1.cash+qOf amt),q.1.claims,q.1.agrs⟩,q.2):=by rw [hp1,List.getElem?_set_self hjl]
    have ht1:∀i r,p1[i]? =some r->tbl 103 38 ps (1000*(i+1)+103)=some ⟨r.2,38,5,r.1.claims.length,ar aA r.1.claims⟩:=by rw [hp1];exact zj _ hq (fun i r hr=>bk (by decide) hr)
    refine awN ?_;simp only [F59,seval,au,h0,h64,hlt0,h1,h2,g4,h5,h6n,h7n,h8,h9,h10,g0,h11,h12];repeat refine ob ?_
    refine awT ?_;have hSb:=Ln (qOf qh.1.cash) (qOf amt) (1000000+k*2000002) 1000000 (zq hqhs (by omega)) (zq hra (by decide)) (by omega) (by decide);rw [hqhc] at hSb;have hqh1:p1[h]? =some qh:=by rw [hp1,List.getElem?_set_ne (fun e=>hne e.symm)];exact hqh
    have hch1:=mj p1 h qh hqh1;have hw2:=v8 (aR 103) p1 h qh (enc (qOf qh.1.cash-qOf amt)) hqh1 rfl;simp only [cS] at hSb hw2 hch1;refine awD (scT 0 12 (scq [24,27,29,30] .nil)) [0,0,0,0,0,0,0,0,0,0,0,0,0,0,0,0] ?_;simp only [F59,seval,au,h0,h64,hlt0,h1,h2,g4,h5,h6n,h7n,h8,h9,h10,g0,h11,h12,hch1,hr1,hw2,cS];repeat refine ob ?_
    refine ⟨_,hSb,(by first|rfl|simp [bu,aI,av,az,A1.cells,au,ab ak,ab ai]),?_⟩;try simp only [aq,F59,seval,au,h0,h64,hlt0,h1,h2,g4,h5,h6n,h7n,h8,h9,h10,g0,h11,h12,hch1,hr1,hw2,cS]
    repeat refine ob ?_
    obtain ⟨p2,hp2⟩:∃p,p=p1.set h (⟨enc (qOf qh.1.cash-qOf amt),qh.1.claims,qh.1.agrs⟩,qh.2):=⟨_,rfl⟩;rw [←hp2];have hl2:p2.length=g.ests.length:=by rw [hp2,List.length_set];exact hl1
    have hmz2:upE (p1.map (·.1)) h (sbE (qOf amt))=p2.map (·.1):=by rw [hp2];exact (zp (sbE _) qh.2 hqh1).symm
    have h2j:p2[j]? =some (⟨enc (qOf q.1.cash+qOf amt),q.1.claims,q.1.agrs⟩,q.2):=by rw [hp2,List.getElem?_set_ne hne];exact h1j
    have ht2:∀i r,p2[i]? =some r->tbl 103 38 ps (1000*(i+1)+103)=some ⟨r.2,38,5,r.1.claims.length,ar aA r.1.claims⟩:=by rw [hp2];exact zj _ hqh1 ht1
    refine awN ?_;simp only [F59,seval,au,h0,h64,hlt0,h1,h2,g4,h5,h6n,h7n,h8,h9,h10,g0,h11,h12];repeat refine ob ?_
    refine awT ?_;have hgz:=pz (aR 103) p2 j _ h2j;have hfz:aR 103 j (⟨enc (qOf q.1.cash+qOf amt),q.1.claims,q.1.agrs⟩,q.2)= .own b9 q.2 q.1.claims.length 5:=by rw [hb9];rfl
    rw [hfz] at hgz;have hrz:(eRw (aR 103) p2 0).length=g.ests.length*5:=by rw [kz,hl2]
    have hs1:∀c:C,spl (eRw (aR 103) p2 0) (j*5+3) [c]=(eRw (aR 103) p2 0).set (j*5+3) c:=fun c=>bY _ _ _ (by rw [hrz];omega)
    have hqc:=(hB9 q hqm).2;have hnc:ar aA q.1.claims++[.lit (.int .i64 (h:Int)),.lit (.int .i64 rank),.lit (.bool (enc (qOf amt)).neg),.lit (.string (enc (qOf amt)).num),.lit (.string (enc (qOf amt)).den)]=ar aA (q.1.claims++[⟨(h:Int),rank,clR amt⟩]):=by rw [aV];simp [aY,ej,aA,clR]
    refine awD (scT 0 11 (scq [22,24,27,29,30] .nil)) [0,0,0,0,0,0,0,0,0,0,0,0,0,0,0,0] ?_;simp only [F59,seval,au,h0,h64,hlt0,h1,h2,g4,h5,h6n,h7n,h8,h9,h10,g0,h11,h12,hgz,F9,htb,hrz,hs1,hnc,cS];repeat refine ob ?_
    refine JK 163 b9 272 (j*5+3) (by rfl) (by rfl) (by show (List.set _ _ _)[_]? =_;exact List.getElem?_set_self (by rw [hrz];omega)) (by decide) (by omega) (by show (5:Nat)≠0;decide) (by show (5:Nat)≠0;decide) rfl (fun t9=>?_);have hcm:((eRw (aR 103) p2 0).set (j*5+3) (.own b9 t9 (q.1.claims.length+1) 5))=eRw (aR 103) (p2.set j (⟨enc (qOf q.1.cash+qOf amt),(q.1.claims++[⟨(h:Int),rank,clR amt⟩]),q.1.agrs⟩,t9)) 0:=by
     have h8:=JV p2 j _ (q.1.claims++[⟨(h:Int),rank,clR amt⟩]) t9 h2j;rw [List.length_append] at h8;rw [hb9];exact h8
    simp only [F59,seval,List.set_set,hcm];refine awN ?_;simp only [F59,seval,au,h0,h64,hlt0,h1,h2,g4,h5,h6n,h7n,h8,h9,h10,g0,h11,h12];repeat refine ob ?_
    have hpy:pyC (ps.map (·.1)) (j:Int) (h:Int) rank amt=0:=by
     unfold pyC;rw [List.length_map,hpl];try rw [Int.toNat_natCast (n:=j)]
     try rw [fd hq]
     try rw [Int.toNat_natCast (n:=h)]
     try rw [fd hqh]
     have h11c:¬fV (qOf qh.1.cash) (qOf amt)<0:=fun e=>h11 (hcl9.1 e)
     rw [if_neg (by omega),if_neg (by omega),if_neg (by omega),if_neg (by omega),if_neg (by omega),if_neg (by omega)]
    have hpe:zz (ps.map (·.1)) (j:Int) (h:Int) rank amt=upE (p2.map (·.1)) j (apE ⟨(h:Int),rank,clR amt⟩):=by
     unfold zz;simp only [Int.toNat_natCast,h3n,h7n,hmz1,if_true,if_false,reduceIte,hmz2]
    have hm9:(p2.set j (⟨enc (qOf q.1.cash+qOf amt),(q.1.claims++[⟨(h:Int),rank,clR amt⟩]),q.1.agrs⟩,t9)).map (·.1)=zz (ps.map (·.1)) (j:Int) (h:Int) rank amt:=by rw [hpe];exact zp (apE _) t9 h2j
    refine ⟨_,bE (tbl 103 38 (p2.set j (⟨enc (qOf q.1.cash+qOf amt),(q.1.claims++[⟨(h:Int),rank,clR amt⟩]),q.1.agrs⟩,t9))) [1,4,5,6,7,8,9] [4,7,272] (bR (fun i r hr=>?tt82) _),l.length-(k+1),by omega,k+1,(p2.set j (⟨enc (qOf q.1.cash+qOf amt),(q.1.claims++[⟨(h:Int),rank,clR amt⟩]),q.1.agrs⟩,t9)),?nn82,by omega,rfl,?ap82,?ln82,?bd82,?cc82,?st82⟩;case tt82=>
     by_cases hij:i=j
     ·subst hij;rw [List.getElem?_set_self (by omega)] at hr;obtain rfl:=Option.some.inj hr;rw [←hb9];simp only [aj];repeat (first|rw [if_pos rfl]|rw [if_neg (by omega)])
      simp
     rw [List.getElem?_set_ne (fun e=>hij e.symm)] at hr;have h9:=ht2 i r hr;simp only [aj];repeat rw [if_neg (by omega)]
     exact h9
    case st82=>(simp only [F59,seval,F9,zB9];try rfl)
    case ap82=>
     rw [hm9];rw [List.drop_eq_getElem_cons hkl,hXr] at hap;simp only [m9] at hap;rw [if_pos hpy] at hap;exact hap
    case ln82=>(have h1:=congrArg List.length hm9;rw [Jz,List.length_map,List.length_map] at h1;omega)
    case cc82=>exact psC hm9 (Kk (fun e he=>by obtain ⟨q,hq,rfl⟩:=List.mem_map.1 he;exact hC9 q hq))
    case bd82=>
     have h1:=psB hm9 (J4 (K:=1000000+k*2000002) (C:=900000+k) (by omega) (by decide) hra (fun e he=>by obtain ⟨q,hq,rfl⟩:=List.mem_map.1 he;exact hB9 q hq));intro q hq;have h2:=h1 q hq;rw [show 1000000+(k+1)*2000002=1000000+k*2000002+2*(1000000+1) by omega,show 900000+(k+1)=900000+k+1 by omega];exact h2
   obtain rfl:hold= -1:=by omega
   refine awD (scT 0 12 (scq [24,27] .nil)) [0,0,0,0,181,181,181,181,181,181,181,181,181,0] ?_;simp only [F59,seval,au,h0,h64,hlt0,h1,h2,g4,h5,h6n,h7n,h8,h9,h10,g0];repeat refine ob ?_
   refine awF ?_;refine awK ?_;simp only [F59,seval];by_cases h12:(24:Int)<=(q.1.claims.length:Int)
   ·refine awR [] [0,0,0,0,211,211,211,211,211,211,211,211,211,0] ?_;simp only [F59,seval,au,h0,h64,hlt0,h1,h2,g4,h5,h6n,h7n,h8,h9,h10,g0,h12,hget,F9,htb,hrl];repeat refine ob ?_
    refine awT ?_;refine awN ?_;simp only [F59,seval,au,h0,h64,hlt0,h1,h2,g4,h5,h6n,h7n,h8,h9,h10,g0,h12,zB9];repeat refine ob ?_
    have hpy:pyC (ps.map (·.1)) (j:Int) (-1) rank amt=2:=by
     unfold pyC;rw [List.length_map,hpl];try rw [Int.toNat_natCast (n:=j)]
     try rw [fd hq]
     rw [if_neg (by omega),if_neg (by omega),if_neg (by omega),if_neg (by omega),if_neg (by omega),if_pos (by omega)]
    have hE:m9 l (g.ests.map clE)=([],2):=by
     rw [List.drop_eq_getElem_cons hkl,hXr] at hap;simp only [m9] at hap;rw [if_neg (by rw [hpy];decide),hpy] at hap;exact hap.symm
    refine be (vt 4 [.sh 5 0 [],.sh 4 0 []] (by rfl) (by show (2:Nat)≠0;decide) (by rfl) (fun κ vs h=>j9 h)) ?_;simp only [F59,seval];have hR:X=(⟨[],[]⟩,2):=by
     rw [hX];unfold rvS;rw [if_pos h0,if_neg h64,hE];try rfl
    refine awX ?_;rw [hR];try simp only [F59,seval]
    simp [au,ej]
   refine awR [] [0,0,0,0,211,211,211,211,211,211,211,211,211,0] ?_;simp only [F59,seval,au,h0,h64,hlt0,h1,h2,g4,h5,h6n,h7n,h8,h9,h10,g0,h12,hget,F9,htb,hrl];repeat refine ob ?_
   refine awF ?_;refine awK ?_;simp only [F59,seval];refine awN ?_;simp only [F59,seval,au,h0,h64,hlt0,h1,h2,g4,h5,h6n,h7n,h8,h9,h10,g0,h12,hrl];repeat refine ob ?_
   have hAd:=KR (qOf q.1.cash) (qOf amt) (1000000+k*2000002) 1000000 (zq hqs (by omega)) (zq hra (by decide)) (by omega) (by decide);rw [hqc9] at hAd;have hw1:=v8 (aR 103) ps j q (enc (qOf q.1.cash+qOf amt)) hq rfl;simp only [cS] at hAd hw1;refine awD (scT 0 6 (scq [12,15,17,18] .nil)) [0,0,0,0,0,0,0,0,0,0] ?_;simp only [F59,seval,au,h0,h64,hlt0,h1,h2,g4,h5,h6n,h7n,h8,h9,h10,g0,h12,hcq,hrl,hw1,cS];repeat refine ob ?_
   refine ⟨_,hAd,(by first|rfl|simp [bu,aI,av,az,A1.cells,au,ab ak,ab ai]),?_⟩;try simp only [aq,F59,seval,au,h0,h64,hlt0,h1,h2,g4,h5,h6n,h7n,h8,h9,h10,g0,h12,hcq,hrl,hw1,cS]
   repeat refine ob ?_
   obtain ⟨p1,hp1⟩:∃p,p=ps.set j (⟨enc (qOf q.1.cash+qOf amt),q.1.claims,q.1.agrs⟩,q.2):=⟨_,rfl⟩;rw [←hp1];have hl1:p1.length=g.ests.length:=by rw [hp1,List.length_set];exact hpl
   have hr1:(eRw (aR 103) p1 0).length=g.ests.length*5:=by rw [kz,hl1]
   have hmz1:upE (ps.map (·.1)) j (adE (qOf amt))=p1.map (·.1):=by rw [hp1];exact (zp (adE _) q.2 hq).symm
   have h1j:p1[j]? =some (⟨enc (qOf q.1.cash+qOf amt),q.1.claims,q.1.agrs⟩,q.2):=by rw [hp1,List.getElem?_set_self hjl]
   have ht1:∀i r,p1[i]? =some r->tbl 103 38 ps (1000*(i+1)+103)=some ⟨r.2,38,5,r.1.claims.length,ar aA r.1.claims⟩:=by rw [hp1];exact zj _ hq (fun i r hr=>bk (by decide) hr)
   refine awN ?_;simp only [F59,seval,au,h0,h64,hlt0,h1,h2,g4,h5,h6n,h7n,h8,h9,h10,g0,h12];repeat refine ob ?_
   refine awF ?_;refine awK ?_;simp only [F59,seval];refine awN ?_;simp only [F59,seval,au,h0,h64,hlt0,h1,h2,g4,h5,h6n,h7n,h8,h9,h10,g0,h12];repeat refine ob ?_
   refine awT ?_;have hgz:=pz (aR 103) p1 j _ h1j;have hfz:aR 103 j (⟨enc (qOf q.1.cash+qOf amt),q.1.claims,q.1.agrs⟩,q.2)= .own b9 q.2 q.1.claims.length 5:=by rw [hb9];rfl
   rw [hfz] at hgz;have hrz:(eRw (aR 103) p1 0).length=g.ests.length*5:=by rw [kz,hl1]
   have hs1:∀c:C,spl (eRw (aR 103) p1 0) (j*5+3) [c]=(eRw (aR 103) p1 0).set (j*5+3) c:=fun c=>bY _ _ _ (by rw [hrz];omega)
   have hqc:=(hB9 q hqm).2;have hnc:ar aA q.1.claims++[.lit (.int .i64 (-1)),.lit (.int .i64 rank),.lit (.bool (enc (qOf amt)).neg),.lit (.string (enc (qOf amt)).num),.lit (.string (enc (qOf amt)).den)]=ar aA (q.1.claims++[⟨(-1),rank,clR amt⟩]):=by rw [aV];simp [aY,ej,aA,clR]
   refine awD (scT 0 11 (scq [22,24,27,29,30] .nil)) [0,0,0,0,0,0,0,0,0,0,0,0,0,0,0,0] ?_;simp only [F59,seval,au,h0,h64,hlt0,h1,h2,g4,h5,h6n,h7n,h8,h9,h10,g0,h12,hgz,F9,htb,hrz,hs1,hnc,cS];repeat refine ob ?_
   refine JK 163 b9 272 (j*5+3) (by rfl) (by rfl) (by show (List.set _ _ _)[_]? =_;exact List.getElem?_set_self (by rw [hrz];omega)) (by decide) (by omega) (by show (5:Nat)≠0;decide) (by show (5:Nat)≠0;decide) rfl (fun t9=>?_);have hcm:((eRw (aR 103) p1 0).set (j*5+3) (.own b9 t9 (q.1.claims.length+1) 5))=eRw (aR 103) (p1.set j (⟨enc (qOf q.1.cash+qOf amt),(q.1.claims++[⟨(-1),rank,clR amt⟩]),q.1.agrs⟩,t9)) 0:=by
    have h8:=JV p1 j _ (q.1.claims++[⟨(-1),rank,clR amt⟩]) t9 h1j;rw [List.length_append] at h8;rw [hb9];exact h8
   simp only [F59,seval,List.set_set,hcm];refine awN ?_;simp only [F59,seval,au,h0,h64,hlt0,h1,h2,g4,h5,h6n,h7n,h8,h9,h10,g0,h12];repeat refine ob ?_
   have hpy:pyC (ps.map (·.1)) (j:Int) (-1) rank amt=0:=by
    unfold pyC;rw [List.length_map,hpl];try rw [Int.toNat_natCast (n:=j)]
    try rw [fd hq]
    rw [if_neg (by omega),if_neg (by omega),if_neg (by omega),if_neg (by omega),if_neg (by omega),if_neg (by omega)]
   have hpe:zz (ps.map (·.1)) (j:Int) (-1) rank amt=upE (p1.map (·.1)) j (apE ⟨(-1),rank,clR amt⟩):=by
    unfold zz;simp only [Int.toNat_natCast,h7n,hmz1,if_true,if_false,reduceIte]
   have hm9:(p1.set j (⟨enc (qOf q.1.cash+qOf amt),(q.1.claims++[⟨(-1),rank,clR amt⟩]),q.1.agrs⟩,t9)).map (·.1)=zz (ps.map (·.1)) (j:Int) (-1) rank amt:=by rw [hpe];exact zp (apE _) t9 h1j
   refine ⟨_,bE (tbl 103 38 (p1.set j (⟨enc (qOf q.1.cash+qOf amt),(q.1.claims++[⟨(-1),rank,clR amt⟩]),q.1.agrs⟩,t9))) [1,4,5,6,7,8,9] [4,7,272] (bR (fun i r hr=>?tt94) _),l.length-(k+1),by omega,k+1,(p1.set j (⟨enc (qOf q.1.cash+qOf amt),(q.1.claims++[⟨(-1),rank,clR amt⟩]),q.1.agrs⟩,t9)),?nn94,by omega,rfl,?ap94,?ln94,?bd94,?cc94,?st94⟩;case tt94=>
    by_cases hij:i=j
    ·subst hij;rw [List.getElem?_set_self (by omega)] at hr;obtain rfl:=Option.some.inj hr;rw [←hb9];simp only [aj];repeat (first|rw [if_pos rfl]|rw [if_neg (by omega)])
     simp
    rw [List.getElem?_set_ne (fun e=>hij e.symm)] at hr;have h9:=ht1 i r hr;simp only [aj];repeat rw [if_neg (by omega)]
    exact h9
   case st94=>(simp only [F59,seval,F9,zB9];try rfl)
   case ap94=>
    rw [hm9];rw [List.drop_eq_getElem_cons hkl,hXr] at hap;simp only [m9] at hap;rw [if_pos hpy] at hap;exact hap
   case ln94=>(have h1:=congrArg List.length hm9;rw [Jz,List.length_map,List.length_map] at h1;omega)
   case cc94=>exact psC hm9 (Kk (fun e he=>by obtain ⟨q,hq,rfl⟩:=List.mem_map.1 he;exact hC9 q hq))
   case bd94=>
    have h1:=psB hm9 (J4 (K:=1000000+k*2000002) (C:=900000+k) (by omega) (by decide) hra (fun e he=>by obtain ⟨q,hq,rfl⟩:=List.mem_map.1 he;exact hB9 q hq));intro q hq;have h2:=h1 q hq;rw [show 1000000+(k+1)*2000002=1000000+k*2000002+2*(1000000+1) by omega,show 900000+(k+1)=900000+k+1 by omega];exact h2
  refine awN ?_;simp only [F59,seval,au,h0,h64,hlt0];repeat refine ob ?_
  refine awF ?_;refine awQ ?_;simp only [F59,seval];obtain rfl:k=l.length:=by omega
  rw [List.drop_length] at hap;simp only [m9] at hap;have hnl:(ps.map (·.1)).length=g.ests.length:=by rw [List.length_map];exact hpl
  refine aE (tbl 103 38 ps) [1,4,5,6,7] [272,4,7] (by intro y B h;obtain ⟨a,r,rfl,h2,h3⟩:=bD h;right;simp only [aj];(repeat rw [if_neg (by omega)]);exact h) ?_;simp only [F59,seval];refine be (bZ 103 38 36 (by decide) 272 [(4,_),(7,_)] (by simp) (by decide) g.ests.length _ ps) ?_;rw [bP];simp only [F59,seval];refine ao 272 7 0 (by rfl) (by rfl) (by rfl) (by decide) (by show (5:Nat)≠0;decide) (by show (2:Nat)≠0;decide) rfl ?_;simp only [F59,seval];refine awN ?_;simp only [F59,seval,au,h0,h64,hlt0,zB9];repeat refine ob ?_
  have hR:X=(⟨ps.map (·.1),g.debts.map clD⟩,0):=by
   rw [hX];unfold rvS;rw [if_pos h0,if_neg h64,←hap];exact if_pos rfl
  refine awX ?_;rw [hR];simp only [F59,seval,ab ak,ab ai];simp [au,hpl]
 refine awN ?_;simp only [F59,seval,au,h0];repeat refine ob ?_
 refine awT ?_;refine awN ?_;simp only [F59,seval,au,h0];repeat refine ob ?_
 refine be (vt 4 [.sh 5 0 [],.sh 4 0 []] (by rfl) (by show (2:Nat)≠0;decide) (by rfl) (fun κ vs h=>j9 h)) ?_;simp only [F59,seval];have hR:X=(⟨[],[]⟩,nX g):=by
  rw [hX];unfold rvS;rw [if_neg h0]
 refine awX ?_;rw [hR];try simp only [F59,seval]
 simp [au,ej]

theorem Lv (a b:Leg):zg prog 44 [.int .i64 a.1,.int .i64 a.2] [.int .i64 b.1,.int .i64 b.2]:=fun w=>⟨by
 have h1:=tD a b w;have h2:=kw a b;rw [←h2] at h1;exact h1,by kernel_rfl⟩
theorem Lw (a b:Leg):oc [.int .i64 a.1,.int .i64 a.2] [.int .i64 b.1,.int .i64 b.2]=decide (a=b):=kw a b
end Go.Proofs.YtcgpghifhehlhaaGreatDoor
