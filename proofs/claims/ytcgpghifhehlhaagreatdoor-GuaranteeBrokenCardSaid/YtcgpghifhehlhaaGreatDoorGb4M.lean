/- The builder of groups, what it builds the caller's own: estates, claims, debts, legs, the agreements of one estate; walked by the abstract machine. -/
import Derived.Test.YtcgpghifhehlhaaGreatDoorGb1M
import Derived.Test.YtcgpghifhehlhaaGreatDoorOw3M
import Derived.Test.YtcgpghifhehlhaaGreatDoorAbBM
import Derived.Test.YtcgpghifhehlhaaGreatDoorAbGM
import Derived.Test.YtcgpghifhehlhaaGreatDoorGu1M
import Derived.Test.YtcgpghifhehlhaaGreatDoorLftM
import Derived.Deep.DeepCutAuto
set_option linter.unusedVariables false
set_option maxHeartbeats 4000000
set_option maxRecDepth 100000
set_option linter.unusedSimpArgs false
set_option linter.unusedSectionVars false
namespace Go.Proofs.YtcgpghifhehlhaaGreatDoor
open Go Go.RowKit Go.Proofs.Tryz
theorem y6 (o:Option (Nat×Nat)) (n9:Nat) (ps:List (GEst×Nat)) (hn9:ps.length=n9) (ds:List (GDebt×Nat)) (p:N3) (H:Hp) (ny s9 s8:Nat) (hn:∀x B,H x=some B->x<500∨x%1000=103∨x%1000=104) (h49:H 49=some ⟨s9,36,5,n9,bQ o ps 0⟩) (h51:H 51=some ⟨s8,42,4,ds.length,dRw ds 0⟩) (htab:∀j q,ps[j]? =some q->H (1000*(j+1)+103)=some ⟨q.2,38,5,q.1.claims.length,ar aA q.1.claims⟩) (htbd:∀j q,ds[j]? =some q->H (1000*(j+1)+104)=some ⟨q.2,44,2,q.1.legs.length,ar bp q.1.legs⟩)
  (h7:h77 H o 50 ps) (hp:p.a<65536/\p.b<65536/\p.c<65536) (hge:n9<=1000) (hg:∀q∈ps,q.1.claims.length<=1000) (hnd:ds.length<=1000000000000) (hdl:∀d∈ds.map (·.1),d.legs.length<=1000000000000):
  dk prog 30 [.agg [.own 49 s9 n9 5,.own 51 s8 ds.length 4],.agg (cN3 p)] H ny (fun res H' _=>∃s t,res= .val (.one (.own 620 s (ds.length+1) 4))/\H'=bW H [(620,⟨s,42,4,ds.length+1,dRw (ds++[(owN ⟨ps.map (·.1),ds.map (·.1)⟩ p,t)]) 0⟩),(1000*(ds.length+1)+104,⟨t,44,2,(owN ⟨ps.map (·.1),ds.map (·.1)⟩ p).legs.length,ar bp (owN ⟨ps.map (·.1),ds.map (·.1)⟩ p).legs⟩)]):=by
 subst hn9;exact zV o ps ds p H ny s9 s8 hn h49 h51 htab htbd h7 hp hge hg hnd hdl
theorem xH (gi:Nat) (ny:Nat) (n:Nat) (hgi:gi<1+n%4) (cash:List Nat) (list:List N4) (pools debts:List N3) (hn:n<256) (hcs:∀x∈cash,x<65536) (hl:∀x∈list,x.a<65536/\x.b<65536/\x.c<65536/\x.d<65536) (hpo:∀p∈pools,p.a<65536/\p.b<65536/\p.c<65536) (hdo:∀p∈debts,p.a<65536/\p.b<65536/\p.c<65536)
  (hc0:cash.length<=9223372036854775807) (hl0:list.length<=9223372036854775807) (hp0:pools.length<=9223372036854775807) (hd0:debts.length<=9223372036854775807):dk prog 10 [.one (.lit (.int .u8 n)),.one (.sh 1 cash.length (ar vB cash)),.one (.sh 4 list.length (ar cN4 list)),.one (.sh 3 pools.length (ar cN3 pools)),.one (.sh 3 debts.length (ar cN3 debts))] (fun _=>none) ny
   (fun res H' _=>∃ps ds s s8 t,ps.map (·.1)=iJ n cash list pools/\ds.map (·.1)=(vz n cash list pools debts).debts/\res= .val (.agg [.own 49 s ps.length 5,.own 51 s8 ds.length 4])/\H'=bW (cF 38 44 ps ds) [(10,⟨ny,28,2,1,[.own 49 s ps.length 5,.own 51 s8 ds.length 4]⟩),(49,⟨s,36,5,ps.length,bQ (some (gi,t)) ps 0⟩),(77,⟨t,50,1,(agG gi ps).length,ar aU (agG gi ps)⟩),(51,⟨s8,42,4,ds.length,dRw ds 0⟩)]):=by
 refine fm 0 func10 rfl (by decide) (N:=155) rfl (by simp) (Rl:=[.cell 10 28]) rfl fun en k0=>?_
 refine awN ?_;simp only [F9,zT,seval];repeat refine ob ?_
 refine awN ?_;simp only [F9,zT,seval];repeat refine ob ?_
 have w1:IntKind.i64.wrap ((n%4:Nat):Int)=((n%4:Nat):Int):=wri _ (by omega);have w2:((n:Nat):Int).tmod 4=((n%4:Nat):Int):=jD n 4;have w3:(1:Int)+((n%4:Nat):Int)=((1+n%4:Nat):Int):=by omega
 refine awN ?_;simp only [F9,zT,seval,w2,w3];repeat refine ob ?_
 generalize hsz:1+n%4=size at *
 refine awN ?_;simp only [F9,zT,seval];repeat refine ob ?_
 refine dE 11 0 49 _ 36 5 (by decide) (by rfl) (by decide) (by simp) (by rfl) ?_;refine aQ [1,2,3,4,10,11,12,13] [49,10,11] ?_;try simp only [aq,F9,zT,seval]
 repeat' first|apply awS|apply awB
 refine aB (fun n st=>∃i s nx,i<=size/\n=size-i/\st=⟨mkT [(1,.val (.one (.sh 1 cash.length (ar vB cash)))),(2,.val (.one (.sh 4 list.length (ar cN4 list)))),(3,.val (.one (.sh 3 pools.length (ar cN3 pools)))),(4,.val (.one (.sh 3 debts.length (ar cN3 debts)))),(10,.val (.one (.ptr 10 ny 0))),(11,.val (.one (.ptr 11 (ny+1) 0))),(12,one (.int .i64 (size:Int))),(13,one (.int .i64 i))],mkH [(49,⟨s,36,5,i,cg e6 ((List.range i).map (fun j=>(cZ cash j,0))) 0⟩),(10,⟨ny,28,2,1,[.lit (.slice none 0 0),.lit (.slice none 0 0)]⟩),(11,⟨ny+1,28,2,1,[.own 49 s i 5,.lit (.slice none 0 0)]⟩)],nx,0⟩) (size) ⟨0,_,_,by omega,by omega,rfl⟩ ?_;rintro n0 st ⟨i,s,nx0,hi,rfl,rfl⟩;by_cases hI:(i:Int)<(size:Int)
 ·refine awN ?_;simp only [F9,zT,seval,hI];repeat refine ob ?_
  refine awT ?_;refine awK ?_;simp only [F9,zT,seval];refine awN ?_;simp only [F9,zT,seval];repeat refine ob ?_
  by_cases hc:(i:Int)<(cash.length:Int)
  ·refine awN ?_;simp only [F9,zT,seval,hc];repeat refine ob ?_
   refine awT ?_;have hcl:i<cash.length:=by omega
   have hatc:=aO vD cash i hcl;rw [Nat.mul_one] at hatc;have hci:=hcs _ (List.getElem_mem hcl);refine awN ?_;simp only [F9,zT,seval,hc,hatc,vB];repeat refine ob ?_
   refine ⟨_,(fL _ hci),(by first|rfl|simp [bu,aI,av,az,A1.cells,ab bg,ab ai,ab ak]),?_⟩;try simp only [aq,F9,zT,seval,cS]
   repeat refine ob ?_
   refine awN ?_;simp only [F9,zT,seval];repeat refine ob ?_
   refine awN ?_;simp only [F9,zT,seval];repeat refine ob ?_
   have hmk:(cZ cash i).cash=enc (cY cash[i]):=by unfold cZ;simp [i7,hcl]
   have hrw:cg e6 ((List.range (i+1)).map (fun j=>(cZ cash j,0))) 0=cg e6 ((List.range i).map (fun j=>(cZ cash j,0))) 0++[.lit (.bool (enc (cY cash[i])).neg),.lit (.string (enc (cY cash[i])).num),.lit (.string (enc (cY cash[i])).den),.lit (.slice none 0 0),.lit (.slice none 0 0)]:=by rw [List.range_succ,List.map_append,fK];simp only [List.map_cons,List.map_nil,cg,hmk,e6,List.append_nil]
   repeat refine ob ?_
   refine ⟨_,aH [1,2,3,4,10,11,12,13] [49,10,11],size-(i+1),by omega,i+1,nx0+2,nx0+3,by omega,rfl,?_⟩;simp only [F9,zT,seval,hrw];try rfl
  refine awN ?_;simp only [F9,zT,seval,hc];repeat refine ob ?_
  refine awF ?_;refine awK ?_;simp only [F9,zT,seval];refine awN ?_;simp only [F9,zT,seval];repeat refine ob ?_
  refine awN ?_;simp only [F9,zT,seval];repeat refine ob ?_
  have hmk:(cZ cash i).cash=gZ:=by unfold cZ;simp [show ¬i<cash.length by omega]
  have hrw:cg e6 ((List.range (i+1)).map (fun j=>(cZ cash j,0))) 0=cg e6 ((List.range i).map (fun j=>(cZ cash j,0))) 0++[.lit (.bool (gZ).neg),.lit (.string (gZ).num),.lit (.string (gZ).den),.lit (.slice none 0 0),.lit (.slice none 0 0)]:=by rw [List.range_succ,List.map_append,fK];simp only [List.map_cons,List.map_nil,cg,hmk,e6,List.append_nil]
  repeat refine ob ?_
  refine ⟨_,aH [1,2,3,4,10,11,12,13] [49,10,11],size-(i+1),by omega,i+1,nx0+2,nx0+3,by omega,rfl,?_⟩;simp only [F9,zT,seval,hrw];try rfl
 refine awN ?_;simp only [F9,zT,seval,hI];repeat refine ob ?_
 refine awF ?_;refine awQ ?_;simp only [F9,zT,seval];refine awN ?_;simp only [F9,zT,seval];repeat refine ob ?_
 obtain rfl:size=i:=by omega
 refine aQ [3,4,10,11,12,51,52,53] [49,10,11] ?_;try simp only [aq,F9,zT,seval]
 rw [vu (m:=(List.range size).map (fun j=>(cZ cash j,nx0+j))) 0 (by rw [List.map_map,List.map_map];rfl)];refine be (xp 103 38 36 (by decide) 49 [(10,⟨ny,28,2,1,[.lit (.slice none 0 0),.lit (.slice none 0 0)]⟩),(11,⟨ny+1,28,2,1,[.own 49 s size 5,.lit (.slice none 0 0)]⟩)] (by simp) (by decide) size nx0 ((List.range size).map (fun j=>(cZ cash j,nx0+j))) (fun j p hj=>?_)) ?_
 ·rw [List.getElem?_map] at hj;obtain ⟨i,hi,rfl⟩:=Option.map_eq_some_iff.1 hj;obtain rfl:j=i:=by obtain ⟨h1,h2⟩:=List.getElem?_eq_some_iff.1 hi;simpa using h2
  exact ⟨rfl,rfl⟩
 repeat' first|apply awS|apply awB
 refine aB (fun n st=>∃k ps s nx,k<=list.length/\n=list.length-k/\(list.drop k).foldl (aJ size) (ps.map (·.1))=list.foldl (aJ size) ((List.range size).map (cZ cash))/\ps.length=size/\(∀e∈ps.map (·.1),okC e)/\st=⟨mkT [(3,.val (.one (.sh 3 pools.length (ar cN3 pools)))),(4,.val (.one (.sh 3 debts.length (ar cN3 debts)))),(10,.val (.one (.ptr 10 ny 0))),(11,.val (.one (.ptr 11 (ny+1) 0))),(12,one (.int .i64 (size:Int))),(51,.val (.one (.sh 4 list.length (ar cN4 list)))),(52,one (.int .i64 list.length)),(53,one (.int .i64 k))],bW (tbl 103 38 ps) [(49,⟨s,36,5,size,cg (aR 103) ps 0⟩),(10,⟨ny,28,2,1,[.lit (.slice none 0 0),.lit (.slice none 0 0)]⟩),(11,⟨ny+1,28,2,1,[.own 49 s size 5,.lit (.slice none 0 0)]⟩)],nx,0⟩) (list.length) ⟨0,(List.range size).map (fun j=>(cZ cash j,nx0+j)),_,_,by omega,by omega,by rw [List.drop_zero,List.map_map];rfl,by simp,by intro e he;simp only [List.map_map,List.mem_map] at he;obtain ⟨j,_,rfl⟩:=he;exact ⟨by simp [cZ],rfl⟩,rfl⟩ ?_;rintro n1 st ⟨k,ps,s,nx1,hk,rfl,hL1,hpl,hok,rfl⟩;by_cases hlt1:(k:Int)<(list.length:Int)
 ·refine awN ?_;simp only [F9,zT,seval,hlt1];repeat refine ob ?_
  refine awT ?_;refine awK ?_;simp only [F9,zT,seval];have hltn:k<list.length:=by omega
  have hx3:=hl _ (List.getElem_mem hltn);have hatl:=aO r7 list k hltn;rw [List.drop_eq_getElem_cons hltn,List.foldl_cons] at hL1;generalize list[k]=x at *
  obtain ⟨j,hj⟩:∃j,j=x.a%size:=⟨_,rfl⟩;have hjl:j<ps.length:=by rw [hpl,hj];exact Nat.mod_lt _ (by omega)
  obtain ⟨p,hp⟩:∃p,ps[j]? =some p:=⟨_,List.getElem?_eq_getElem hjl⟩;refine awN ?_;simp only [F9,zT,seval,hlt1,hatl,cN4];repeat refine ob ?_
  have w4:=jD x.a size;refine awN ?_;simp only [F9,zT,seval,w4];repeat refine ob ?_
  by_cases h6:(6:Int)<=(p.1.claims.length:Int)
  ·rw [←hj];obtain ⟨b,hb⟩:∃b,b=1000*(j+1):=⟨_,rfl⟩;have hgd:(ps.map (·.1)).getD j bM=p.1:=by rw [List.getD_eq_getElem?_getD,List.getElem?_map,hp];rfl
   have hown:aR 103 j p= .own (b+103) p.2 p.1.claims.length 5:=by simp [aR,hb]
   have hget:=jW (aR 103) ps j p hp;rw [hown] at hget;have hx1:(b+103=b+102)=False:=by simp
   have hx2:(b+102=b+103)=False:=by simp
   have hrl:=co (aR 103) ps 0;have htb:tbl 103 38 ps (b+103)=some ⟨p.2,38,5,p.1.claims.length,ar aA p.1.claims⟩:=by rw [hb];exact bk (by decide) hp
   have F103:∀c,c<1000->((b+103=c)=False/\(c=b+103)=False):=fun c hc=>⟨by simp;omega,by simp;omega⟩
   have F102:∀c,c<1000->((b+102=c)=False/\(c=b+102)=False):=fun c hc=>⟨by simp;omega,by simp;omega⟩
   refine awN ?_;simp only [F9,zT,seval,h6,hget,F103,htb];repeat refine ob ?_
   refine awT ?_;refine awQ ?_;simp only [F9,zT,seval];refine awN ?_;simp only [F9,zT,seval];repeat refine ob ?_
   have hsame:aJ size (ps.map (·.1)) x=ps.map (·.1):=by unfold aJ;rw [←hj,hgd,if_pos (by omega)]
   rw [hsame] at hL1;refine ⟨_,(bE (tbl 103 38 ps) [3,4,10,11,12,51,52,53] [49,10,11] (by intro y B h;obtain ⟨q,r,rfl,h2,h3⟩:=bD h;right;simpa [aj,show 1000*(q+1)+103≠49 by omega,show 1000*(q+1)+103≠16 by omega,show 1000*(q+1)+103≠11 by omega,show 1000*(q+1)+103≠10 by omega] using h)).trans (gk 0),list.length-(k+1),by omega,k+1,ps,s,?nq23,by omega,rfl,hL1,hpl,hok,?sq23⟩;case sq23=>(simp only [F9,zT,seval];rfl)
  rw [←hj];obtain ⟨b,hb⟩:∃b,b=1000*(j+1):=⟨_,rfl⟩;have hgd:(ps.map (·.1)).getD j bM=p.1:=by rw [List.getD_eq_getElem?_getD,List.getElem?_map,hp];rfl
  have hown:aR 103 j p= .own (b+103) p.2 p.1.claims.length 5:=by simp [aR,hb]
  have hget:=jW (aR 103) ps j p hp;rw [hown] at hget;have hx1:(b+103=b+102)=False:=by simp
  have hx2:(b+102=b+103)=False:=by simp
  have hrl:=co (aR 103) ps 0;have htb:tbl 103 38 ps (b+103)=some ⟨p.2,38,5,p.1.claims.length,ar aA p.1.claims⟩:=by rw [hb];exact bk (by decide) hp
  have F103:∀c,c<1000->((b+103=c)=False/\(c=b+103)=False):=fun c hc=>⟨by simp;omega,by simp;omega⟩
  have F102:∀c,c<1000->((b+102=c)=False/\(c=b+102)=False):=fun c hc=>⟨by simp;omega,by simp;omega⟩
  refine awN ?_;simp only [F9,zT,seval,h6,hget,F103,htb];repeat refine ob ?_
  refine awF ?_;refine awK ?_;simp only [F9,zT,seval];have w5:((x.b:Nat):Int).tmod ((size:Int)+1)=((x.b%(size+1):Nat):Int):=jD x.b (size+1);refine awN ?_;simp only [F9,zT,seval,w5];repeat refine ob ?_
  by_cases hh1:((x.b%(size+1):Nat):Int)=(j:Int)
  ·refine awR [] [0,0,0,0,160,160,160,0] ?_;simp only [F9,zT,seval,hh1];repeat refine ob ?_
   refine awT ?_;refine awN ?_;simp only [F9,zT,seval];repeat refine ob ?_
   have w6:((x.c:Nat):Int).tmod 3=((x.c%3:Nat):Int):=jD x.c 3;have w7:IntKind.i64.wrap ((x.c%3:Nat):Int)=((x.c%3:Nat):Int):=wri _ (by omega);have hhold:dF size (x.a%size) x.b= -1:=by unfold dF;rw [if_pos (by rw [←hj];omega)]
   refine cf b ?_;dsimp only;refine awD (scq [1] (scT 2 14 (.two 1 16 (scq [32,35,36,38,41,43,44] .nil) (scq [35] (.two 1 18 (scq [36,38,41,43,44] .nil) (.two 1 19 (scq [38,41,43,44] .nil) (scq [3,41,43,44] .nil))))))) [0,0,0,0,0,0,0,0,0,0,0,0,0,0,0,0,0,0,0,0,0,0,0] ?_;simp only [F9,zT,seval,hget,w6];repeat refine ob ?_
   refine ⟨?_,?_⟩
   ·repeat refine ob ?_
    refine ⟨_,(fL x.d hx3.2.2.2),(by first|rfl|simp [bu,aI,av,az,A1.cells,ab bg,ab ai,ab ak]),?_⟩;try simp only [aq,F9,zT,seval,F103,F102,hx1,htb,cS]
    repeat refine ob ?_
    refine awN ?_;simp only [F9,zT,seval];repeat refine ob ?_
    have hadd:aJ size (ps.map (·.1)) x=(ps.set j ({p.1 with claims:=p.1.claims++[ap size x]},nx1+2)).map (·.1):=by rw [List.map_set];unfold aJ;rw [←hj,hgd,if_neg (by omega)]
    rw [hadd] at hL1;have hok2:=bN size (ps.map (·.1)) x hok;rw [hadd] at hok2;have hsub:∀q r,(ps.set j ({p.1 with claims:=p.1.claims++[ap size x]},nx1+2))[q]? =some r->r=({p.1 with claims:=p.1.claims++[ap size x]},nx1+2)/\q=j∨q≠j/\ps[q]? =some r:=by
     intro q r hq;by_cases hqj:q=j
     ·subst hqj;rw [List.getElem?_set_self hjl] at hq;exact .inl ⟨(Option.some.inj hq).symm,rfl⟩
     rw [List.getElem?_set_ne (fun h=>hqj h.symm)] at hq;exact .inr ⟨hqj,hq⟩
    have hrow:=cx (aR 103) (aR 103) ps j p ({p.1 with claims:=p.1.claims++[ap size x]},nx1+2) hp rfl (fun _ _ _ _=>rfl);have hfo:aR 103 j ({p.1 with claims:=p.1.claims++[ap size x]},nx1+2)= .own (b+103) (nx1+2) (p.1.claims.length+1) 5:=by simp [aR,hb]
    rw [hfo,←bY _ _ _ (by rw [co];omega)] at hrow;refine ⟨_,(bE (tbl 103 38 (ps.set j ({p.1 with claims:=p.1.claims++[ap size x]},nx1+2))) [3,4,10,11,12,51,52,53] [49,10,11] (bR (fun q r hq=>?tq30) _)).trans (gk 0),list.length-(k+1),by omega,k+1,ps.set j ({p.1 with claims:=p.1.claims++[ap size x]},nx1+2),s,nx1+3,by omega,rfl,hL1,by rw [List.length_set];exact hpl,hok2,?sq30⟩;case sq30=>(simp only [F9,zT,seval,hrow];rfl)
    case tq30=>
     rcases hsub q r hq with ⟨rfl,rfl⟩|⟨h1,h2⟩
     ·simp only [←hb,aj,F103,seval,reduceIte,List.length_append,List.length_cons,List.length_nil,Nat.zero_add,ay,aA,ap,hhold,i7]
     have g1:1000*(q+1)+103≠b+103:=by omega
     have g2:1000*(q+1)+103≠b+102:=by omega
     simp only [aj,g1,g2,if_false,show 1000*(q+1)+103≠49 by omega,show 1000*(q+1)+103≠16 by omega,show 1000*(q+1)+103≠11 by omega,show 1000*(q+1)+103≠10 by omega];exact bk (by decide) h2
   repeat refine ob ?_
   refine ⟨_,(fL x.d hx3.2.2.2),(by first|rfl|simp [bu,aI,av,az,A1.cells,ab bg,ab ai,ab ak]),?_⟩;try simp only [aq,F9,zT,seval,F103,F102,hx1,htb,cS]
   repeat refine ob ?_
   refine ⟨?_,?_⟩
   ·repeat refine ob ?_
    refine awN ?_;simp only [F9,zT,seval];repeat refine ob ?_
    have hadd:aJ size (ps.map (·.1)) x=(ps.set j ({p.1 with claims:=p.1.claims++[ap size x]},nx1+2)).map (·.1):=by rw [List.map_set];unfold aJ;rw [←hj,hgd,if_neg (by omega)]
    rw [hadd] at hL1;have hok2:=bN size (ps.map (·.1)) x hok;rw [hadd] at hok2;have hsub:∀q r,(ps.set j ({p.1 with claims:=p.1.claims++[ap size x]},nx1+2))[q]? =some r->r=({p.1 with claims:=p.1.claims++[ap size x]},nx1+2)/\q=j∨q≠j/\ps[q]? =some r:=by
     intro q r hq;by_cases hqj:q=j
     ·subst hqj;rw [List.getElem?_set_self hjl] at hq;exact .inl ⟨(Option.some.inj hq).symm,rfl⟩
     rw [List.getElem?_set_ne (fun h=>hqj h.symm)] at hq;exact .inr ⟨hqj,hq⟩
    have hrow:=cx (aR 103) (aR 103) ps j p ({p.1 with claims:=p.1.claims++[ap size x]},nx1+2) hp rfl (fun _ _ _ _=>rfl);have hfo:aR 103 j ({p.1 with claims:=p.1.claims++[ap size x]},nx1+2)= .own (b+103) (nx1+2) (p.1.claims.length+1) 5:=by simp [aR,hb]
    rw [hfo,←bY _ _ _ (by rw [co];omega)] at hrow;refine ⟨_,(bE (tbl 103 38 (ps.set j ({p.1 with claims:=p.1.claims++[ap size x]},nx1+2))) [3,4,10,11,12,51,52,53] [49,10,11] (bR (fun q r hq=>?tq32) _)).trans (gk 0),list.length-(k+1),by omega,k+1,ps.set j ({p.1 with claims:=p.1.claims++[ap size x]},nx1+2),s,nx1+3,by omega,rfl,hL1,by rw [List.length_set];exact hpl,hok2,?sq32⟩;case sq32=>(simp only [F9,zT,seval,hrow];rfl)
    case tq32=>
     rcases hsub q r hq with ⟨rfl,rfl⟩|⟨h1,h2⟩
     ·simp only [←hb,aj,F103,seval,reduceIte,List.length_append,List.length_cons,List.length_nil,Nat.zero_add,ay,aA,ap,hhold,i7]
     have g1:1000*(q+1)+103≠b+103:=by omega
     have g2:1000*(q+1)+103≠b+102:=by omega
     simp only [aj,g1,g2,if_false,show 1000*(q+1)+103≠49 by omega,show 1000*(q+1)+103≠16 by omega,show 1000*(q+1)+103≠11 by omega,show 1000*(q+1)+103≠10 by omega];exact bk (by decide) h2
   repeat refine ob ?_
   refine ⟨?_,?_⟩
   ·repeat refine ob ?_
    refine awN ?_;simp only [F9,zT,seval];repeat refine ob ?_
    have hadd:aJ size (ps.map (·.1)) x=(ps.set j ({p.1 with claims:=p.1.claims++[ap size x]},nx1+2)).map (·.1):=by rw [List.map_set];unfold aJ;rw [←hj,hgd,if_neg (by omega)]
    rw [hadd] at hL1;have hok2:=bN size (ps.map (·.1)) x hok;rw [hadd] at hok2;have hsub:∀q r,(ps.set j ({p.1 with claims:=p.1.claims++[ap size x]},nx1+2))[q]? =some r->r=({p.1 with claims:=p.1.claims++[ap size x]},nx1+2)/\q=j∨q≠j/\ps[q]? =some r:=by
     intro q r hq;by_cases hqj:q=j
     ·subst hqj;rw [List.getElem?_set_self hjl] at hq;exact .inl ⟨(Option.some.inj hq).symm,rfl⟩
     rw [List.getElem?_set_ne (fun h=>hqj h.symm)] at hq;exact .inr ⟨hqj,hq⟩
    have hrow:=cx (aR 103) (aR 103) ps j p ({p.1 with claims:=p.1.claims++[ap size x]},nx1+2) hp rfl (fun _ _ _ _=>rfl);have hfo:aR 103 j ({p.1 with claims:=p.1.claims++[ap size x]},nx1+2)= .own (b+103) (nx1+2) (p.1.claims.length+1) 5:=by simp [aR,hb]
    rw [hfo,←bY _ _ _ (by rw [co];omega)] at hrow;refine ⟨_,(bE (tbl 103 38 (ps.set j ({p.1 with claims:=p.1.claims++[ap size x]},nx1+2))) [3,4,10,11,12,51,52,53] [49,10,11] (bR (fun q r hq=>?tq34) _)).trans (gk 0),list.length-(k+1),by omega,k+1,ps.set j ({p.1 with claims:=p.1.claims++[ap size x]},nx1+2),s,nx1+3,by omega,rfl,hL1,by rw [List.length_set];exact hpl,hok2,?sq34⟩;case sq34=>(simp only [F9,zT,seval,hrow];rfl)
    case tq34=>
     rcases hsub q r hq with ⟨rfl,rfl⟩|⟨h1,h2⟩
     ·simp only [←hb,aj,F103,seval,reduceIte,List.length_append,List.length_cons,List.length_nil,Nat.zero_add,ay,aA,ap,hhold,i7]
     have g1:1000*(q+1)+103≠b+103:=by omega
     have g2:1000*(q+1)+103≠b+102:=by omega
     simp only [aj,g1,g2,if_false,show 1000*(q+1)+103≠49 by omega,show 1000*(q+1)+103≠16 by omega,show 1000*(q+1)+103≠11 by omega,show 1000*(q+1)+103≠10 by omega];exact bk (by decide) h2
   repeat refine ob ?_
   refine awN ?_;simp only [F9,zT,seval];repeat refine ob ?_
   have hadd:aJ size (ps.map (·.1)) x=(ps.set j ({p.1 with claims:=p.1.claims++[ap size x]},nx1+2)).map (·.1):=by rw [List.map_set];unfold aJ;rw [←hj,hgd,if_neg (by omega)]
   rw [hadd] at hL1;have hok2:=bN size (ps.map (·.1)) x hok;rw [hadd] at hok2;have hsub:∀q r,(ps.set j ({p.1 with claims:=p.1.claims++[ap size x]},nx1+2))[q]? =some r->r=({p.1 with claims:=p.1.claims++[ap size x]},nx1+2)/\q=j∨q≠j/\ps[q]? =some r:=by
    intro q r hq;by_cases hqj:q=j
    ·subst hqj;rw [List.getElem?_set_self hjl] at hq;exact .inl ⟨(Option.some.inj hq).symm,rfl⟩
    rw [List.getElem?_set_ne (fun h=>hqj h.symm)] at hq;exact .inr ⟨hqj,hq⟩
   have hrow:=cx (aR 103) (aR 103) ps j p ({p.1 with claims:=p.1.claims++[ap size x]},nx1+2) hp rfl (fun _ _ _ _=>rfl);have hfo:aR 103 j ({p.1 with claims:=p.1.claims++[ap size x]},nx1+2)= .own (b+103) (nx1+2) (p.1.claims.length+1) 5:=by simp [aR,hb]
   rw [hfo,←bY _ _ _ (by rw [co];omega)] at hrow;refine ⟨_,(bE (tbl 103 38 (ps.set j ({p.1 with claims:=p.1.claims++[ap size x]},nx1+2))) [3,4,10,11,12,51,52,53] [49,10,11] (bR (fun q r hq=>?tq36) _)).trans (gk 0),list.length-(k+1),by omega,k+1,ps.set j ({p.1 with claims:=p.1.claims++[ap size x]},nx1+2),s,nx1+3,by omega,rfl,hL1,by rw [List.length_set];exact hpl,hok2,?sq36⟩;case sq36=>(simp only [F9,zT,seval,hrow];rfl)
   case tq36=>
    rcases hsub q r hq with ⟨rfl,rfl⟩|⟨h1,h2⟩
    ·simp only [←hb,aj,F103,seval,reduceIte,List.length_append,List.length_cons,List.length_nil,Nat.zero_add,ay,aA,ap,hhold,i7]
    have g1:1000*(q+1)+103≠b+103:=by omega
    have g2:1000*(q+1)+103≠b+102:=by omega
    simp only [aj,g1,g2,if_false,show 1000*(q+1)+103≠49 by omega,show 1000*(q+1)+103≠16 by omega,show 1000*(q+1)+103≠11 by omega,show 1000*(q+1)+103≠10 by omega];exact bk (by decide) h2
  by_cases hh2:(size:Int)<=((x.b%(size+1):Nat):Int)
  ·refine awR [] [0,0,0,0,160,160,160,0] ?_;simp only [F9,zT,seval,hh1,hh2];repeat refine ob ?_
   refine awT ?_;refine awN ?_;simp only [F9,zT,seval];repeat refine ob ?_
   have w6:((x.c:Nat):Int).tmod 3=((x.c%3:Nat):Int):=jD x.c 3;have w7:IntKind.i64.wrap ((x.c%3:Nat):Int)=((x.c%3:Nat):Int):=wri _ (by omega);have hhold:dF size (x.a%size) x.b= -1:=by unfold dF;rw [if_pos (by rw [←hj];omega)]
   refine cf b ?_;dsimp only;refine awD (scq [1] (scT 2 14 (.two 1 16 (scq [32,35,36,38,41,43,44] .nil) (scq [35] (.two 1 18 (scq [36,38,41,43,44] .nil) (.two 1 19 (scq [38,41,43,44] .nil) (scq [3,41,43,44] .nil))))))) [0,0,0,0,0,0,0,0,0,0,0,0,0,0,0,0,0,0,0,0,0,0,0] ?_;simp only [F9,zT,seval,hget,w6];repeat refine ob ?_
   refine ⟨?_,?_⟩
   ·repeat refine ob ?_
    refine ⟨_,(fL x.d hx3.2.2.2),(by first|rfl|simp [bu,aI,av,az,A1.cells,ab bg,ab ai,ab ak]),?_⟩;try simp only [aq,F9,zT,seval,F103,F102,hx1,htb,cS]
    repeat refine ob ?_
    refine awN ?_;simp only [F9,zT,seval];repeat refine ob ?_
    have hadd:aJ size (ps.map (·.1)) x=(ps.set j ({p.1 with claims:=p.1.claims++[ap size x]},nx1+2)).map (·.1):=by rw [List.map_set];unfold aJ;rw [←hj,hgd,if_neg (by omega)]
    rw [hadd] at hL1;have hok2:=bN size (ps.map (·.1)) x hok;rw [hadd] at hok2;have hsub:∀q r,(ps.set j ({p.1 with claims:=p.1.claims++[ap size x]},nx1+2))[q]? =some r->r=({p.1 with claims:=p.1.claims++[ap size x]},nx1+2)/\q=j∨q≠j/\ps[q]? =some r:=by
     intro q r hq;by_cases hqj:q=j
     ·subst hqj;rw [List.getElem?_set_self hjl] at hq;exact .inl ⟨(Option.some.inj hq).symm,rfl⟩
     rw [List.getElem?_set_ne (fun h=>hqj h.symm)] at hq;exact .inr ⟨hqj,hq⟩
    have hrow:=cx (aR 103) (aR 103) ps j p ({p.1 with claims:=p.1.claims++[ap size x]},nx1+2) hp rfl (fun _ _ _ _=>rfl);have hfo:aR 103 j ({p.1 with claims:=p.1.claims++[ap size x]},nx1+2)= .own (b+103) (nx1+2) (p.1.claims.length+1) 5:=by simp [aR,hb]
    rw [hfo,←bY _ _ _ (by rw [co];omega)] at hrow;refine ⟨_,(bE (tbl 103 38 (ps.set j ({p.1 with claims:=p.1.claims++[ap size x]},nx1+2))) [3,4,10,11,12,51,52,53] [49,10,11] (bR (fun q r hq=>?tq41) _)).trans (gk 0),list.length-(k+1),by omega,k+1,ps.set j ({p.1 with claims:=p.1.claims++[ap size x]},nx1+2),s,nx1+3,by omega,rfl,hL1,by rw [List.length_set];exact hpl,hok2,?sq41⟩;case sq41=>(simp only [F9,zT,seval,hrow];rfl)
    case tq41=>
     rcases hsub q r hq with ⟨rfl,rfl⟩|⟨h1,h2⟩
     ·simp only [←hb,aj,F103,seval,reduceIte,List.length_append,List.length_cons,List.length_nil,Nat.zero_add,ay,aA,ap,hhold,i7]
     have g1:1000*(q+1)+103≠b+103:=by omega
     have g2:1000*(q+1)+103≠b+102:=by omega
     simp only [aj,g1,g2,if_false,show 1000*(q+1)+103≠49 by omega,show 1000*(q+1)+103≠16 by omega,show 1000*(q+1)+103≠11 by omega,show 1000*(q+1)+103≠10 by omega];exact bk (by decide) h2
   repeat refine ob ?_
   refine ⟨_,(fL x.d hx3.2.2.2),(by first|rfl|simp [bu,aI,av,az,A1.cells,ab bg,ab ai,ab ak]),?_⟩;try simp only [aq,F9,zT,seval,F103,F102,hx1,htb,cS]
   repeat refine ob ?_
   refine ⟨?_,?_⟩
   ·repeat refine ob ?_
    refine awN ?_;simp only [F9,zT,seval];repeat refine ob ?_
    have hadd:aJ size (ps.map (·.1)) x=(ps.set j ({p.1 with claims:=p.1.claims++[ap size x]},nx1+2)).map (·.1):=by rw [List.map_set];unfold aJ;rw [←hj,hgd,if_neg (by omega)]
    rw [hadd] at hL1;have hok2:=bN size (ps.map (·.1)) x hok;rw [hadd] at hok2;have hsub:∀q r,(ps.set j ({p.1 with claims:=p.1.claims++[ap size x]},nx1+2))[q]? =some r->r=({p.1 with claims:=p.1.claims++[ap size x]},nx1+2)/\q=j∨q≠j/\ps[q]? =some r:=by
     intro q r hq;by_cases hqj:q=j
     ·subst hqj;rw [List.getElem?_set_self hjl] at hq;exact .inl ⟨(Option.some.inj hq).symm,rfl⟩
     rw [List.getElem?_set_ne (fun h=>hqj h.symm)] at hq;exact .inr ⟨hqj,hq⟩
    have hrow:=cx (aR 103) (aR 103) ps j p ({p.1 with claims:=p.1.claims++[ap size x]},nx1+2) hp rfl (fun _ _ _ _=>rfl);have hfo:aR 103 j ({p.1 with claims:=p.1.claims++[ap size x]},nx1+2)= .own (b+103) (nx1+2) (p.1.claims.length+1) 5:=by simp [aR,hb]
    rw [hfo,←bY _ _ _ (by rw [co];omega)] at hrow;refine ⟨_,(bE (tbl 103 38 (ps.set j ({p.1 with claims:=p.1.claims++[ap size x]},nx1+2))) [3,4,10,11,12,51,52,53] [49,10,11] (bR (fun q r hq=>?tq43) _)).trans (gk 0),list.length-(k+1),by omega,k+1,ps.set j ({p.1 with claims:=p.1.claims++[ap size x]},nx1+2),s,nx1+3,by omega,rfl,hL1,by rw [List.length_set];exact hpl,hok2,?sq43⟩;case sq43=>(simp only [F9,zT,seval,hrow];rfl)
    case tq43=>
     rcases hsub q r hq with ⟨rfl,rfl⟩|⟨h1,h2⟩
     ·simp only [←hb,aj,F103,seval,reduceIte,List.length_append,List.length_cons,List.length_nil,Nat.zero_add,ay,aA,ap,hhold,i7]
     have g1:1000*(q+1)+103≠b+103:=by omega
     have g2:1000*(q+1)+103≠b+102:=by omega
     simp only [aj,g1,g2,if_false,show 1000*(q+1)+103≠49 by omega,show 1000*(q+1)+103≠16 by omega,show 1000*(q+1)+103≠11 by omega,show 1000*(q+1)+103≠10 by omega];exact bk (by decide) h2
   repeat refine ob ?_
   refine ⟨?_,?_⟩
   ·repeat refine ob ?_
    refine awN ?_;simp only [F9,zT,seval];repeat refine ob ?_
    have hadd:aJ size (ps.map (·.1)) x=(ps.set j ({p.1 with claims:=p.1.claims++[ap size x]},nx1+2)).map (·.1):=by rw [List.map_set];unfold aJ;rw [←hj,hgd,if_neg (by omega)]
    rw [hadd] at hL1;have hok2:=bN size (ps.map (·.1)) x hok;rw [hadd] at hok2;have hsub:∀q r,(ps.set j ({p.1 with claims:=p.1.claims++[ap size x]},nx1+2))[q]? =some r->r=({p.1 with claims:=p.1.claims++[ap size x]},nx1+2)/\q=j∨q≠j/\ps[q]? =some r:=by
     intro q r hq;by_cases hqj:q=j
     ·subst hqj;rw [List.getElem?_set_self hjl] at hq;exact .inl ⟨(Option.some.inj hq).symm,rfl⟩
     rw [List.getElem?_set_ne (fun h=>hqj h.symm)] at hq;exact .inr ⟨hqj,hq⟩
    have hrow:=cx (aR 103) (aR 103) ps j p ({p.1 with claims:=p.1.claims++[ap size x]},nx1+2) hp rfl (fun _ _ _ _=>rfl);have hfo:aR 103 j ({p.1 with claims:=p.1.claims++[ap size x]},nx1+2)= .own (b+103) (nx1+2) (p.1.claims.length+1) 5:=by simp [aR,hb]
    rw [hfo,←bY _ _ _ (by rw [co];omega)] at hrow;refine ⟨_,(bE (tbl 103 38 (ps.set j ({p.1 with claims:=p.1.claims++[ap size x]},nx1+2))) [3,4,10,11,12,51,52,53] [49,10,11] (bR (fun q r hq=>?tq45) _)).trans (gk 0),list.length-(k+1),by omega,k+1,ps.set j ({p.1 with claims:=p.1.claims++[ap size x]},nx1+2),s,nx1+3,by omega,rfl,hL1,by rw [List.length_set];exact hpl,hok2,?sq45⟩;case sq45=>(simp only [F9,zT,seval,hrow];rfl)
    case tq45=>
     rcases hsub q r hq with ⟨rfl,rfl⟩|⟨h1,h2⟩
     ·simp only [←hb,aj,F103,seval,reduceIte,List.length_append,List.length_cons,List.length_nil,Nat.zero_add,ay,aA,ap,hhold,i7]
     have g1:1000*(q+1)+103≠b+103:=by omega
     have g2:1000*(q+1)+103≠b+102:=by omega
     simp only [aj,g1,g2,if_false,show 1000*(q+1)+103≠49 by omega,show 1000*(q+1)+103≠16 by omega,show 1000*(q+1)+103≠11 by omega,show 1000*(q+1)+103≠10 by omega];exact bk (by decide) h2
   repeat refine ob ?_
   refine awN ?_;simp only [F9,zT,seval];repeat refine ob ?_
   have hadd:aJ size (ps.map (·.1)) x=(ps.set j ({p.1 with claims:=p.1.claims++[ap size x]},nx1+2)).map (·.1):=by rw [List.map_set];unfold aJ;rw [←hj,hgd,if_neg (by omega)]
   rw [hadd] at hL1;have hok2:=bN size (ps.map (·.1)) x hok;rw [hadd] at hok2;have hsub:∀q r,(ps.set j ({p.1 with claims:=p.1.claims++[ap size x]},nx1+2))[q]? =some r->r=({p.1 with claims:=p.1.claims++[ap size x]},nx1+2)/\q=j∨q≠j/\ps[q]? =some r:=by
    intro q r hq;by_cases hqj:q=j
    ·subst hqj;rw [List.getElem?_set_self hjl] at hq;exact .inl ⟨(Option.some.inj hq).symm,rfl⟩
    rw [List.getElem?_set_ne (fun h=>hqj h.symm)] at hq;exact .inr ⟨hqj,hq⟩
   have hrow:=cx (aR 103) (aR 103) ps j p ({p.1 with claims:=p.1.claims++[ap size x]},nx1+2) hp rfl (fun _ _ _ _=>rfl);have hfo:aR 103 j ({p.1 with claims:=p.1.claims++[ap size x]},nx1+2)= .own (b+103) (nx1+2) (p.1.claims.length+1) 5:=by simp [aR,hb]
   rw [hfo,←bY _ _ _ (by rw [co];omega)] at hrow;refine ⟨_,(bE (tbl 103 38 (ps.set j ({p.1 with claims:=p.1.claims++[ap size x]},nx1+2))) [3,4,10,11,12,51,52,53] [49,10,11] (bR (fun q r hq=>?tq47) _)).trans (gk 0),list.length-(k+1),by omega,k+1,ps.set j ({p.1 with claims:=p.1.claims++[ap size x]},nx1+2),s,nx1+3,by omega,rfl,hL1,by rw [List.length_set];exact hpl,hok2,?sq47⟩;case sq47=>(simp only [F9,zT,seval,hrow];rfl)
   case tq47=>
    rcases hsub q r hq with ⟨rfl,rfl⟩|⟨h1,h2⟩
    ·simp only [←hb,aj,F103,seval,reduceIte,List.length_append,List.length_cons,List.length_nil,Nat.zero_add,ay,aA,ap,hhold,i7]
    have g1:1000*(q+1)+103≠b+103:=by omega
    have g2:1000*(q+1)+103≠b+102:=by omega
    simp only [aj,g1,g2,if_false,show 1000*(q+1)+103≠49 by omega,show 1000*(q+1)+103≠16 by omega,show 1000*(q+1)+103≠11 by omega,show 1000*(q+1)+103≠10 by omega];exact bk (by decide) h2
  refine awR [] [0,0,0,0,160,160,160,0] ?_;simp only [F9,zT,seval,hh1,hh2];repeat refine ob ?_
  refine awF ?_;refine awK ?_;simp only [F9,zT,seval];have w6:((x.c:Nat):Int).tmod 3=((x.c%3:Nat):Int):=jD x.c 3;have w7:IntKind.i64.wrap ((x.c%3:Nat):Int)=((x.c%3:Nat):Int):=wri _ (by omega);have hhold:dF size (x.a%size) x.b=((x.b%(size+1):Nat):Int):=by unfold dF;rw [if_neg (by rw [←hj];omega)]
  refine cf b ?_;dsimp only;refine awD (scq [1] (scT 2 14 (.two 1 16 (scq [32,35,36,38,41,43,44] .nil) (scq [35] (.two 1 18 (scq [36,38,41,43,44] .nil) (.two 1 19 (scq [38,41,43,44] .nil) (scq [3,41,43,44] .nil))))))) [0,0,0,0,0,0,0,0,0,0,0,0,0,0,0,0,0,0,0,0,0,0,0] ?_;simp only [F9,zT,seval,hget,w6];repeat refine ob ?_
  refine ⟨?_,?_⟩
  ·repeat refine ob ?_
   refine ⟨_,(fL x.d hx3.2.2.2),(by first|rfl|simp [bu,aI,av,az,A1.cells,ab bg,ab ai,ab ak]),?_⟩;try simp only [aq,F9,zT,seval,F103,F102,hx1,htb,cS]
   repeat refine ob ?_
   refine awN ?_;simp only [F9,zT,seval];repeat refine ob ?_
   have hadd:aJ size (ps.map (·.1)) x=(ps.set j ({p.1 with claims:=p.1.claims++[ap size x]},nx1+2)).map (·.1):=by rw [List.map_set];unfold aJ;rw [←hj,hgd,if_neg (by omega)]
   rw [hadd] at hL1;have hok2:=bN size (ps.map (·.1)) x hok;rw [hadd] at hok2;have hsub:∀q r,(ps.set j ({p.1 with claims:=p.1.claims++[ap size x]},nx1+2))[q]? =some r->r=({p.1 with claims:=p.1.claims++[ap size x]},nx1+2)/\q=j∨q≠j/\ps[q]? =some r:=by
    intro q r hq;by_cases hqj:q=j
    ·subst hqj;rw [List.getElem?_set_self hjl] at hq;exact .inl ⟨(Option.some.inj hq).symm,rfl⟩
    rw [List.getElem?_set_ne (fun h=>hqj h.symm)] at hq;exact .inr ⟨hqj,hq⟩
   have hrow:=cx (aR 103) (aR 103) ps j p ({p.1 with claims:=p.1.claims++[ap size x]},nx1+2) hp rfl (fun _ _ _ _=>rfl);have hfo:aR 103 j ({p.1 with claims:=p.1.claims++[ap size x]},nx1+2)= .own (b+103) (nx1+2) (p.1.claims.length+1) 5:=by simp [aR,hb]
   rw [hfo,←bY _ _ _ (by rw [co];omega)] at hrow;refine ⟨_,(bE (tbl 103 38 (ps.set j ({p.1 with claims:=p.1.claims++[ap size x]},nx1+2))) [3,4,10,11,12,51,52,53] [49,10,11] (bR (fun q r hq=>?tq51) _)).trans (gk 0),list.length-(k+1),by omega,k+1,ps.set j ({p.1 with claims:=p.1.claims++[ap size x]},nx1+2),s,nx1+3,by omega,rfl,hL1,by rw [List.length_set];exact hpl,hok2,?sq51⟩;case sq51=>(simp only [F9,zT,seval,hrow];rfl)
   case tq51=>
    rcases hsub q r hq with ⟨rfl,rfl⟩|⟨h1,h2⟩
    ·simp only [←hb,aj,F103,seval,reduceIte,List.length_append,List.length_cons,List.length_nil,Nat.zero_add,ay,aA,ap,hhold,i7]
    have g1:1000*(q+1)+103≠b+103:=by omega
    have g2:1000*(q+1)+103≠b+102:=by omega
    simp only [aj,g1,g2,if_false,show 1000*(q+1)+103≠49 by omega,show 1000*(q+1)+103≠16 by omega,show 1000*(q+1)+103≠11 by omega,show 1000*(q+1)+103≠10 by omega];exact bk (by decide) h2
  repeat refine ob ?_
  refine ⟨_,(fL x.d hx3.2.2.2),(by first|rfl|simp [bu,aI,av,az,A1.cells,ab bg,ab ai,ab ak]),?_⟩;try simp only [aq,F9,zT,seval,F103,F102,hx1,htb,cS]
  repeat refine ob ?_
  refine ⟨?_,?_⟩
  ·repeat refine ob ?_
   refine awN ?_;simp only [F9,zT,seval];repeat refine ob ?_
   have hadd:aJ size (ps.map (·.1)) x=(ps.set j ({p.1 with claims:=p.1.claims++[ap size x]},nx1+2)).map (·.1):=by rw [List.map_set];unfold aJ;rw [←hj,hgd,if_neg (by omega)]
   rw [hadd] at hL1;have hok2:=bN size (ps.map (·.1)) x hok;rw [hadd] at hok2;have hsub:∀q r,(ps.set j ({p.1 with claims:=p.1.claims++[ap size x]},nx1+2))[q]? =some r->r=({p.1 with claims:=p.1.claims++[ap size x]},nx1+2)/\q=j∨q≠j/\ps[q]? =some r:=by
    intro q r hq;by_cases hqj:q=j
    ·subst hqj;rw [List.getElem?_set_self hjl] at hq;exact .inl ⟨(Option.some.inj hq).symm,rfl⟩
    rw [List.getElem?_set_ne (fun h=>hqj h.symm)] at hq;exact .inr ⟨hqj,hq⟩
   have hrow:=cx (aR 103) (aR 103) ps j p ({p.1 with claims:=p.1.claims++[ap size x]},nx1+2) hp rfl (fun _ _ _ _=>rfl);have hfo:aR 103 j ({p.1 with claims:=p.1.claims++[ap size x]},nx1+2)= .own (b+103) (nx1+2) (p.1.claims.length+1) 5:=by simp [aR,hb]
   rw [hfo,←bY _ _ _ (by rw [co];omega)] at hrow;refine ⟨_,(bE (tbl 103 38 (ps.set j ({p.1 with claims:=p.1.claims++[ap size x]},nx1+2))) [3,4,10,11,12,51,52,53] [49,10,11] (bR (fun q r hq=>?tq53) _)).trans (gk 0),list.length-(k+1),by omega,k+1,ps.set j ({p.1 with claims:=p.1.claims++[ap size x]},nx1+2),s,nx1+3,by omega,rfl,hL1,by rw [List.length_set];exact hpl,hok2,?sq53⟩;case sq53=>(simp only [F9,zT,seval,hrow];rfl)
   case tq53=>
    rcases hsub q r hq with ⟨rfl,rfl⟩|⟨h1,h2⟩
    ·simp only [←hb,aj,F103,seval,reduceIte,List.length_append,List.length_cons,List.length_nil,Nat.zero_add,ay,aA,ap,hhold,i7]
    have g1:1000*(q+1)+103≠b+103:=by omega
    have g2:1000*(q+1)+103≠b+102:=by omega
    simp only [aj,g1,g2,if_false,show 1000*(q+1)+103≠49 by omega,show 1000*(q+1)+103≠16 by omega,show 1000*(q+1)+103≠11 by omega,show 1000*(q+1)+103≠10 by omega];exact bk (by decide) h2
  repeat refine ob ?_
  refine ⟨?_,?_⟩
  ·repeat refine ob ?_
   refine awN ?_;simp only [F9,zT,seval];repeat refine ob ?_
   have hadd:aJ size (ps.map (·.1)) x=(ps.set j ({p.1 with claims:=p.1.claims++[ap size x]},nx1+2)).map (·.1):=by rw [List.map_set];unfold aJ;rw [←hj,hgd,if_neg (by omega)]
   rw [hadd] at hL1;have hok2:=bN size (ps.map (·.1)) x hok;rw [hadd] at hok2;have hsub:∀q r,(ps.set j ({p.1 with claims:=p.1.claims++[ap size x]},nx1+2))[q]? =some r->r=({p.1 with claims:=p.1.claims++[ap size x]},nx1+2)/\q=j∨q≠j/\ps[q]? =some r:=by
    intro q r hq;by_cases hqj:q=j
    ·subst hqj;rw [List.getElem?_set_self hjl] at hq;exact .inl ⟨(Option.some.inj hq).symm,rfl⟩
    rw [List.getElem?_set_ne (fun h=>hqj h.symm)] at hq;exact .inr ⟨hqj,hq⟩
   have hrow:=cx (aR 103) (aR 103) ps j p ({p.1 with claims:=p.1.claims++[ap size x]},nx1+2) hp rfl (fun _ _ _ _=>rfl);have hfo:aR 103 j ({p.1 with claims:=p.1.claims++[ap size x]},nx1+2)= .own (b+103) (nx1+2) (p.1.claims.length+1) 5:=by simp [aR,hb]
   rw [hfo,←bY _ _ _ (by rw [co];omega)] at hrow;refine ⟨_,(bE (tbl 103 38 (ps.set j ({p.1 with claims:=p.1.claims++[ap size x]},nx1+2))) [3,4,10,11,12,51,52,53] [49,10,11] (bR (fun q r hq=>?tq55) _)).trans (gk 0),list.length-(k+1),by omega,k+1,ps.set j ({p.1 with claims:=p.1.claims++[ap size x]},nx1+2),s,nx1+3,by omega,rfl,hL1,by rw [List.length_set];exact hpl,hok2,?sq55⟩;case sq55=>(simp only [F9,zT,seval,hrow];rfl)
   case tq55=>
    rcases hsub q r hq with ⟨rfl,rfl⟩|⟨h1,h2⟩
    ·simp only [←hb,aj,F103,seval,reduceIte,List.length_append,List.length_cons,List.length_nil,Nat.zero_add,ay,aA,ap,hhold,i7]
    have g1:1000*(q+1)+103≠b+103:=by omega
    have g2:1000*(q+1)+103≠b+102:=by omega
    simp only [aj,g1,g2,if_false,show 1000*(q+1)+103≠49 by omega,show 1000*(q+1)+103≠16 by omega,show 1000*(q+1)+103≠11 by omega,show 1000*(q+1)+103≠10 by omega];exact bk (by decide) h2
  repeat refine ob ?_
  refine awN ?_;simp only [F9,zT,seval];repeat refine ob ?_
  have hadd:aJ size (ps.map (·.1)) x=(ps.set j ({p.1 with claims:=p.1.claims++[ap size x]},nx1+2)).map (·.1):=by rw [List.map_set];unfold aJ;rw [←hj,hgd,if_neg (by omega)]
  rw [hadd] at hL1;have hok2:=bN size (ps.map (·.1)) x hok;rw [hadd] at hok2;have hsub:∀q r,(ps.set j ({p.1 with claims:=p.1.claims++[ap size x]},nx1+2))[q]? =some r->r=({p.1 with claims:=p.1.claims++[ap size x]},nx1+2)/\q=j∨q≠j/\ps[q]? =some r:=by
   intro q r hq;by_cases hqj:q=j
   ·subst hqj;rw [List.getElem?_set_self hjl] at hq;exact .inl ⟨(Option.some.inj hq).symm,rfl⟩
   rw [List.getElem?_set_ne (fun h=>hqj h.symm)] at hq;exact .inr ⟨hqj,hq⟩
  have hrow:=cx (aR 103) (aR 103) ps j p ({p.1 with claims:=p.1.claims++[ap size x]},nx1+2) hp rfl (fun _ _ _ _=>rfl);have hfo:aR 103 j ({p.1 with claims:=p.1.claims++[ap size x]},nx1+2)= .own (b+103) (nx1+2) (p.1.claims.length+1) 5:=by simp [aR,hb]
  rw [hfo,←bY _ _ _ (by rw [co];omega)] at hrow;refine ⟨_,(bE (tbl 103 38 (ps.set j ({p.1 with claims:=p.1.claims++[ap size x]},nx1+2))) [3,4,10,11,12,51,52,53] [49,10,11] (bR (fun q r hq=>?tq57) _)).trans (gk 0),list.length-(k+1),by omega,k+1,ps.set j ({p.1 with claims:=p.1.claims++[ap size x]},nx1+2),s,nx1+3,by omega,rfl,hL1,by rw [List.length_set];exact hpl,hok2,?sq57⟩;case sq57=>(simp only [F9,zT,seval,hrow];rfl)
  case tq57=>
   rcases hsub q r hq with ⟨rfl,rfl⟩|⟨h1,h2⟩
   ·simp only [←hb,aj,F103,seval,reduceIte,List.length_append,List.length_cons,List.length_nil,Nat.zero_add,ay,aA,ap,hhold,i7]
   have g1:1000*(q+1)+103≠b+103:=by omega
   have g2:1000*(q+1)+103≠b+102:=by omega
   simp only [aj,g1,g2,if_false,show 1000*(q+1)+103≠49 by omega,show 1000*(q+1)+103≠16 by omega,show 1000*(q+1)+103≠11 by omega,show 1000*(q+1)+103≠10 by omega];exact bk (by decide) h2
 refine awN ?_;simp only [F9,zT,seval,hlt1];repeat refine ob ?_
 refine awF ?_;refine awQ ?_;simp only [F9,zT,seval];refine awN ?_;simp only [F9,zT,seval];repeat refine ob ?_
 obtain rfl:k=list.length:=by omega
 rw [List.drop_length,List.foldl_nil] at hL1;refine aE (tbl 103 38 ps) [4,10,11,12,107,108,109] [49,10,11] (by intro y B h;obtain ⟨q,r,rfl,h2,h3⟩:=bD h;right;simpa [aj,show 1000*(q+1)+103≠49 by omega,show 1000*(q+1)+103≠16 by omega,show 1000*(q+1)+103≠11 by omega,show 1000*(q+1)+103≠10 by omega] using h) ?_;simp only [F9,zT,seval];have hag0:∀p∈ps,p.1.agrs=[]:=fun p hp=>(hok p.1 (List.mem_map.2 ⟨p,hp,rfl⟩)).2
 refine dE 49 (gi*5+4) 77 _ 50 1 (by decide) (by rfl) (by decide) (by show (5:Nat)≠0;decide) (lV (aR 103) ps 0 gi (by omega)) ?_;simp only [F9,zT,seval];refine be (vt 49 (bQ (some (gi,nx1)) ps 0) (by rfl) (by show (5:Nat)≠0;decide) (by show _=(List.set _ _ _).length;rw [bL,List.length_set];exact (co (aR 103) ps 0).symm) (mY gi nx1 ps 0 gi (by omega) hag0)) ?_;simp only [F9,zT,seval];have hag1:agG gi ps=[]:=by rw [jh (List.getElem?_eq_getElem (by omega))];exact hag0 _ (List.getElem_mem (by omega))
 have hokB0:∀e∈ps.map (·.1),okB e:=fun e he=>⟨(hok e he).1,by rw [(hok e he).2];simp,by rw [(hok e he).2];simp⟩
 obtain ⟨es0,hes0⟩:∃es0,es0=ps.map (·.1):=⟨_,rfl⟩;rw [←hes0] at hL1;refine aE (tbl 103 38 ps) [4,10,11,12,107,108,109] [49,77,10,11] (by intro y B h;obtain ⟨q,r,rfl,h2,h3⟩:=bD h;right;(try simp only [aj]);(repeat rw [if_neg (by omega)]);exact h) ?_;try simp only [aq,F9,zT,seval]
 repeat' first|apply awS|apply awB
 refine aB (fun n st=>∃k ps s t nx,k<=pools.length/\n=pools.length-k/\(pools.drop k).foldl (fM size) (ps.map (·.1))=pools.foldl (fM size) es0/\ps.length=size/\(∀e∈ps.map (·.1),okB e)/\st=⟨mkT [(4,.val (.one (.sh 3 debts.length (ar cN3 debts)))),(10,.val (.one (.ptr 10 ny 0))),(11,.val (.one (.ptr 11 (ny+1) 0))),(12,one (.int .i64 (size:Int))),(107,.val (.one (.sh 3 pools.length (ar cN3 pools)))),(108,one (.int .i64 pools.length)),(109,one (.int .i64 k))],bW (tbl 103 38 ps) [(49,⟨s,36,5,size,bQ (some (gi,t)) ps 0⟩),(77,⟨t,50,1,(agG gi ps).length,ar aU (agG gi ps)⟩),(10,⟨ny,28,2,1,[.lit (.slice none 0 0),.lit (.slice none 0 0)]⟩),(11,⟨ny+1,28,2,1,[.own 49 s size 5,.lit (.slice none 0 0)]⟩)],nx,0⟩) (pools.length) ⟨0,ps,_,nx1,_,by omega,by omega,by rw [hes0];rfl,hpl,hokB0,by rw [hag1];rfl⟩ ?_;rintro n2 st ⟨k,ps,s,t,nx2,hk,rfl,hL2,hpl,hoB,rfl⟩;by_cases hlt2:(k:Int)<(pools.length:Int)
 ·refine awN ?_;simp only [F9,zT,seval,hlt2];repeat refine ob ?_
  refine awT ?_;refine awK ?_;simp only [F9,zT,seval];have hltn:k<pools.length:=by omega
  have hp3:=hpo _ (List.getElem_mem hltn);have hatl:=aO nU pools k hltn;rw [List.drop_eq_getElem_cons hltn,List.foldl_cons] at hL2;generalize pools[k]=p at *
  have hjl:p.a%size<ps.length:=by rw [hpl];exact Nat.mod_lt _ (by omega)
  have hw4:=jD p.a size;refine awN ?_;simp only [F9,zT,seval,hlt2,hatl,cN3];repeat refine ob ?_
  refine awN ?_;simp only [F9,zT,seval,hw4];repeat refine ob ?_
  obtain ⟨j,hj⟩:∃j,p.a%size=j:=⟨_,rfl⟩;rw [hj] at hjl ⊢;obtain ⟨q,hq⟩:∃q,ps[j]? =some q:=⟨_,List.getElem?_eq_getElem hjl⟩;have hqm:q.1∈ps.map (·.1):=List.mem_map.2 ⟨q,List.mem_of_getElem? hq,rfl⟩;have hokj:=hoB q.1 hqm;have hge:(ps.map (·.1)).getD (p.a%size) bM=q.1:=by rw [hj,List.getD_eq_getElem?_getD,List.getElem?_map,hq];rfl
  obtain ⟨b9,hb9⟩:∃b,b=1000*(j+1)+103:=⟨_,rfl⟩;have hown:aR 103 j q= .own b9 q.2 q.1.claims.length 5:=by rw [hb9];rfl
  have htb:tbl 103 38 ps b9=some ⟨q.2,38,5,q.1.claims.length,ar aA q.1.claims⟩:=by rw [hb9];exact bk (by decide) hq
  have hg4:=(gt (some (gi,t)) ps j q hq).2;have hate:=kA (some (gi,t)) ps 0 j q hq;rw [Nat.zero_add,hown] at hate;have hate0:=kA none ps 0 j q hq;rw [Nat.zero_add,hown] at hate0;have hfl:=bL (some (gi,t)) ps 0;have hfl0:=bL none ps 0;have hsp1:∀x,spl (bQ (some (gi,t)) ps 0) (j*5+4) [x]=(bQ (some (gi,t)) ps 0).set (j*5+4) x:=fun x=>bY _ _ _ (by rw [bL];omega)
  have hsp0:∀x,spl (bQ none ps 0) (j*5+4) [x]=(bQ none ps 0).set (j*5+4) x:=fun x=>bY _ _ _ (by rw [bL];omega)
  have hag:fM size (ps.map (·.1)) p=if ((q.1.agrs.length:Int)<2) then (ps.set j (⟨q.1.cash,q.1.claims,(q.1.agrs++[bgN q.1 p])⟩,q.2)).map (·.1) else ps.map (·.1):=by unfold fM;rw [hge,hj,List.map_set]
  by_cases hjg:j=gi
  ·have hag77:agG gi ps=q.1.agrs:=jh (by rw [←hjg];exact hq);have hx4:(bQ (some (gi,t)) ps 0)[j*5+4]? =some (.own 77 t q.1.agrs.length 1):=by rw [hg4];simp only [aC,if_pos hjg]
   simp only [aC] at hate0;by_cases h2:(q.1.agrs.length:Int)<2
   ·refine awN ?_;simp only [F9,zT,seval,hx4,h2];repeat refine ob ?_
    refine awT ?_;have hpb:(bQ (some (gi,t)) ps 0).set (j*5+4) (.sh 1 q.1.agrs.length (ar aU q.1.agrs))=bQ none ps 0:=by rw [hjg];exact pQ gi t ps q (by rw [←hjg];exact hq)
    refine ao 77 49 (j*5+4) (by rfl) (by rfl) hx4 (by decide) (by show (1:Nat)≠0;decide) (by show (5:Nat)≠0;decide) rfl ?_;simp only [F9,zT,seval,hag77,hpb];have hagr:q.1.claims.length<=30/\q.1.agrs.length<=1000000000000/\∀a∈q.1.agrs,a.length<=1000000000000/\∀t∈a,t.length<=1000000000000:=⟨by have:=hokj.1;omega,by have:=hokj.2.1;omega,fun a ha=>⟨by have:=(hokj.2.2 a ha).1;omega,fun t ht=>by have:=(hokj.2.2 a ha).2 t ht;omega⟩⟩;repeat' first|apply awS|apply awB
    refine lI [135] (by kernel_rfl) (.cons 0 true (.cons 2 true (.cons 3 true (.cons 4 true (.cons 5 true (.cons 6 true (.cons 7 true (.cons 8 true (.two 1 9 (.cons 9 false (.cons 10 true (.cons 11 true (.cons 12 false .nil)))) (.cons 1 true (.cons 10 true (.cons 11 true (.cons 12 false .nil))))))))))))) (by kernel_rfl) (gs:=[none,none,none,none,none,none,none,none,none,none,none,none,none]) (by kernel_rfl) (by simp only [zT,seval];rfl) (by decide) ?_;simp only [F9,zT,seval,hate0,hfl0,(id SD),(id SD)];repeat refine ob ?_
    refine ⟨?_,?_⟩
    ·repeat refine ob ?_
     refine ⟨_,ss q.1 p _ _ b9 q.2 ?_ ?_ (by omega) hp3 hagr.1 hagr.2.1 hagr.2.2,?_⟩
     ·intro x B hB;simp only [aj] at hB;repeat (split at hB;· omega)
      exact iF hB
     ·simp only [aj];repeat rw [if_neg (by omega)]
      exact htb
     rintro res H' nx' ⟨t2,rfl,rfl⟩;try simp only [aq,F9,zT,seval,hfl0,hsp0,(id SD)]
     repeat refine ob ?_
     try simp only [hsp0]
     refine eO 598 77 49 (j*5+4) (by rfl) (by rfl) (by show (List.set _ _ _)[_]? =_;exact List.getElem?_set_self (by rw [bL];omega)) (by decide) (by decide) (by show (1:Nat)≠0;decide) (by show (5:Nat)≠0;decide) rfl ?_;simp only [F9,zT,seval,List.set_set];refine awN ?_;simp only [F9,zT,seval];repeat refine ob ?_
     have hnew:=eX size (ps.map (·.1)) p hoB;rw [hag,if_pos h2] at hL2 hnew;refine ⟨_,bE (tbl 103 38 (ps.set j (⟨q.1.cash,q.1.claims,(q.1.agrs++[bgN q.1 p])⟩,q.2))) [4,10,11,12,107,108,109] [49,77,10,11] (bR (fun i r hr=>?tq66) _),pools.length-(k+1),by omega,k+1,(ps.set j (⟨q.1.cash,q.1.claims,(q.1.agrs++[bgN q.1 p])⟩,q.2)),s,nx',?nq66,by omega,rfl,hL2,by rw [List.length_set];exact hpl,hnew,?sq66⟩;case sq66=>
      have hln:(q.1.agrs++[bgN q.1 p]).length=q.1.agrs.length+1:=by simp
      have hqs:(ps.set j (⟨q.1.cash,q.1.claims,(q.1.agrs++[bgN q.1 p])⟩,q.2))[gi]? =some (⟨q.1.cash,q.1.claims,(q.1.agrs++[bgN q.1 p])⟩,q.2):=by rw [←hjg];exact List.getElem?_set_self hjl
      have hro:=pR gi nx' ps q (q.1.agrs++[bgN q.1 p]) (by rw [←hjg];exact hq);rw [←hjg,hln] at hro;simp only [F9,zT,seval,jh hqs,hln,hro];try rw [hjg]
      try rfl
     case tq66=>
      by_cases hij:i=j
      ·subst hij;rw [List.getElem?_set_self hjl] at hr;obtain rfl:=Option.some.inj hr;simp only [aj];repeat rw [if_neg (by omega)]
       exact bk (by decide) hq
      rw [List.getElem?_set_ne (fun h=>hij h.symm)] at hr;simp only [aj];repeat rw [if_neg (by omega)]
      exact bk (by decide) hr
    repeat refine ob ?_
    refine ⟨_,ss q.1 p _ _ b9 q.2 ?_ ?_ (by omega) hp3 hagr.1 hagr.2.1 hagr.2.2,?_⟩
    ·intro x B hB;simp only [aj] at hB;repeat (split at hB;· omega)
     exact iF hB
    ·simp only [aj];repeat rw [if_neg (by omega)]
     exact htb
    rintro res H' nx' ⟨t2,rfl,rfl⟩;try simp only [aq,F9,zT,seval,hfl0,hsp0,(id SD)]
    repeat refine ob ?_
    try simp only [hsp0]
    refine eO 598 77 49 (j*5+4) (by rfl) (by rfl) (by show (List.set _ _ _)[_]? =_;exact List.getElem?_set_self (by rw [bL];omega)) (by decide) (by decide) (by show (1:Nat)≠0;decide) (by show (5:Nat)≠0;decide) rfl ?_;simp only [F9,zT,seval,List.set_set];refine awN ?_;simp only [F9,zT,seval];repeat refine ob ?_
    have hnew:=eX size (ps.map (·.1)) p hoB;rw [hag,if_pos h2] at hL2 hnew;refine ⟨_,bE (tbl 103 38 (ps.set j (⟨q.1.cash,q.1.claims,(q.1.agrs++[bgN q.1 p])⟩,q.2))) [4,10,11,12,107,108,109] [49,77,10,11] (bR (fun i r hr=>?tq68) _),pools.length-(k+1),by omega,k+1,(ps.set j (⟨q.1.cash,q.1.claims,(q.1.agrs++[bgN q.1 p])⟩,q.2)),s,nx',?nq68,by omega,rfl,hL2,by rw [List.length_set];exact hpl,hnew,?sq68⟩;case sq68=>
     have hln:(q.1.agrs++[bgN q.1 p]).length=q.1.agrs.length+1:=by simp
     have hqs:(ps.set j (⟨q.1.cash,q.1.claims,(q.1.agrs++[bgN q.1 p])⟩,q.2))[gi]? =some (⟨q.1.cash,q.1.claims,(q.1.agrs++[bgN q.1 p])⟩,q.2):=by rw [←hjg];exact List.getElem?_set_self hjl
     have hro:=pR gi nx' ps q (q.1.agrs++[bgN q.1 p]) (by rw [←hjg];exact hq);rw [←hjg,hln] at hro;simp only [F9,zT,seval,jh hqs,hln,hro];try rw [hjg]
     try rfl
    case tq68=>
     by_cases hij:i=j
     ·subst hij;rw [List.getElem?_set_self hjl] at hr;obtain rfl:=Option.some.inj hr;simp only [aj];repeat rw [if_neg (by omega)]
      exact bk (by decide) hq
     rw [List.getElem?_set_ne (fun h=>hij h.symm)] at hr;simp only [aj];repeat rw [if_neg (by omega)]
     exact bk (by decide) hr
   refine awN ?_;simp only [F9,zT,seval,hx4,h2];repeat refine ob ?_
   refine awF ?_;refine awK ?_;simp only [F9,zT,seval];refine awN ?_;simp only [F9,zT,seval];repeat refine ob ?_
   have hnew:=eX size (ps.map (·.1)) p hoB;rw [hag,if_neg h2] at hL2 hnew;refine ⟨_,bE (tbl 103 38 ps) [4,10,11,12,107,108,109] [49,77,10,11] (by intro y B h;obtain ⟨q,r,rfl,h2,h3⟩:=bD h;right;(try simp only [aj]);(repeat rw [if_neg (by omega)]);exact h),pools.length-(k+1),by omega,k+1,ps,s,t,?nq71,by omega,rfl,hL2,hpl,hnew,?sq71⟩;case sq71=>(simp only [F9,zT,seval];rfl)
  have hx4:(bQ (some (gi,t)) ps 0)[j*5+4]? =some (.sh 1 q.1.agrs.length (ar aU q.1.agrs)):=by rw [hg4];simp only [aC,if_neg hjg]
  simp only [aC,if_neg hjg] at hate;by_cases h2:(q.1.agrs.length:Int)<2
  ·refine awN ?_;simp only [F9,zT,seval,hx4,h2];repeat refine ob ?_
   refine awT ?_;have hagr:q.1.claims.length<=30/\q.1.agrs.length<=1000000000000/\∀a∈q.1.agrs,a.length<=1000000000000/\∀t∈a,t.length<=1000000000000:=⟨by have:=hokj.1;omega,by have:=hokj.2.1;omega,fun a ha=>⟨by have:=(hokj.2.2 a ha).1;omega,fun t ht=>by have:=(hokj.2.2 a ha).2 t ht;omega⟩⟩;repeat' first|apply awS|apply awB
   refine lI [135] (by kernel_rfl) (.cons 0 true (.cons 2 true (.cons 3 true (.cons 4 true (.cons 5 true (.cons 6 true (.cons 7 true (.cons 8 true (.two 1 9 (.cons 9 false (.cons 10 true (.cons 11 true (.cons 12 false .nil)))) (.cons 1 true (.cons 10 true (.cons 11 true (.cons 12 false .nil))))))))))))) (by kernel_rfl) (gs:=[none,none,none,none,none,none,none,none,none,none,none,none,none]) (by kernel_rfl) (by simp only [zT,seval];rfl) (by decide) ?_;simp only [F9,zT,seval,hate,hfl,(id SD),(id SD)];repeat refine ob ?_
   refine ⟨?_,?_⟩
   ·repeat refine ob ?_
    refine ⟨_,sn q.1 p _ _ b9 q.2 ?_ ?_ (by omega) hp3 hagr.1 hagr.2.1 hagr.2.2,?_⟩
    ·intro x B hB;simp only [aj] at hB;repeat (split at hB;· omega)
     exact iF hB
    ·simp only [aj];repeat rw [if_neg (by omega)]
     exact htb
    rintro res H' nx' ⟨rfl,rfl⟩;try simp only [aq,F9,zT,seval,hfl,hsp1,(id SD)]
    repeat refine ob ?_
    try simp only [hsp1]
    refine awN ?_;simp only [F9,zT,seval];repeat refine ob ?_
    have hnew:=eX size (ps.map (·.1)) p hoB;rw [hag,if_pos h2] at hL2 hnew;refine ⟨_,bE (tbl 103 38 (ps.set j (⟨q.1.cash,q.1.claims,(q.1.agrs++[bgN q.1 p])⟩,q.2))) [4,10,11,12,107,108,109] [49,77,10,11] (bR (fun i r hr=>?tq75) _),pools.length-(k+1),by omega,k+1,(ps.set j (⟨q.1.cash,q.1.claims,(q.1.agrs++[bgN q.1 p])⟩,q.2)),s,t,?nq75,by omega,rfl,hL2,by rw [List.length_set];exact hpl,hnew,?sq75⟩;case sq75=>
     have hro:=sr gi t j ps q (q.1.agrs++[bgN q.1 p]) hq hjg;simp only [F9,zT,seval,so (fun e=>hjg e.symm),hro];try rfl
    case tq75=>
     by_cases hij:i=j
     ·subst hij;rw [List.getElem?_set_self hjl] at hr;obtain rfl:=Option.some.inj hr;simp only [aj];repeat rw [if_neg (by omega)]
      exact bk (by decide) hq
     rw [List.getElem?_set_ne (fun h=>hij h.symm)] at hr;simp only [aj];repeat rw [if_neg (by omega)]
     exact bk (by decide) hr
   repeat refine ob ?_
   refine ⟨_,sn q.1 p _ _ b9 q.2 ?_ ?_ (by omega) hp3 hagr.1 hagr.2.1 hagr.2.2,?_⟩
   ·intro x B hB;simp only [aj] at hB;repeat (split at hB;· omega)
    exact iF hB
   ·simp only [aj];repeat rw [if_neg (by omega)]
    exact htb
   rintro res H' nx' ⟨rfl,rfl⟩;try simp only [aq,F9,zT,seval,hfl,hsp1,(id SD)]
   repeat refine ob ?_
   try simp only [hsp1]
   refine awN ?_;simp only [F9,zT,seval];repeat refine ob ?_
   have hnew:=eX size (ps.map (·.1)) p hoB;rw [hag,if_pos h2] at hL2 hnew;refine ⟨_,bE (tbl 103 38 (ps.set j (⟨q.1.cash,q.1.claims,(q.1.agrs++[bgN q.1 p])⟩,q.2))) [4,10,11,12,107,108,109] [49,77,10,11] (bR (fun i r hr=>?tq77) _),pools.length-(k+1),by omega,k+1,(ps.set j (⟨q.1.cash,q.1.claims,(q.1.agrs++[bgN q.1 p])⟩,q.2)),s,t,?nq77,by omega,rfl,hL2,by rw [List.length_set];exact hpl,hnew,?sq77⟩;case sq77=>
    have hro:=sr gi t j ps q (q.1.agrs++[bgN q.1 p]) hq hjg;simp only [F9,zT,seval,so (fun e=>hjg e.symm),hro];try rfl
   case tq77=>
    by_cases hij:i=j
    ·subst hij;rw [List.getElem?_set_self hjl] at hr;obtain rfl:=Option.some.inj hr;simp only [aj];repeat rw [if_neg (by omega)]
     exact bk (by decide) hq
    rw [List.getElem?_set_ne (fun h=>hij h.symm)] at hr;simp only [aj];repeat rw [if_neg (by omega)]
    exact bk (by decide) hr
  refine awN ?_;simp only [F9,zT,seval,hx4,h2];repeat refine ob ?_
  refine awF ?_;refine awK ?_;simp only [F9,zT,seval];refine awN ?_;simp only [F9,zT,seval];repeat refine ob ?_
  have hnew:=eX size (ps.map (·.1)) p hoB;rw [hag,if_neg h2] at hL2 hnew;refine ⟨_,bE (tbl 103 38 ps) [4,10,11,12,107,108,109] [49,77,10,11] (by intro y B h;obtain ⟨q,r,rfl,h2,h3⟩:=bD h;right;(try simp only [aj]);(repeat rw [if_neg (by omega)]);exact h),pools.length-(k+1),by omega,k+1,ps,s,t,?nq80,by omega,rfl,hL2,hpl,hnew,?sq80⟩;case sq80=>(simp only [F9,zT,seval];rfl)
 refine awN ?_;simp only [F9,zT,seval,hlt2];repeat refine ob ?_
 refine awF ?_;refine awQ ?_;simp only [F9,zT,seval];refine awN ?_;simp only [F9,zT,seval];repeat refine ob ?_
 obtain rfl:k=pools.length:=by omega
 rw [List.drop_length,List.foldl_nil] at hL2;refine aE (tbl 103 38 ps) [10,11,12,139,140,141] [49,77,10,11] (by intro y B h;obtain ⟨q,r,rfl,h2,h3⟩:=bD h;right;(try simp only [aj]);(repeat rw [if_neg (by omega)]);exact h) ?_;simp only [F9,zT,seval];refine dE 11 1 51 _ 42 4 (by decide) (by rfl) (by decide) (by show (2:Nat)≠0;decide) (by rfl) ?_;simp only [F9,zT,seval];rw [←vW 38 44 ps];obtain ⟨es,hes⟩:∃es,es=ps.map (·.1):=⟨_,rfl⟩;rw [←hes] at hL2 hoB;have hel:es.length=size:=by rw [hes,List.length_map];exact hpl
 have hg9:∀q∈ps,q.1.claims.length<=1000:=fun q hq=>by
  have:=(hoB q.1 (by rw [hes];exact List.mem_map.2 ⟨q,hq,rfl⟩)).1;omega
 obtain ⟨qg,hqg⟩:∃q,ps[gi]? =some q:=⟨_,List.getElem?_eq_getElem (by omega)⟩;have hagq:=jh hqg;refine aE (cF 38 44 ps []) [10,11,12,139,140,141] [49,77,10,51,11] (by intro y B h;right;rcases aZ h with ⟨q,r,rfl,h2,h3⟩|⟨q,r,rfl,h2,h3⟩<;>(try simp only [aj])<;>(repeat rw [if_neg (by omega)])<;>exact h) ?_;try simp only [aq,F9,zT,seval]
 repeat' first|apply awS|apply awB
 refine aB (fun n st=>∃k ds s8 nx,k<=debts.length/\n=debts.length-k/\(debts.drop k).foldl (fN es) (ds.map (·.1))=debts.foldl (fN es) []/\ds.length<=3/\(∀x∈ds.map (·.1),x.legs.length<=4)/\st=⟨mkT [(10,.val (.one (.ptr 10 ny 0))),(11,.val (.one (.ptr 11 (ny+1) 0))),(12,one (.int .i64 (size:Int))),(139,.val (.one (.sh 3 debts.length (ar cN3 debts)))),(140,one (.int .i64 debts.length)),(141,one (.int .i64 k))],bW (cF 38 44 ps ds) [(49,⟨s,36,5,size,bQ (some (gi,t)) ps 0⟩),(77,⟨t,50,1,(agG gi ps).length,ar aU (agG gi ps)⟩),(10,⟨ny,28,2,1,[.lit (.slice none 0 0),.lit (.slice none 0 0)]⟩),(51,⟨s8,42,4,ds.length,dRw ds 0⟩),(11,⟨ny+1,28,2,1,[.own 49 s size 5,.own 51 s8 ds.length 4]⟩)],nx,0⟩) (debts.length) ⟨0,[],_,_,by omega,by omega,rfl,by simp,by simp,rfl⟩ ?_;rintro n3 st ⟨k,ds,s8,nx3,hk,rfl,hL3,hdn,hdl,rfl⟩;by_cases hlt3:(k:Int)<(debts.length:Int)
 ·refine awN ?_;simp only [F9,zT,seval,hlt3];repeat refine ob ?_
  refine awT ?_;refine awK ?_;simp only [F9,zT,seval];have hltn:k<debts.length:=by omega
  have hd3:=hdo _ (List.getElem_mem hltn);have hatl:=aO nU debts k hltn;rw [List.drop_eq_getElem_cons hltn,List.foldl_cons] at hL3;generalize debts[k]=d at *
  refine awN ?_;simp only [F9,zT,seval,hlt3,hatl,cN3];repeat refine ob ?_
  by_cases h3:(ds.length:Int)<3
  ·refine awN ?_;simp only [F9,zT,seval,h3];repeat refine ob ?_
   refine awT ?_;refine awR [151] [0,0,0,0,0] ?_;simp only [F9,zT,seval,(id SD)];repeat refine ob ?_
   refine ⟨_,y6 (some (gi,t)) size ps hpl ds d _ _ s s8 ?_ ?_ ?_ ?_ ?_ ?_ hd3 (by omega) hg9 (by omega) (fun x hx=>by have:=hdl x hx;omega),?_⟩
   ·intro x B hB;simp only [aj] at hB;repeat (split at hB;· omega)
    exact lU hB
   ·simp only [aj];rfl
   ·simp only [aj];rfl
   ·intro j q hq;simp only [aj];repeat rw [if_neg (by omega)]
    exact iE hq
   ·intro j q hq;simp only [aj];repeat rw [if_neg (by omega)]
    exact gH hq
   ·intro q p hq hp;obtain rfl:=Option.some.inj hq;simp only at hp;rw [←jh hp];simp only [aj];rfl
   rintro res H' nx' ⟨t1,t2,rfl,rfl⟩;rw [←hes];try simp only [aq,F9,zT,seval,(id SD)]
   repeat refine ob ?_
   refine eO 620 51 11 1 (by rfl) (by rfl) (by rfl) (by decide) (by decide) (by show (4:Nat)≠0;decide) (by show (2:Nat)≠0;decide) rfl ?_;simp only [F9,zT,seval];refine awN ?_;simp only [F9,zT,seval];repeat refine ob ?_
   have hnew:=py es (ds.map (·.1)) d hdl (by rw [List.length_map];exact hdn);have hag:fN es (ds.map (·.1)) d=(ds++[(owN ⟨es,ds.map (·.1)⟩ d,t2)]).map (·.1):=by unfold fN;rw [List.length_map,if_pos h3,List.map_append];rfl
   rw [hag] at hL3 hnew;refine ⟨_,bE (cF 38 44 ps (ds++[(owN ⟨es,ds.map (·.1)⟩ d,t2)])) [10,11,12,139,140,141] [49,77,10,51,11] (fun x B h=>?hq88),debts.length-(k+1),by omega,k+1,(ds++[(owN ⟨es,ds.map (·.1)⟩ d,t2)]),nx',?nq88,by omega,rfl,hL3,?lq88,hnew.1,?sq88⟩;case lq88=>(have:=hnew.2;rw [List.length_map] at this;exact this)
   case sq88=>(simp only [F9,zT,seval,List.length_append];rfl)
   case hq88=>
    right;rcases aZ h with ⟨i,r,rfl,hr,rfl⟩|⟨i,r,rfl,hr,rfl⟩
    ·simp only [aj];repeat rw [if_neg (by omega)]
     exact iE hr
    by_cases hi:i=ds.length
    ·subst hi;rw [List.getElem?_append_right (Nat.le_refl _),Nat.sub_self] at hr;obtain rfl:=Option.some.inj hr;simp only [aj];repeat rw [if_neg (by omega)]
     first|rw [if_pos rfl]|rw [if_pos trivial]|rfl
    have hlt:i<ds.length:=by
     have:=(List.getElem?_eq_some_iff.1 hr).1;simp at this;omega
    rw [List.getElem?_append_left hlt] at hr;simp only [aj];repeat rw [if_neg (by omega)]
    exact gH hr
  refine awN ?_;simp only [F9,zT,seval,h3];repeat refine ob ?_
  refine awF ?_;refine awK ?_;simp only [F9,zT,seval];refine awN ?_;simp only [F9,zT,seval];repeat refine ob ?_
  have hnew:=py es (ds.map (·.1)) d hdl (by rw [List.length_map];exact hdn);have hag:fN es (ds.map (·.1)) d=ds.map (·.1):=by unfold fN;rw [List.length_map,if_neg h3]
  rw [hag] at hL3 hnew;refine ⟨_,bE (cF 38 44 ps ds) [10,11,12,139,140,141] [49,77,10,51,11] (fun x B h=>?hq91),debts.length-(k+1),by omega,k+1,ds,s8,?nq91,by omega,rfl,hL3,hdn,hnew.1,?sq91⟩;case sq91=>(simp only [F9,zT,seval];rfl)
  case hq91=>
   right;rcases lU h with hx|hx|hx
   ·rw [vU (by omega)] at h;cases h
   all_goals
    simp only [aj];repeat rw [if_neg (by omega)]
    exact h
 refine awN ?_;simp only [F9,zT,seval,hlt3];repeat refine ob ?_
 refine awF ?_;refine awQ ?_;simp only [F9,zT,seval];refine awN ?_;simp only [F9,zT,seval];repeat refine ob ?_
 rw [List.drop_eq_nil_of_le (by omega),List.foldl_nil] at hL3;refine aE (cF 38 44 ps ds) [10] [10,49,77,51] (by intro y B h;right;rcases aZ h with ⟨q,r,rfl,h2,h3⟩|⟨q,r,rfl,h2,h3⟩<;>(try simp only [aj])<;>(repeat rw [if_neg (by omega)])<;>exact h) ?_;simp only [F9,zT,seval];refine awX ?_;have hE:iJ n cash list pools=es:=by unfold iJ;rw [hsz,←hL1];exact hL2.symm
 simp only [F9,zT,seval];subst hpl;try refine ⟨trivial,?_⟩
 exact ⟨ps,ds,s,s8,t,by rw [hE];exact hes.symm,by simp only [vz,hE,←hL3],rfl,rfl⟩
def dM (j:Nat) (ds:List (GDebt×Nat)):List C:=ar cn ((ds.take j).map (·.1))++dRw (ds.drop j) j
theorem y7 (ds:List (GDebt×Nat)):dM ds.length ds=ar cn (ds.map (·.1)):=by
 unfold dM;rw [List.take_length,List.drop_length];simp [dRw]
theorem xI (ds:List (GDebt×Nat)) (j:Nat) (p:GDebt×Nat) (hp:ds[j]? =some p):
  (dM j ds)[j*4+3]? =some (j1 j p)/\(dM j ds).set (j*4+3) (.sh 2 p.1.legs.length (ar bp p.1.legs))=dM (j+1) ds:=by
 obtain ⟨hlt,hpj⟩:=List.getElem?_eq_some_iff.1 hp;have hl:(ar cn ((ds.take j).map (·.1))).length=j*4:=by
  rw [aS (sz:=4) (fun d=>rfl),List.length_map,List.length_take];congr 1;omega
 have hd:ds.drop j=p::ds.drop (j+1):=by rw [List.drop_eq_getElem_cons hlt,hpj]
 have ht:ds.take (j+1)=ds.take j++[p]:=by rw [List.take_add_one,hp];rfl
 unfold dM;rw [hd,ht,List.map_append,aV];constructor
 ·rw [List.getElem?_append_right (by rw [hl];omega),hl,Nat.add_sub_cancel_left];rfl
 rw [List.set_append_right _ _ (by rw [hl];omega),hl,Nat.add_sub_cancel_left,List.append_assoc];rfl
def lX (j:Nat) (T:Hp):Hp:=fun nm=>if 1000<=nm/\nm%1000=104/\nm/1000<=j then none else T nm
section
variable {P : Program} {e : En} {k0 : Kx} {N : Nat} {tm : Nat → AV} {nb s : Nat} {Q : Exit → St → Prop} {c : Code}
theorem tP (T : Hp) (E E3 : TypeId) (nm2 : Nat) (m : List (Nat × Blk)) (hm : ∀ p ∈ m, p.1 < 1000) (hnm2 : nm2 < 1000) (n nx j : Nat) (ds : List (GDebt × Nat)) (p : GDebt × Nat) (hp : ds[j]? = some p) (hT : T (1000 * (j + 1) + 104) = some ⟨p.2, E, 2, p.1.legs.length, ar bp p.1.legs⟩) :
    Wk e k0 N ⟨tm, bW (lX j T) ((nm2, ⟨s, E3, 4, n, dM j ds⟩) :: m), nx, nb⟩
      ⟨tm, bW (lX (j + 1) T) ((nm2, ⟨s, E3, 4, n, dM (j + 1) ds⟩) :: m), nx, nb⟩ := by
  intro a w hr
  obtain ⟨hg, hset⟩ := xI ds j p hp
  have h1 := gF (nm := 1000 * (j + 1) + 104) (nm2 := nm2) (off := j * 4 + 3) (s := p.2) (n := p.1.legs.length) (sz := 2) (B := ⟨p.2, E, 2, p.1.legs.length, ar bp p.1.legs⟩) (B2 := ⟨s, E3, 4, n, dM j ds⟩)
    (by show bW _ _ _ = _
        rw [bW.eq_2, ck _ _ (by omega), fq (by omega) hm]
        unfold lX
        rw [if_neg (by omega)]; exact hT)
    (by show bW _ _ _ = _
        rw [bW.eq_2, bB]) (by omega) (by show (2 : Nat) ≠ 0; decide) (by show (4 : Nat) ≠ 0; decide) rfl
    hg hr
  simp only [] at h1
  rw [hset] at h1
  refine gT _ _ (fun t => .inl rfl) (fun nm B hB => ?_) h1
  show up (up _ _ _) nm2 _ nm = some B
  rw [bW.eq_2, aj] at hB
  rw [aj]
  split
  · rename_i h; rw [if_pos h] at hB; exact hB
  rename_i h
  rw [if_neg h] at hB
  rw [aj]
  split
  · rename_i h4
    subst h4
    rw [fq (by omega) hm] at hB
    unfold lX at hB
    rw [if_pos (by omega)] at hB
    cases hB
  rename_i h4
  show bW _ _ _ = _
  rw [bW.eq_2, ck _ _ h]
  rw [← hB]
  refine jB ?_
  unfold lX
  by_cases hx : 1000 ≤ nm ∧ nm % 1000 = 104 ∧ nm / 1000 ≤ j
  · rw [if_pos hx, if_pos (by omega)]
  rw [if_neg hx, if_neg (by omega)]
theorem tQ (T:Hp):lX 0 T=T:=by
 funext nm;unfold lX;rw [if_neg (by omega)]
theorem vX (E E2:TypeId) (ps:List (GEst×Nat)) (ds:List (GDebt×Nat)):lX ds.length (cF E E2 ps ds)=tbl 103 E ps:=by
 funext nm;unfold lX;split
 ·rename_i h;exact (if_neg (by omega)).symm
 rename_i h;unfold cF orT;cases hx:tbl 103 E ps nm with
 |some B=>rfl
 |none=>
  show mi E2 ds nm=none;cases hy:mi E2 ds nm with
  |none=>rfl
  |some B=>
   obtain ⟨i,p,rfl,h2,_⟩:=mW hy;have:=(List.getElem?_eq_some_iff.1 h2).1;exact absurd ⟨by omega,by omega,by omega⟩ h
theorem b7 (E E2 E3 : TypeId) (nm2 : Nat) (m : List (Nat × Blk)) (hm : ∀ p ∈ m, p.1 < 1000) (hnm2 : nm2 < 1000) (n nx : Nat) (ps : List (GEst × Nat)) (ds : List (GDebt × Nat)) :
    Wk e k0 N ⟨tm, bW (cF E E2 ps ds) ((nm2, ⟨s, E3, 4, n, dRw ds 0⟩) :: m), nx, nb⟩ ⟨tm, bW (tbl 103 E ps) ((nm2, ⟨s, E3, 4, n, ar cn (ds.map (·.1))⟩) :: m), nx, nb⟩ := by
  have key : ∀ j, j ≤ ds.length → Wk e k0 N ⟨tm, bW (lX 0 (cF E E2 ps ds)) ((nm2, ⟨s, E3, 4, n, dM 0 ds⟩) :: m), nx, nb⟩
      ⟨tm, bW (lX j (cF E E2 ps ds)) ((nm2, ⟨s, E3, 4, n, dM j ds⟩) :: m), nx, nb⟩ := by
    intro j
    induction j with
    | zero => intro _; exact Wk.refl _
    | succ j ih =>
      intro hj
      have hp := List.getElem?_eq_getElem (show j < ds.length by omega)
      exact Wk.trans (ih (by omega)) (tP _ E2 E3 nm2 m hm hnm2 n nx j ds _ hp (gH hp))
  have h1 := key ds.length (Nat.le_refl _)
  rw [tQ, vX, y7] at h1
  exact h1
end
theorem xY (n m:Nat):((n:Nat):Int).tmod (m:Int)=((n%m:Nat):Int):=by norm_cast
def pkN (k n:Nat):Nat:=if n=0 then 0 else k%n
theorem vY (k n:Nat) (hk:k<=1000000) (hn:n<=1000000):ch prog 11 [.one (.lit (.int .i64 (k:Int))),.one (.lit (.int .i64 (n:Int)))] (one (.int .i64 ((pkN k n:Nat):Int))):=by
 refine bF func11 rfl (by decide) (N:=14) rfl (by simp) (R:=[.tmp 4]) rfl fun en k0=>?_
 refine awN ?_;simp only [zT,seval];repeat refine ob ?_
 by_cases h0:(n:Int)<=0
 ·skip;refine awN ?_;simp only [zT,seval,h0];repeat refine ob ?_
  refine awT ?_;refine awN ?_;simp only [zT,seval,h0];repeat refine ob ?_
  refine awX ?_;simp only [zT,seval];have hn0:n=0:=by omega
  simp [pkN,hn0]
 skip;refine awN ?_;simp only [zT,seval,h0];repeat refine ob ?_
 refine awF ?_;refine awK ?_;simp only [zT,seval];have w1:((k:Nat):Int).tmod n=((k%n:Nat):Int):=xY k n;have w2:((k%n:Nat):Int)+n=((k%n+n:Nat):Int):=by norm_cast
 have w3:((k%n+n:Nat):Int).tmod n=((k%n:Nat):Int):=by rw [xY,Nat.add_mod_right,Nat.mod_mod]
 have hkn:k%n<n:=Nat.mod_lt _ (by omega);refine awN ?_;simp only [zT,seval,h0,w1,w2,w3];repeat refine ob ?_
 refine awX ?_;simp only [zT,seval];have hn0:¬n=0:=by omega
 simp [pkN,hn0]
end Go.Proofs.YtcgpghifhehlhaaGreatDoor
namespace Go.Proofs.YtcgpghifhehlhaaGreatDoor
open Go.RowKit Go.Proofs.Tryz
def RL (w:World) (v:Value) (l:List GRat):Prop:=ax 3 x6 w (LT w.heap.size) [v] l
theorem RL.below {w w':World} {v:Value} {l:List GRat} (h:RL w v l) (hb:Below w.heap.size w w'):RL w' v l:=(aF p7).below h hb hb.size
theorem RL.drew {w:World} {v:Value} {l:List GRat} (h:RL w v l):RL w.drew v l:=h
theorem RL.open {w:World} {v:Value} {l:List GRat} (h:RL w v l):
  ∃a cap,v= .slice a l.length cap/\l.length<=9223372036854775807/\(l=[]∨∃b off,a=some ⟨b,off,none⟩/\b<w.heap.size/\∀j (h:j<l.length),w.cell? ⟨b,off+j*3,none⟩=some (.bool l[j].neg)/\w.cell? ⟨b,off+j*3+1,none⟩=some (.string l[j].num)/\w.cell? ⟨b,off+j*3+2,none⟩=some (.string l[j].den)/\sB maxLen l[j]):=by
 obtain ⟨a,cap,hv,h1,h2,h3,h4⟩:=h;simp only [List.cons.injEq,and_true] at hv;refine ⟨a,cap,hv,dX h1 h2,?_⟩;rcases h4 with h4|⟨b,off,h5,h6,h7⟩
 ·exact .inl h4
 refine .inr ⟨b,off,h5,h6,fun j hj=>?_⟩;obtain ⟨cs,k1,k2,rfl,k3,k4⟩:=h7 j hj;exact ⟨k2 0 (by decide),k2 1 (by decide),k2 2 (by decide),k3,k4⟩
theorem Tryz.infoRat:(prog.info? 32).map (fun i=>(i.zero,i.size,i.bytes))=some (some (.agg #[.bool false,.string {data:= #[]},.string {data:= #[]}]),3,40):=by kernel_rfl
theorem vZ (w:World) (S:Nat->Prop) (r:GRat) (h:sB maxLen r):x6 w S [.bool r.neg,.string r.num,.string r.den] r:=⟨rfl,h.1,h.2⟩
theorem qZ {m:Nat} {r:GRat} (h:sB m r) (hm:m<=100000000000):sB maxLen r:=h.mono (by unfold maxLen;omega)
def iS (rs:List GRat) (j:Nat):Value:=if j%3=0 then .bool (rs.getD (j/3) gZ).neg else if j%3=1 then .string (rs.getD (j/3) gZ).num else .string (rs.getD (j/3) gZ).den
def OwnR (w:World) (g n:Nat) (rs:List GRat):Prop:=rs.length=n/\Own w g 32 (n*3) (iS rs)
theorem v7 (rs:List GRat) (k:Nat):iS rs (k*3)= .bool (rs.getD k gZ).neg:=by
 unfold iS;rw [if_pos (by omega),show k*3/3=k by omega]
theorem v8 (rs:List GRat) (k:Nat):iS rs (k*3+1)= .string (rs.getD k gZ).num:=by
 unfold iS;rw [if_neg (by omega),if_pos (by omega),show (k*3+1)/3=k by omega]
theorem wg (rs:List GRat) (k:Nat):iS rs (k*3+2)= .string (rs.getD k gZ).den:=by
 unfold iS;rw [if_neg (by omega),if_neg (by omega),show (k*3+2)/3=k by omega]
theorem OwnR.facts {w:World} {g n:Nat} {rs:List GRat} (h:OwnR w g n rs) {k:Nat} (hk:k<n):
  w.cell? ⟨g,k*3,none⟩=some (.bool (rs.getD k gZ).neg)/\w.cell? ⟨g,k*3+1,none⟩=some (.string (rs.getD k gZ).num)/\w.cell? ⟨g,k*3+2,none⟩=some (.string (rs.getD k gZ).den)/\(∀j,w.frozen? ⟨g,j,none⟩=false)/\g<w.heap.size:=by
 have h1:=h.2.cell (j:=k*3) (by omega);have h2:=h.2.cell (j:=k*3+1) (by omega);have h3:=h.2.cell (j:=k*3+2) (by omega);rw [v7] at h1;rw [v8] at h2;rw [wg] at h3;exact ⟨h1,h2,h3,fun j=>h.2.frozen j,h.2.lt⟩
theorem OwnR.put {w:World} {g n:Nat} {rs:List GRat} (h:OwnR w g n rs) {k:Nat} (hk:k<n) (r:GRat):
  OwnR (((w.setCell ⟨g,k*3,none⟩ (.bool r.neg)).setCell ⟨g,k*3+1,none⟩ (.string r.num)).setCell ⟨g,k*3+2,none⟩ (.string r.den)) g n (rs.set k r):=by
 refine ⟨by rw [List.length_set];exact h.1,(((h.2.set _ _).set _ _).set _ _).congr fun j hj=>?_⟩;have hk':k<rs.length:=by rw [h.1];exact hk
 unfold upd;by_cases e2:j=k*3+2
 ·rw [if_pos e2,e2,wg];simp [List.getD,hk']
 rw [if_neg e2];by_cases e1:j=k*3+1
 ·rw [if_pos e1,e1,v8];simp [List.getD,hk']
 rw [if_neg e1];by_cases e0:j=k*3
 ·rw [if_pos e0,e0,v7];simp [List.getD,hk']
 rw [if_neg e0];have hne:¬k=j/3:=by omega
 unfold iS;simp [List.getD,hne]
theorem OwnR.below {w w':World} {g n:Nat} {rs:List GRat} (h:OwnR w g n rs) (hb:Below w.heap.size w w'):OwnR w' g n rs:=⟨h.1,h.2.below hb h.2.lt⟩
theorem OwnR.alloc {w:World} {g n:Nat} {rs:List GRat} (h:OwnR w g n rs) (o:Obj):OwnR (w.alloc o) g n rs:=⟨h.1,h.2.alloc o⟩
theorem OwnR.drew {w:World} {g n:Nat} {rs:List GRat} (h:OwnR w g n rs):OwnR w.drew g n rs:=h
theorem OwnR.other {w:World} {g g' n:Nat} {rs:List GRat} (h:OwnR w g n rs) (hne:g'≠g) (r:GRat):OwnR (lz w g' r) g n rs:=⟨h.1,((h.2.other hne _ _).other hne _ _).other hne _ _⟩
theorem Bx.other' {w:World} {b b' p q s:Nat} {x y z:Value} {r:GRat} (h:Bx w b r) (hne:b'≠b):Bx (((w.setCell ⟨b',p,none⟩ x).setCell ⟨b',q,none⟩ y).setCell ⟨b',s,none⟩ z) b r:=((Blk3.other h hne _ _).other hne _ _).other hne _ _
theorem OwnR.new (w:World) (n:Nat):OwnR (w.alloc (.cells (madeCells #[.bool false,.string {data:= #[]},.string {data:= #[]}] (n*3)) 32)) w.heap.size n (List.replicate n gZ):=by
 refine ⟨by simp,?_⟩;unfold Own;rw [heap_alloc_new];congr 2;apply Array.ext
 ·simp [madeCells]
 intro i h1 h2;have hi:i<n*3:=by simpa using h2
 have e:(List.replicate n gZ).getD (i/3) gZ=gZ:=by simp [List.getD,List.getElem?_replicate];split<;>rfl
 simp only [madeCells,Array.getElem_map,Array.getElem_range,iS,e];have:i%3=0∨i%3=1∨i%3=2:=by omega
 rcases this with h|h|h<;>simp [h]<;>rfl
theorem OwnR.reads {w:World} {g n:Nat} {rs:List GRat} (h:OwnR w g n rs) (hn:n<=maxLen) (hs:∀r∈rs,sB maxLen r):RL w (.slice (some ⟨g,0,none⟩) n n) rs:=by
 refine ⟨some ⟨g,0,none⟩,n,by rw [h.1],by rw [h.1];exact Nat.le_refl _,hn,by simp,.inr ⟨g,0,rfl,h.2.lt,fun j hj=>⟨[.bool rs[j].neg,.string rs[j].num,.string rs[j].den],rfl,?_,vZ _ _ _ (hs _ (List.getElem_mem hj))⟩⟩⟩;intro c hc;obtain ⟨f0,f1,f2,_⟩:=h.facts (k:=j) (by rw [←h.1];exact hj);have e:rs.getD j gZ=rs[j]:=by simp [List.getD,hj]
 rw [e] at f0 f1 f2;have:c=0∨c=1∨c=2:=by omega
 rcases this with rfl|rfl|rfl
 ·simpa using f0
 ·simpa using f1
 simpa using f2
attribute [local go_sem ↓] Go.wp_at_zero Go.wp_at_succ
noncomputable def qL (l:List GRat):List Rat:=l.map qOf
theorem wi (l:List GRat) (k:Nat) (h:k<l.length):(qL l).getD k 0=qOf l[k]:=by simp [qL,List.getD,h]
theorem wj (l:List GRat):(qL l).length=l.length:=by simp [qL]
theorem iG {m:Nat} {q:Rat} (h:qB m q):qB m (fA q):=by
 unfold fA;split
 ·exact jy.mono h.pos
 exact h
theorem wk {l:List Rat} {m:Nat} (h:∀k,qB m (l.getD k 0)) (hm:0<m):∀k,qB (m*(k+1)+k) (gS l k):=by
 intro k;induction k with
 |zero=>exact jy.mono (by omega)
 |succ k ih=>
  rw [rQ];have:=ih.add (iG (h k));refine this.mono ?_;have:m*(k+1+1)=m*(k+1)+m:=Nat.mul_succ _ _;omega
theorem zW {l:List GRat} {m:Nat} (h:∀r∈l,sB m r) (hm:0<m):∀k,qB m ((qL l).getD k 0):=by
 intro k;rcases Nat.lt_or_ge k l.length with h1|h1
 ·rw [wi _ _ h1];exact (h _ (List.getElem_mem h1)).qB hm
 simp only [qL,List.getD,List.getElem?_map,List.getElem?_eq_none h1,Option.map_none,Option.getD_none];exact jy.mono hm
noncomputable def eK (W:Rat) (l:List Rat) (n k:Nat):List GRat:=(List.range n).map fun j=>if j<k then enc (gO W l (j+1)-gO W l j) else gZ
theorem pS (W:Rat) (l:List Rat) (n:Nat):eK W l n 0=List.replicate n gZ:=by
 apply List.ext_getElem<;>simp [eK]
theorem q8 (W:Rat) (l:List Rat) (n k:Nat):(eK W l n k).set k (enc (gO W l (k+1)-gO W l k))=eK W l n (k+1):=by
 apply List.ext_getElem (by simp [eK]);intro j h1 h2;simp only [eK,List.getElem_set,List.getElem_map,List.getElem_range];by_cases e:k=j
 ·subst e;simp
 rw [if_neg e];by_cases hj:j<k
 ·rw [if_pos hj,if_pos (by omega)]
 rw [if_neg hj,if_neg (by omega)]
theorem ra (W:Rat) (l:List Rat):eK W l l.length l.length=(gR W l).map enc:=by
 apply List.ext_getElem (by simp [eK,gR]);intro j h1 h2;have:j<l.length:=by simpa [eK] using h1
 simp [eK,gR,this]
theorem su {W:Rat} {l:List Rat} {m M:Nat} (hW:qB M W) (h:∀k,qB m (l.getD k 0)) (hm:0<m) (k:Nat):qB (m*(k+1)+k+M+1) (gO W l k):=by
 unfold gO;exact iG ((wk h hm k).sub (iG hW))
def RSt (w wr:World) (W:GRat) (n:Nat) (rs:List GRat) (s o:GRat):Prop:=
 Bx wr w.heap.size W/\OwnR wr (w.heap.size+1) n rs/\Bx wr (w.heap.size+1+1) s/\Bx wr (w.heap.size+1+1+1) o/\Below w.heap.size w wr
section
variable {w wr : World} {W : GRat} {n : Nat} {rs : List GRat} {s o : GRat}
theorem RSt.next {w':World} (h:RSt w wr W n rs s o) (hb:Below wr.heap.size wr w'):RSt w w' W n rs s o:=⟨h.1.below hb,h.2.1.below hb,h.2.2.1.below hb,h.2.2.2.1.below hb,h.2.2.2.2.step hb⟩
theorem RSt.drew (h:RSt w wr W n rs s o):RSt w wr.drew W n rs s o:=⟨h.1.drew,h.2.1.drew,h.2.2.1.drew,h.2.2.2.1.drew,Below.drew h.2.2.2.2⟩
theorem RSt.alloc (h:RSt w wr W n rs s o) (b:Obj):RSt w (wr.alloc b) W n rs s o:=h.next ((Below.refl _ _).alloc (Nat.le_refl _) _)
theorem RSt.putS (h:RSt w wr W n rs s o) (a:GRat):RSt w (lz wr (w.heap.size+1+1) a) W n rs a o:=
 ⟨h.1.other (by omega) a,h.2.1.other (by omega) a,h.2.2.1.put a,h.2.2.2.1.other (by omega) a,dS h.2.2.2.2 (by omega) a⟩
theorem RSt.putO (h:RSt w wr W n rs s o) (a:GRat):RSt w (lz wr (w.heap.size+1+1+1) a) W n rs s a:=
 ⟨h.1.other (by omega) a,h.2.1.other (by omega) a,h.2.2.1.other (by omega) a,h.2.2.2.1.put a,dS h.2.2.2.2 (by omega) a⟩
theorem RSt.putG (h:RSt w wr W n rs s o) {g:Nat} (hg:w.heap.size+1+1+1<g) (a:GRat):RSt w (lz wr g a) W n rs s o:=
 ⟨h.1.other (by omega) a,h.2.1.other (by omega) a,h.2.2.1.other (by omega) a,h.2.2.2.1.other (by omega) a,dS h.2.2.2.2 (by omega) a⟩
theorem RSt.lt (h:RSt w wr W n rs s o):w.heap.size+1+1+1<wr.heap.size:=Blk3.lt h.2.2.2.1
theorem RSt.putR (h:RSt w wr W n rs s o) {k:Nat} (hk:k<n) (a:GRat):RSt w (((wr.setCell ⟨w.heap.size+1,k*3,none⟩ (.bool a.neg)).setCell ⟨w.heap.size+1,k*3+1,none⟩ (.string a.num)).setCell ⟨w.heap.size+1,k*3+2,none⟩ (.string a.den)) W n (rs.set k a) s o:=
 ⟨h.1.other' (by omega),h.2.1.put hk a,h.2.2.1.other' (by omega),h.2.2.2.1.other' (by omega),((h.2.2.2.2.setCell (by simp) _).setCell (by simp) _).setCell (by simp) _⟩
end
theorem pT (W:GRat) (v:Value) (l:List GRat) (m:Nat) (w:World) (hm:m<=1000) (hm0:0<m) (hW:sB m W) (hl:l.length<=1000) (hs:∀r∈l,sB m r) (hv:RL w v l):
  Calls prog 32 #[aN W,v] w fun e w'=>∃u,e= .returned u/\RL w' u ((gR (qOf W) (qL l)).map enc)/\Below w.heap.size w w':=by
 obtain ⟨a,cap,rfl,h1,h2⟩:=hv.open;have hmk:=fun (w:World)=>sE (P:=prog) underlying97 Tryz.infoRat w l.length (by omega) (by omega)
 have hmk':∀w:World,(Instr.makeSlice 97 (.int .i64 l.length) (.int .i64 l.length)).run prog w= .ok (.slice (some ⟨w.heap.size,0,none⟩) l.length l.length) (w.alloc (.cells (madeCells #[.bool false,.string {data:= #[]},.string {data:= #[]}] (l.length*3)) 32)):=hmk;have HSB:=hid hs;have HQ:=hid (zW hs hm0);have HWQ:=hid (hW.qB hm0);have HPW:=hid (fun w=>gG W m w hW (by omega) hm0);unfold aN at HPW;have hx0:=hid (Bx.new w W);clear hmk hs hW hv;unfold aN;go_enter func32,ntmps32
 go_wp2
 clear hmk';go_loopw [8,9,10,18] (fun _ _ _ i wr=>∃k:Nat,k<=l.length/\i= .int .i64 k/\RSt w wr W l.length (eK (qOf W) (qL l) l.length k) (enc (gS (qL l) k)) (enc (gO (qOf W) (qL l) k))) (fun _ _ _ i _=>l.length-(intOf i).toNat)
 case atStart=>
  refine ⟨0,Nat.zero_le _,rfl,?_⟩;rw [pS,wY,show gS (qL l) 0=0 from rfl,←ln];have e1:(w.alloc (.cells #[.bool W.neg,.string W.num,.string W.den] 32)).heap.size=w.heap.size+1:=by simp
  have r1:=OwnR.new (w.alloc (.cells #[.bool W.neg,.string W.num,.string W.den] 32)) l.length;rw [e1] at r1;generalize (Obj.cells (madeCells #[.bool false,.string {data:= #[]},.string {data:= #[]}] (l.length*3)) 32)=ob at *
  have e2:((w.alloc (.cells #[.bool W.neg,.string W.num,.string W.den] 32)).alloc ob).heap.size=w.heap.size+1+1:=by simp
  have b1:=Bx.new ((w.alloc (.cells #[.bool W.neg,.string W.num,.string W.den] 32)).alloc ob) gZ;rw [e2] at b1;have e3:(((w.alloc (.cells #[.bool W.neg,.string W.num,.string W.den] 32)).alloc ob).alloc (.cells #[.bool gZ.neg,.string gZ.num,.string gZ.den] 32)).heap.size=w.heap.size+1+1+1:=by simp
  have b2:=Bx.new (((w.alloc (.cells #[.bool W.neg,.string W.num,.string W.den] 32)).alloc ob).alloc (.cells #[.bool gZ.neg,.string gZ.num,.string gZ.den] 32)) gZ;rw [e3] at b2;exact ⟨((hx0.out.alloc _).alloc _).alloc _,(r1.alloc _).alloc _,b1.alloc _,b2,((((Below.refl _ _).alloc (Nat.le_refl _) _).alloc (by simp) _).alloc (by simp;omega) _).alloc (by simp;omega) _⟩
 case round=>
  obtain ⟨k,hk,rfl,hst⟩:=hrel;by_cases hlt:k<l.length
  ·rcases h2 with rfl|⟨b,off,rfl,hbb,h3⟩
   ·simp at hlt
   obtain ⟨g0,g1,g2,g3⟩:=h3 k hlt;rw [←hst.2.2.2.2.cell (p:=⟨b,off+k*3,none⟩) hbb] at g0;rw [←hst.2.2.2.2.cell (p:=⟨b,off+k*3+1,none⟩) hbb] at g1;rw [←hst.2.2.2.2.cell (p:=⟨b,off+k*3+2,none⟩) hbb] at g2;have hkb:k<=1000:=by omega
   have hmk1:m*(k+1)<=1000*1001:=Nat.mul_le_mul hm (by omega);have hmk2:m*(k+1+1)<=1000*1002:=Nat.mul_le_mul hm (by omega);have qx:qB m (qOf l[k]):=(HSB.out _ (List.getElem_mem hlt)).qB hm0;have q1:qB 2000000 (gS (qL l) k):=(wk HQ.out hm0 k).mono (by omega);have q2:qB 2000000 (gS (qL l) (k+1)):=(wk HQ.out hm0 (k+1)).mono (by omega);have q3:qB 3000000 (gO (qOf W) (qL l) k):=(su HWQ.out HQ.out hm0 k).mono (by omega);have q4:qB 3000000 (gO (qOf W) (qL l) (k+1)):=(su HWQ.out HQ.out hm0 (k+1)).mono (by omega);have q5:qB 2500000 (gS (qL l) (k+1)-fA (qOf W)):=(q2.sub (iG HWQ.out)).mono (by omega);have eS:gS (qL l) (k+1)=gS (qL l) k+fA (qOf l[k]):=by rw [rQ,wi _ _ hlt]
   have HPX:=hid (fun w=>gG l[k] m w (HSB.out _ (List.getElem_mem hlt)) (by omega) hm0);have HAD:=hid (fun w=>uZ (enc (gS (qL l) k)) (enc (fA (qOf l[k]))) 2000000 m w (eH q1) (eH (iG qx)) (by decide) (by omega) (by decide) hm0);rw [dK,dK,←eS] at HAD;have HSU:=hid (fun w=>iQ (enc (gS (qL l) (k+1))) (enc (fA (qOf W))) 2000000 m w (eH q2) (eH (iG HWQ.out)) (by decide) (by omega) (by decide) hm0);rw [dK,dK] at HSU;have HPD:=hid (fun w=>gG (enc (gS (qL l) (k+1)-fA (qOf W))) 2500000 w (eH q5) (by decide) (by decide));rw [dK,show fA (gS (qL l) (k+1)-fA (qOf W))=gO (qOf W) (qL l) (k+1) from rfl] at HPD;have HSB2:=hid (fun w=>iQ (enc (gO (qOf W) (qL l) (k+1))) (enc (gO (qOf W) (qL l) k)) 3000000 3000000 w (eH q4) (eH q3) (by decide) (by decide) (by decide) (by decide));rw [dK,dK] at HSB2;have HRS:=hid (q8 (qOf W) (qL l) l.length k);obtain ⟨x,hx⟩:∃x,x=l[k]:=⟨_,rfl⟩;rw [←hx] at g0 g1 g2 HPX HAD;generalize e9:eK (qOf W) (qL l) l.length (k+1)=rs' at *
   have E9:=hid e9;clear e9;generalize eK (qOf W) (qL l) l.length k=rs at *
   generalize enc (gO (qOf W) (qL l) (k+1)-gO (qOf W) (qL l) k)=rk at *
   generalize e8:enc (gO (qOf W) (qL l) (k+1))=ov at *
   have E8:=hid e8;clear e8;generalize enc (gO (qOf W) (qL l) k)=bf at *
   generalize enc (gS (qL l) (k+1)-fA (qOf W))=dd at *
   generalize e7:enc (gS (qL l) (k+1))=sm' at *
   have E7:=hid e7;clear e7;generalize enc (gS (qL l) k)=sm at *
   generalize enc (fA (qOf x))=px at *
   generalize enc (fA (qOf W))=pW at *
   have HST:=hid hst;obtain ⟨s0,s1,s2,s3,s4⟩:=hst.2.2.1.facts;unfold aN at HPX HAD HSU HPD HSB2;clear hx g3 h3 hmk1 hmk2 qx q1 q2 q3 q4 q5 eS hst;go_upto_region 6 with fail
   go_cut [] (fun wx=>RSt w wx W l.length rs sm' bf)
   case first=>
    go_region_with (first
     |(go_at_call 69;refine Calls.mono (HPX.out _) ?_;rintro e w1 ⟨rfl,hb1⟩;have st1:=RSt.next (RSt.drew (RSt.alloc HST.out _)) hb1;clear s0 s1 s2 s3 s4;obtain ⟨s0,s1,s2,s3,s4⟩:=st1.2.2.1.facts)
     |(go_at_call 68;refine Calls.mono (HAD.out _) ?_;rintro e w2 ⟨rfl,hb2⟩;have st2:=st1.next hb2;clear s0 s1 s2 s3 s4;obtain ⟨s0,s1,s2,s3,s4⟩:=st2.2.2.1.facts))
    all_goals (go_wp2;go_meet;exact st2.putS sm')
   case rest=>
    have st:=hcut;have HS3:=hid st;obtain ⟨s0,s1,s2,s3,s4⟩:=st.2.2.1.facts;obtain ⟨z0,z1,z2,z3,z4⟩:=st.1.facts;clear st hcut HST g0 g1 g2;go_upto_region 7 with fail
    go_cut [10] (fun s10 wx=>∃g:Nat,s10= .pointer (some ⟨g,0,none⟩)/\w.heap.size+1+1+1<g/\Bx wx g ov/\RSt w wx W l.length rs sm' bf)
    case first=>
     go_region_with (first
      |(go_at_call_of 69 (Value.agg #[.bool W.neg,.string W.num,.string W.den]);refine Calls.mono (HPW.out _) ?_;rintro e w1 ⟨rfl,hb1⟩;(first|have st1:=RSt.next (RSt.drew HS3.out) hb1|(have st1:=RSt.next (RSt.alloc (RSt.drew HS3.out) _) hb1;have bz:Bx w1 wc.heap.size gZ:=(Bx.new wc.drew gZ).below hb1;have bl:=HS3.out.lt));clear s0 s1 s2 s3 s4;obtain ⟨s0,s1,s2,s3,s4⟩:=st1.2.2.1.facts)
      |(go_at_call 70;refine Calls.mono (HSU.out _) ?_;rintro e w2 ⟨rfl,hb2⟩;(first|(have st2:=st1.next hb2;try replace bz:=bz.below hb2)|(have st2:=RSt.next (RSt.alloc st1 _) hb2;have bz:=(Bx.new w1 gZ).below hb2;have bl:=st1.lt)))
      |(go_at_call_of 69 (Value.agg #[.bool dd.neg,.string dd.num,.string dd.den]);refine Calls.mono (HPD.out _) ?_;rintro e w3 ⟨rfl,hb3⟩;(first|(have st3:=st2.next hb3;try replace bz:=bz.below hb3)|(have st3:=RSt.next (RSt.alloc st2 _) hb3;have bz:=(Bx.new w2 gZ).below hb3;have bl:=st2.lt));try obtain ⟨q0,q1,q2,q3,q4⟩:=bz.facts))
     all_goals (go_wp2;go_meet;(first|exact ⟨_,rfl,st3.lt,Bx.new _ ov,st3.alloc _⟩|exact ⟨_,rfl,bl,bz.put ov,st3.putG bl ov⟩))
    case rest=>
     clear s0 s1 s2 s3 s4 z0 z1 z2 z3 z4 HS3;obtain ⟨g,rfl,hg,hbx,hst⟩:=hcut;have HBX:=hid hbx;have HST:=hid hst;obtain ⟨s0,s1,s2,s3,s4⟩:=hbx.facts;obtain ⟨z0,z1,z2,z3,z4⟩:=hst.2.2.2.1.facts;clear hbx hst;go_upto_region 8 with fail
     go_cut [] (fun wx=>Bx wx g ov/\RSt w wx W l.length rs' sm' bf)
     case first=>
      go_wp2_with fail
      refine Calls.mono (HSB2.out _) ?_;rintro e w1 ⟨rfl,hb1⟩;have st1:=HST.out.next hb1;have bx1:=HBX.out.below hb1;clear s0 s1 s2 s3 s4 z0 z1 z2 z3 z4;obtain ⟨s0,s1,s2,s3,s4⟩:=st1.2.1.facts hlt;go_wp2
      go_meet
      refine ⟨bx1.other' (by omega),?_⟩;have:=st1.putR hlt rk;rw [HRS.out] at this;exact this
     case rest=>
      clear s0 s1 s2 s3 s4 z0 z1 z2 z3 z4 HBX HST;obtain ⟨hbx,hst⟩:=hcut;have HST:=hid hst;obtain ⟨s0,s1,s2,s3,s4⟩:=hbx.facts;obtain ⟨z0,z1,z2,z3,z4⟩:=hst.2.2.2.1.facts;clear hbx hst;go_wp2
      go_roundw
      case rel=>exact ⟨k+1,hlt,by go_num,by rw [E9.out,E8.out,E7.out];exact HST.out.putO ov⟩
      case measure=>simp [intOf];omega
  have hk':k=l.length:=by omega
  have hR:=OwnR.reads hst.2.1 (by unfold maxLen;omega);rw [hk'] at hR;have e1:=ra (qOf W) (qL l);rw [wj] at e1;rw [e1] at hR;have hsz:∀r∈(gR (qOf W) (qL l)).map enc,sB maxLen r:=by
   intro r hr;obtain ⟨q,hq,rfl⟩:=List.mem_map.1 hr;obtain ⟨j,hj,rfl⟩:=List.mem_map.1 hq;have hj':j<l.length:=by simpa [wj] using hj
   have hmk1:m*(j+1)<=1000*1001:=Nat.mul_le_mul hm (by omega);have hmk2:m*(j+1+1)<=1000*1002:=Nat.mul_le_mul hm (by omega);have a1:=su HWQ.out HQ.out hm0 (j+1);have a2:=su HWQ.out HQ.out hm0 j;exact (eH (a1.sub a2)).mono (by unfold maxLen;omega)
  have HR:=hid (hR hsz);have HB:=hid hst.2.2.2.2;clear hR e1 hsz hst hk';go_wp2
  go_ret
  exact ⟨_,rfl,HR.out,HB.out⟩
end Go.Proofs.YtcgpghifhehlhaaGreatDoor
